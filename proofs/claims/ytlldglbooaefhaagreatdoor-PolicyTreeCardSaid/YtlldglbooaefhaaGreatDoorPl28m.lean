/- Plain Lean: lines of a policy as they are read, one by one (28.5). By an AI agent. -/
import Derived.Test.YtlldglbooaefhaaGreatDoorHzU1
import Derived.Test.YtlldglbooaefhaaGreatDoorHzSb
import Derived.Test.YtlldglbooaefhaaGreatDoorHzTz
import Derived.Test.YtlldglbooaefhaaGreatDoorHzT7
import Derived.Test.YtlldglbooaefhaaGreatDoorPl11q
import Derived.Test.YtlldglbooaefhaaGreatDoorHlIt
set_option linter.unusedSimpArgs false
set_option linter.unusedVariables false
set_option linter.defProp false
namespace Go.Proofs.YtlldglbooaefhaaGreatDoor
open Go Go.Hl Go.Pl
set_option maxRecDepth 10000
set_option maxHeartbeats 16000000

def tp (L : List Int) (a : Nat) : CV := .agg [.slc (L.map (.int .i64)), .int .i64 a]
attribute [local simp] tp

theorem fM (L : List Int) (a : Nat) (n : Int) (ha : a < 2 ^ 40) (hn : n < 2 ^ 40) : aX2 Tryz.prog 36 83 (tp L a) [.int .i64 n] (fun u v' => ∃ (x : Int) (a' : Nat), u = .int .i64 x ∧ v' = tp L a' ∧ a' ≤ a + 1 ∧ 0 ≤ x ∧ (n < 1 → x = 0) ∧ (1 ≤ n → x < n)) := by
 refine bT Tryz.func36 rfl (by kernel_rfl) (cY _ _ _) (Nat.le_of_ble_eq_true rfl) ?_
 refine R0 ?_
 refine aC fun K hK => ?_
 refine R0 ?_
 refine aH (b := decide (n < 1)) rfl (fun hb => ?_) (fun hb => ?_)
 ·
  refine R0 ?_
  refine aF (RT Tryz.results36 ?_)
  refine fG [] (.int .i64 0) (tp L a) rfl rfl ?_ (by simp) ⟨0, a, rfl, rfl, by omega, by omega, fun _ => rfl, fun h => by omega⟩
  simp [HV.close, tp, CV.denil, CV.denilL, denilL_int, HV.norm, HV.toC]
 refine aJ ?_
 refine T0 (hK _ _ _ ?_)
 clear hK K
 refine RS ?_
 iterate 7 refine S0 ?_ (e := fun _ h_ => by simp only [sH, ↓sP, sA, tyS, simprocAttr, tp]; exact AX h_)
 refine RE ?_
 refine aC fun K hK => ?_
 have key : ∀ (v : Int) fr ob nx, Fits 1 fr ob (fin [(0, .ptr 0 0), (1, .c (.int .i64 n)), (5, .c (.int .i64 v))]) (fob [(0, .box 83 (.c (tp L a)))]) 300 → K fr ob nx := by
  intro v fr ob nx hf
  refine hK _ _ _ (bR hf ?_)
  clear hf hK K
  have hn1 : 1 ≤ n := by simp at hb; omega
  have e0 := Int.tmod_lt_of_pos v (b := n) (by omega)
  have e1 : -n < v.tmod n := Int.lt_tmod_of_pos v (by omega)
  refine RS ?_
  iterate 8 refine S0 ?_ (e := fun _ h_ => by simp only [sH, ↓sP, sA, tyS, simprocAttr, tp]; exact AX h_)
  refine RE ?_
  refine RS ?_
  iterate 8 refine S0 ?_ (e := fun _ h_ => by simp only [sH, ↓sP, sA, tyS, simprocAttr, tp]; exact AX h_)
  refine RE ?_
  refine aF (RT Tryz.results36 ?_)
  have e2 : IntKind.i64.wrap (v.tmod n + n) = v.tmod n + n := IntWalk.i64_in _ (by omega)
  have e3 : IntKind.i64.wrap ((a : Int) + 1) = ((a + 1 : Nat) : Int) := IntWalk.i64_in _ (by omega)
  refine fG [] (.int .i64 ((v.tmod n + n).tmod n)) (tp L (a + 1)) (by rw [e2]; rfl) rfl ?_ (by simp) ⟨_, a + 1, rfl, rfl, by omega, Int.tmod_nonneg _ (by omega), fun h => by omega, fun _ => Int.tmod_lt_of_pos _ (by omega)⟩
  simp [HV.close, HV.closeL, tp, CV.denil, CV.denilL, denilL_int, HV.norm, HV.toC, HV.toCL, e3]
 refine aC fun K hK => QR ?_
 iterate 10 refine S0 ?_ (e := fun _ h_ => by simp only [sH, ↓sP, sA, tyS, simprocAttr, tp]; exact AX h_)
 refine T2 (hK _ _ _ ?_)
 clear hK K
 refine aH (b := decide ((a : Int) < L.length)) rfl (fun hb => ?_) (fun hb => ?_)
 ·
  refine QW ?_
  simp only [sR, simprocAttr]
  iterate 11 refine S0 ?_ (e := fun _ h_ => by simp only [sH, ↓sP, sA, tyS, simprocAttr, tp, Int.natCast_nonneg, (by simpa using hb : (a : Int) < L.length), bA (show a < L.length by simpa using hb)]; exact AX h_)
  refine T4 ?_
  exact key (L[a]'(by simpa using hb)) _ _ _ (fF)
 refine aJ (T3 ?_)
 exact key (IntKind.i64.wrap (IntKind.i64.wrap (↑a * 7) + 3)) _ _ _ (fF)


theorem bT6 (L : List Int) (a : Nat) (l : List aE) (ha : a < 2 ^ 40) (hl : 1 ≤ l.length ∧ l.length < 2 ^ 40) : aX2 Tryz.prog 35 83 (tp L a) [.slc (l.map .str)] (fun u v' => ∃ (w : aE) (a' : Nat), u = .str w ∧ w ∈ l ∧ v' = tp L a' ∧ a' ≤ a + 1) := by
 refine bT Tryz.func35 rfl (by kernel_rfl) (cY _ _ _) (Nat.le_of_ble_eq_true rfl) ?_
 refine R0 ?_
 refine aC fun K hK => aL (by kernel_rfl) ?_
 simp only [↓sP, sA, tyS, simprocAttr]
 refine bZ (args := [_]) (fM L a l.length ha (by omega)) rfl (by simp) ⟨rfl, rfl, rfl, rfl⟩ ?_
 rintro u v' ⟨x, a', rfl, rfl, h1, h2, h3, h4⟩
 obtain ⟨i, rfl⟩ : ∃ i : Nat, x = i := ⟨x.toNat, by omega⟩
 have hlt : i < l.length := by omega
 simp only [↓sP, sA, tyS, simprocAttr, Int.natCast_nonneg, Int.ofNat_lt, hlt, bA hlt]
 refine AX (hK _ _ _ ?_)
 clear hK K
 refine aF (RT Tryz.results35 ?_)
 exact fG [] (.str l[i]) (tp L a') rfl rfl (by simp [HV.close, HV.closeL, tp, CV.denil, CV.denilL, denilL_int, HV.norm, HV.toC, HV.toCL]) (by simp) ⟨_, a', rfl, List.getElem_mem _, rfl, h1⟩


end Go.Proofs.YtlldglbooaefhaaGreatDoor

namespace Go.Proofs.YtlldglbooaefhaaGreatDoor
open Go Go.Hl Go.Pl
set_option maxRecDepth 10000
set_option maxHeartbeats 16000000

theorem bT7 (L : List Int) (n : Nat) : HGe Tryz.prog 24 [.c (.slc (L.map (.int .i64))), .c (.int .i64 n)] [] (fun r os' => r = .ptr 0 0 ∧ os' = [.box 83 (.c (tp (L.take n) 0))]) := by
 refine bT (args := [.c (.slc (L.map (.int .i64))), .c (.int .i64 n)]) Tryz.func24 rfl (by kernel_rfl) (iD rfl (by simp [fX]) (by simp [HV.menL, HV.men])) (Nat.le_of_ble_eq_true rfl) ?_
 show Hw _ _ 0 _ _ _ (lst _) 0
 rw [show lst [] = fob [] from by funext i; simp [lst, fob]]
 refine R0 ?_
 refine RS ?_
 have F := @denilL_int
 refine AU ?_
 refine aF (RT Tryz.results24 ?_)
 refine eI [] [32] (.ptr 0 0) [.box 83 (.c (tp (L.take n) 0))] rfl (by simp [HV.men]) ⟨⟨by simp [HO.men, HV.men], by simp, _, rfl, ?_⟩, trivial⟩ rfl (by simp) (by simp) (by simp) ⟨rfl, rfl⟩
 simp [HO.close, HV.close, HV.closeL, HO.ren, HV.ren, HV.renL, tau, CV.denil, CV.denilL, denilL_int, HV.norm, gC, upd_at, fob_at, HV.toC, HV.toCL, tp]
 have e : (if n < L.length then (n : Int) else (L.length : Int)).toNat = min n L.length := by split <;> omega
 rw [e, ← List.map_take, ← List.map_take, denilL_int, ← List.take_eq_take_min]


theorem bT8 (L : List Int) (a : Nat) (ha : a < 2 ^ 39) : aX2 Tryz.prog 41 83 (tp L a) [] (fun u v' => ∃ (q : Rq) (a' : Nat), u = q.cv ∧ v' = tp L a' ∧ a' ≤ a + 3 ∧ dB q = true) := by
 refine bT Tryz.func41 rfl (by kernel_rfl) (cY _ _ _) (Nat.le_of_ble_eq_true rfl) ?_
 have hw3 : ∀ x : Int, 0 ≤ x → x < 100 → IntKind.i64.wrap (1 + x) = 1 + x := fun x h1 h2 => IntWalk.i64_in _ (by omega)
 refine R0 ?_
 refine aC fun K hK => Rg ?_
 refine S0 ?_
 refine HS rfl rfl fun K' hK' => T5 ?_
 refine bZ (args := [_]) (fM L a 8 (by omega) (by omega)) rfl (by simp) ⟨rfl, rfl, rfl, rfl⟩ ?_
 rintro u v' ⟨x, a1, rfl, rfl, h1, h2, h3, h4⟩
 refine AX (hK' _ _ ?_)
 clear hK' K'
 refine AU ?_
 refine T2 (hK _ _ _ ?_)
 clear hK K
 refine aC fun K hK => ?_
 have key : ∀ (q : Rq) (a' : Nat) fr ob nx, dB q = true → a' ≤ a + 3 → Fits 1 fr ob (fin [(2, .ptr 1 0), (3, .ptr 21 0)]) (fob [(0, .box 83 (.c (tp L a'))), (1, .box 38 (.c rq0.cv)), (21, .box 38 (.c q.cv))]) 600 → K fr ob nx := by
  rintro q a' fr ob nx hq ha' hf
  refine hK _ _ _ (bR hf ?_)
  clear hf hK K
  refine R0 ?_
  refine aF (RT Tryz.results41 ?_)
  exact fG [] q.cv (tp L a') (by simp [HV.close, Rq.denil, HV.norm, HV.toC]) rfl (by simp [HV.close, tp, CV.denil, CV.denilL, denilL_int, HV.norm, HV.toC]) (by simp) ⟨q, a', rfl, rfl, ha', hq⟩
 have hx8 := h4 (by omega)
 obtain ⟨k, hk⟩ : ∃ k, k = IntKind.i64.wrap (1 + x) := ⟨_, rfl⟩
 have hkx : k = 1 + x := by rw [hk, hw3 x h2 (by omega)]
 rw [← hk]
 clear hk h3 h4
 refine R0 ?_
 refine aK ?_
 refine aC fun K hK => ?_
 have key2 : ∀ (b : Bool) fr ob nx, b = (k == 1 || (k == 3 || k == 5)) → Fits 1 fr ob (fin [(0, .ptr 0 0), (2, .ptr 1 0), (3, .ptr 21 0), (9, .c (.int .i64 k)), (10, .c (.bool b))]) (fob [(0, .box 83 (.c (tp L a1))), (1, .box 38 (.c rq0.cv)), (21, .box 38 (.c (Rq.cv ⟨k, 0, 0, []⟩)))]) 200 → K fr ob nx := by
  rintro b fr ob nx rfl hf
  refine hK _ _ _ (bR hf ?_)
  clear hf hK K
  refine aH (b := _) rfl (fun hb => ?_) (fun hb => ?_)
  ·
   refine Rg ?_
   refine S0 ?_
   refine HS rfl rfl fun K' hK' => T5 ?_
   refine bZ (args := [_]) (fM L a1 3 (by omega) (by omega)) rfl (by simp) ⟨rfl, rfl, rfl, rfl⟩ ?_
   rintro u v' ⟨y, a2, rfl, rfl, g1, g2, g3, g4⟩
   refine AX (hK' _ _ ?_)
   clear hK' K'
   refine AU ?_
   refine T4 ?_
   have g5 := g4 (by omega)
   have hk3 : k = 1 ∨ k = 3 ∨ k = 5 := by simpa using hb
   exact key ⟨k, IntKind.i64.wrap (1 + y), 0, []⟩ a2 _ _ _ (by rw [hw3 y g2 (by omega), dB, if_pos hk3]; simp [inB]; omega) (by omega) (fF)
  have h1 := hb
  refine R0 ?_
  refine aH (b := _) rfl (fun hb => ?_) (fun hb => ?_)
  ·
   refine Rg ?_
   refine S0 ?_
   refine HS rfl rfl fun K' hK' => T5 ?_
   refine bZ (args := [_]) (fM L a1 2 (by omega) (by omega)) rfl (by simp) ⟨rfl, rfl, rfl, rfl⟩ ?_
   rintro u v' ⟨y, a2, rfl, rfl, g1, g2, g3, g4⟩
   have g5 := g4 (by omega)
   clear g3 g4
   refine AX (hK' _ _ ?_)
   clear hK' K'
   refine AU ?_
   refine HS rfl rfl fun K' hK' => T5 ?_
   refine bZ (args := [_]) (fM L a2 2 (by omega) (by omega)) rfl (by simp) ⟨rfl, rfl, rfl, rfl⟩ ?_
   rintro u v' ⟨z, a3, rfl, rfl, f1, f2, f3, f4⟩
   refine AX (hK' _ _ ?_)
   clear hK' K'
   refine AU ?_
   refine T4 ?_
   have n1 : ¬ (k = 1 ∨ k = 3 ∨ k = 5) := by simpa using h1
   have f5 := f4 (by omega)
   have hk4 : k = 4 := by simpa using hb
   exact key ⟨k, IntKind.i64.wrap (1 + y), z, []⟩ a3 _ _ _ (by rw [hw3 y g2 (by omega), dB, if_neg n1, if_pos hk4]; simp [inB]; omega) (by omega) (fF)
  have n4 : ¬ k = 4 := by simpa using hb
  refine R0 ?_
  refine aH (b := _) rfl (fun hb => ?_) (fun hb => ?_)
  ·
   refine bB (by kernel_rfl) ?_
   simp only [sR, simprocAttr]
   refine SG0 ?_
   refine cV (g := none) 220 rfl rfl fun K' hK' => ?_
   simp only [iA, kY, sH, ↓sP, sA, tyS, simprocAttr]
   repeat refine AI ?_
   refine dJ (by first | rfl | simp) ?_
   try simp only [sH, ↓sP, sA, tyS, simprocAttr]
   refine AX (hK' _ _ ?_)
   clear hK' K'
   refine bI (g := none) rfl rfl fun K' hK' => T5 ?_
   refine bZ (args := [_]) (bT6 L a1 [[115, 104, 111, 112], [119, 101, 98]] (by omega) (by decide)) rfl (by simp) ⟨rfl, rfl, rfl, rfl⟩ ?_
   rintro u v' ⟨w, a2, rfl, hwm, rfl, g1⟩
   refine AX (hK' _ _ ?_)
   clear hK' K'
   iterate 2 refine SG0 ?_
   refine T4 ?_
   have n1 : ¬ (k = 1 ∨ k = 3 ∨ k = 5) := by simpa using h1
   have hk2 : k = 2 := by simpa using hb
   exact key ⟨k, 0, 0, w⟩ a2 _ _ _ (by
    have hnm : dN w = true := by
     simp only [List.mem_cons, List.not_mem_nil, or_false] at hwm
     rcases hwm with rfl | rfl <;> decide
    rw [dB, if_neg n1, if_neg n4, if_pos hk2, hnm]; rfl) (by omega) (fF)
  have n2 : ¬ k = 2 := by simpa using hb
  refine R0 ?_
  refine aH (b := _) rfl (fun hb => ?_) (fun hb => ?_)
  ·
   refine Rg ?_
   refine S0 ?_
   refine HS rfl rfl fun K' hK' => T5 ?_
   refine bZ (args := [_]) (fM L a1 10 (by omega) (by omega)) rfl (by simp) ⟨rfl, rfl, rfl, rfl⟩ ?_
   rintro u v' ⟨y, a2, rfl, rfl, g1, g2, g3, g4⟩
   refine AX (hK' _ _ ?_)
   clear hK' K'
   refine AU ?_
   refine T4 ?_
   have n1 : ¬ (k = 1 ∨ k = 3 ∨ k = 5) := by simpa using h1
   have g5 := g4 (by omega)
   have hk6 : k = 6 := by simpa using hb
   exact key ⟨k, IntKind.i64.wrap (1 + y), 0, []⟩ a2 _ _ _ (by rw [hw3 y g2 (by omega), dB, if_neg n1, if_neg n4, if_neg n2, if_pos hk6]; simp [inB]; omega) (by omega) (fF)
  have n6 : ¬ k = 6 := by simpa using hb
  refine R0 ?_
  refine aH (b := _) rfl (fun hb => ?_) (fun hb => ?_)
  ·
   refine Rg ?_
   refine S0 ?_
   refine HS rfl rfl fun K' hK' => T5 ?_
   refine bZ (args := [_]) (fM L a1 30 (by omega) (by omega)) rfl (by simp) ⟨rfl, rfl, rfl, rfl⟩ ?_
   rintro u v' ⟨y, a2, rfl, rfl, g1, g2, g3, g4⟩
   refine AX (hK' _ _ ?_)
   clear hK' K'
   refine AU ?_
   refine T4 ?_
   have n1 : ¬ (k = 1 ∨ k = 3 ∨ k = 5) := by simpa using h1
   have g5 := g4 (by omega)
   have hk7 : k = 7 := by simpa using hb
   exact key ⟨k, y, 0, []⟩ a2 _ _ _ (by rw [dB, if_neg n1, if_neg n4, if_neg n2, if_neg n6, if_pos hk7, iG]; simp [inB]; omega) (by omega) (fF)
  refine aJ (T3 ?_)
  have n1 : ¬ (k = 1 ∨ k = 3 ∨ k = 5) := by simpa using h1
  have n7 : ¬ k = 7 := by simpa using hb
  have hk8 : k = 8 := by omega
  exact key ⟨k, 0, 0, []⟩ a1 _ _ _ (by rw [dB, if_neg n1, if_neg n4, if_neg n2, if_neg n6, if_neg n7, if_pos hk8]; rfl) (by omega) (fF)
 refine R0 ?_
 refine aH (b := _) rfl (fun hb => ?_) (fun hb => ?_)
 ·
  refine aJ (T3 ?_)
  exact key2 (k == 1) _ _ _ (by rw [hb]; rfl) (aN (by omega) (by simp [aZ, fin_at, finA_at, upd_at, HV.men, HV.menL, HV.norm, HV.toC, HV.toCL, Rq.cv, rq0]) (by simp [aW, fob_at, upd_at, none0_at, bY, HO.men, HV.men, HV.menL, HV.norm, HV.toC, HV.toCL, Rq.cv, rq0]))
 have h1 := hb
 refine R0 ?_
 refine aH (b := _) rfl (fun hb => ?_) (fun hb => ?_)
 ·
  refine aJ (T3 ?_)
  exact key2 (k == 3) _ _ _ (by rw [h1, hb]; rfl) (aN (by omega) (by simp [aZ, fin_at, finA_at, upd_at, HV.men, HV.menL, HV.norm, HV.toC, HV.toCL, Rq.cv, rq0]) (by simp [aW, fob_at, upd_at, none0_at, bY, HO.men, HV.men, HV.menL, HV.norm, HV.toC, HV.toCL, Rq.cv, rq0]))
 have h1' := hb
 refine aL (by kernel_rfl) ?_
 simp only [↓sP, sA, tyS, simprocAttr]
 exact key2 (k == 5) _ _ _ (by rw [h1, h1']; rfl) (aN (by omega) (by simp [aZ, fin_at, finA_at, upd_at, HV.men, HV.menL, HV.norm, HV.toC, HV.toCL, Rq.cv, rq0]) (by simp [aW, fob_at, upd_at, none0_at, bY, HO.men, HV.men, HV.menL, HV.norm, HV.toC, HV.toCL, Rq.cv, rq0]))

end Go.Proofs.YtlldglbooaefhaaGreatDoor

namespace Go.Proofs.YtlldglbooaefhaaGreatDoor
open Go Go.Hl Go.Pl
set_option maxRecDepth 10000
set_option maxHeartbeats 16000000

def ShN (T : List Nd) : Prop := ∀ n ∈ T, n.q.t.length < 2 ^ 63
theorem ShN.set {T : List Nd} (h : ShN T) (i : Nat) {x : Nd} (hx : x.q.t.length < 2 ^ 63) : ShN (T.set i x) := fun n hn => by
 rcases List.mem_or_eq_of_mem_set hn with h1 | rfl
 ·
  exact h n h1
 exact hx
theorem bM2 (n : Nat) : HV.ren (sub [] n) (.ptr 0 0) = .ptr n 0 := by simp [HV.ren, sub]
theorem bB4 (n : Nat) (ob : Ob) (t : TypeId) (v : CV) : lP (sub [] n) ob 0 [.box t (.c v)] = upd ob n (some (.box t (.c v))) := by simp [lP, sub, HO.ren, HV.ren]
theorem bM3 {q : Rq} (h : dB q = true) : q.t.length < 2 ^ 63 := by
 unfold dB at h
 repeat' split at h
 all_goals first
  | cases h; done
  | (simp only [Bool.and_eq_true, beq_iff_eq] at h; have := h.2.2; rw [this]; simp; done)
  | (simp only [Bool.and_eq_true] at h; exact Nat.lt_of_le_of_lt (bJ9 h.1).2 (by decide))
theorem bB5 (l : List Nd) : (∀ v ∈ l.map Nd.cv, v.cells = 7) = True := by
 simp only [eq_iff_iff, iff_true]
 intro v hv
 obtain ⟨x, _, rfl⟩ := List.mem_map.1 hv
 exact x.cells
theorem eS (T : List Nd) (i : Nat) (x : Nd) : (List.map Nd.cv T).set i x.cv = List.map Nd.cv (T.set i x) := by rw [List.map_set]
theorem dX (T : List Nd) (i : Nat) (x y : Nd) : (T.set i x).set i y = T.set i y := by rw [List.set_set]
theorem eT {T : List Nd} {i : Nat} (hi : i < T.length) (x : Nd) : nth (List.map Nd.cv (T.set i x)) i = x.cv := by
 rw [bA (by simpa using hi)]; simp
theorem iL {T : List Nd} {i : Nat} (hi : i < T.length) (x : Nd) : (T.set i x = []) = False := by
 simp only [eq_iff_iff, iff_false]
 intro h
 have := congrArg List.length h
 rw [List.length_set, List.length_nil] at this
 omega
theorem eU {T : List Nd} {i : Nat} (hi : i < T.length) : (T = []) = False := by
 simp only [eq_iff_iff, iff_false]
 intro h
 rw [h] at hi; cases hi

theorem bZ7 (l : List Nd) (hl : ShN l) (L : List Int) : bN Tryz.prog 12 [.slc (l.map Nd.cv), .slc (L.map (.int .i64))] (fun v => ∃ T : List Nd, v = .slc (T.map Nd.cv) ∧ T.length ≤ 70 ∧ ShN T) := by
 refine FW Tryz.func12 ?_
 refine R0 ?_
 refine aC fun K hK => Rg ?_
 have F := @denilL_int
 refine SF ?_
 refine HS rfl rfl fun K' hK' => T6 ?_
 refine kD [] (bT7 L 60) rfl trivial (by simp) (by simp) ⟨rfl, rfl, rfl, rfl⟩ (by simp [fX]) (by simp [HV.menL, HV.men]) ?_
 rintro r os' ⟨rfl, rfl⟩
 rw [bM2, bB4]
 refine AX (hK' _ _ ?_)
 clear hK' K'
 refine SF ?_
 refine T2 (hK _ _ _ ?_)
 clear hK K
 obtain ⟨m, hm⟩ : ∃ m, m = min 70 l.length := ⟨_, rfl⟩
 have hm1 : m ≤ 70 := by omega
 have hm2 : m ≤ l.length := by omega
 have e : (if (70 : Int) < (l.length : Int) then (70 : Int) else (l.length : Int)) = (m : Int) := by split <;> omega
 refine RS ?_
 iterate 7 refine S0 ?_ (e := fun _ h_ => by simp only [sH, ↓sP, sA, tyS, simprocAttr, e, bB5, Int.natCast_nonneg, Int.ofNat_le, hm2, Int.toNat_natCast, Nat.sub_zero, List.drop_zero, denilL_Nd, ← List.map_take, List.length_map]; exact AX h_)
 refine RE ?_
 refine aC fun K hK => ?_
 have hTl : (l.take m).length = m := by simp; omega
 have hT0 : ShN (l.take m) := fun n hn => hl n (List.mem_of_mem_take hn)
 refine R0 ?_
 refine aK ?_
 refine bE (α := {y : List Nd × Nat × Nat // y.1.length = m ∧ y.2.1 ≤ m ∧ y.2.2 ≤ 20 * y.2.1 ∧ ShN y.1}) (fun y => (fin [(5, .ptr 8 0), (6, .own 36 y.1.1.length), (7, .c (.int .i64 y.1.2.1))], fob [(8, .box 83 (.c (tp (L.take 60) y.1.2.2))), (36, .row 40 7 (y.1.1.map Nd.cv))])) 2000 (fun y => m - y.1.2.1) ⟨(l.take m, 0, 0), hTl, Nat.zero_le _, Nat.zero_le _, hT0⟩ (aN (by omega) (by simp [aZ, fin_at, finA_at, upd_at, HV.men, HV.menL, HV.norm, HV.toC, HV.toCL, ← List.map_take]) (by simp [aW, fob_at, upd_at, none0_at, bY, HO.men, HV.men, HV.menL, HV.norm, HV.toC, HV.toCL, ← List.map_take])) ?_
 rintro ⟨⟨T, i, a⟩, g1, g2, g3, g4⟩
 simp only at g1 g2 g3 g4
 refine aC fun K hK => ?_
 refine AU ?_
 refine aH (b := decide ((i : Int) < T.length)) rfl (fun hb => ?_) (fun hb => ?_)
 ·
  have hlt : i < T.length := by simpa using hb
  clear hb
  refine aJ ?_
  refine T0 (hK _ _ _ ?_)
  clear hK K
  refine aC fun K hK => ?_
  have key : ∀ (T' : List Nd) (a' : Nat) fr ob nx, T'.length = m → a' ≤ 20 * (i + 1) → ShN T' → Fits 0 fr ob (fin [(5, .ptr 8 0), (6, .own 36 T'.length), (7, .c (.int .i64 i))]) (fob [(8, .box 83 (.c (tp (L.take 60) a'))), (36, .row 40 7 (T'.map Nd.cv))]) 3000 → K fr ob nx := by
   rintro T' a' fr ob nx k1 k2 k3 hf
   refine hK _ _ _ (bR hf ?_)
   clear hf hK K
   refine Rg ?_
   have F := IntWalk.i64_in ((i : Int) + 1) (by omega)
   refine AU ?_
   refine T4 ?_
   refine ⟨⟨(T', i + 1, a'), k1, by simp only; omega, k2, k3⟩, fF, ?_⟩
   show m - (i + 1) < m - i
   omega
  refine aK ?_
  refine aC fun K hK => Rg ?_
  refine S0 ?_
  refine HS rfl rfl fun K' hK' => T5 ?_
  refine bZ (args := [_]) (fM (L.take 60) a 2 (by omega) (by omega)) rfl (by simp) ⟨rfl, rfl, rfl, rfl⟩ ?_
  rintro u v' ⟨x, a1, rfl, rfl, p1, p2, p3, p4⟩
  refine AX (hK' _ _ ?_)
  clear hK' K'
  refine S0 ?_
  refine T2 (hK _ _ _ ?_)
  clear hK K
  refine aH (b := _) rfl (fun hb => ?_) (fun hb => ?_)
  ·
   refine aC fun K hK => Rg ?_
   iterate 9 refine S0 ?_ (e := fun _ h_ => by simp only [sH, ↓sP, sA, tyS, simprocAttr, Int.natCast_nonneg, Int.ofNat_lt, hlt, bA hlt, eS, dX, eT hlt, iL hlt, eU hlt, List.length_set, List.length_map, List.map_eq_nil_iff]; exact AX h_)
   refine HS rfl rfl fun K' hK' => ?_
   simp only [sH, ↓sP, sA, tyS, simprocAttr, Int.natCast_nonneg, Int.ofNat_lt, hlt, bA hlt, eS, dX, eT hlt, iL hlt, eU hlt, List.length_set, List.length_map, List.map_eq_nil_iff]
   refine bZ (args := [_]) (fM (L.take 60) a1 4 (by omega) (by omega)) rfl (by simp) ⟨rfl, rfl, rfl, rfl⟩ ?_
   rintro u v' ⟨x2, a2, rfl, rfl, q1, q2, q3, q4⟩
   refine AX (hK' _ _ ?_)
   clear hK' K'
   iterate 2 refine S0 ?_ (e := fun _ h_ => by simp only [sH, ↓sP, sA, tyS, simprocAttr, Int.natCast_nonneg, Int.ofNat_lt, hlt, bA hlt, eS, dX, eT hlt, iL hlt, eU hlt, List.length_set, List.length_map, List.map_eq_nil_iff]; exact AX h_)
   refine HS rfl rfl fun K' hK' => ?_
   simp only [sH, ↓sP, sA, tyS, simprocAttr, Int.natCast_nonneg, Int.ofNat_lt, hlt, bA hlt, eS, dX, eT hlt, iL hlt, eU hlt, List.length_set, List.length_map, List.map_eq_nil_iff]
   refine bZ (args := [_]) (fM (L.take 60) a2 3 (by omega) (by omega)) rfl (by simp) ⟨rfl, rfl, rfl, rfl⟩ ?_
   rintro u v' ⟨x3, a3, rfl, rfl, r1, r2, r3, r4⟩
   refine AX (hK' _ _ ?_)
   clear hK' K'
   iterate 13 refine S0 ?_ (e := fun _ h_ => by simp only [sH, ↓sP, sA, tyS, simprocAttr, Int.natCast_nonneg, Int.ofNat_lt, hlt, bA hlt, eS, dX, eT hlt, iL hlt, eU hlt, List.length_set, List.length_map, List.map_eq_nil_iff]; exact AX h_)
   refine T2 (hK _ _ _ ?_)
   clear hK K
   refine aC fun K hK => ?_
   refine RS ?_
   iterate 6 refine S0 ?_ (e := fun _ h_ => by simp only [sH, ↓sP, sA, tyS, simprocAttr, Int.natCast_nonneg, Int.ofNat_lt, hlt, bA hlt, eS, dX, eT hlt, iL hlt, eU hlt, List.length_set, List.length_map, List.map_eq_nil_iff]; exact AX h_)
   refine RE ?_
   refine aH (b := _) rfl (fun hb => ?_) (fun hb => ?_)
   ·
    refine Rg ?_
    iterate 5 refine S0 ?_ (e := fun _ h_ => by simp only [sH, ↓sP, sA, tyS, simprocAttr, Int.natCast_nonneg, Int.ofNat_lt, hlt, bA hlt, eS, dX, eT hlt, iL hlt, eU hlt, List.length_set, List.length_map, List.map_eq_nil_iff]; exact AX h_)
    refine HS rfl rfl fun K' hK' => ?_
    simp only [sH, ↓sP, sA, tyS, simprocAttr, Int.natCast_nonneg, Int.ofNat_lt, hlt, bA hlt, eS, dX, eT hlt, iL hlt, eU hlt, List.length_set, List.length_map, List.map_eq_nil_iff]
    refine bZ (args := []) (bT8 (L.take 60) a3 (by omega)) rfl (by simp) ⟨rfl, rfl, rfl, rfl⟩ ?_
    rintro u v' ⟨q, a4, rfl, rfl, s1, s2⟩
    refine AX (hK' _ _ ?_)
    clear hK' K'
    iterate 6 refine S0 ?_ (e := fun _ h_ => by simp only [sH, ↓sP, sA, tyS, simprocAttr, Int.natCast_nonneg, Int.ofNat_lt, hlt, bA hlt, eS, dX, eT hlt, iL hlt, eU hlt, List.length_set, List.length_map, List.map_eq_nil_iff]; exact AX h_)
    refine T2 (hK _ _ _ ?_)
    clear hK K
    refine RS ?_
    iterate 6 refine S0 ?_ (e := fun _ h_ => by simp only [sH, ↓sP, sA, tyS, simprocAttr, Int.natCast_nonneg, Int.ofNat_lt, hlt, bA hlt, eS, dX, eT hlt, iL hlt, eU hlt, List.length_set, List.length_map, List.map_eq_nil_iff]; exact AX h_)
    refine RE ?_
    refine aH (b := _) rfl (fun hb => ?_) (fun hb => ?_)
    ·
     refine Rg ?_
     iterate 3 refine S0 ?_ (e := fun _ h_ => by simp only [sH, ↓sP, sA, tyS, simprocAttr, Int.natCast_nonneg, Int.ofNat_lt, hlt, bA hlt, eS, dX, eT hlt, iL hlt, eU hlt, List.length_set, List.length_map, List.map_eq_nil_iff]; exact AX h_)
     refine HS rfl rfl fun K' hK' => ?_
     simp only [sH, ↓sP, sA, tyS, simprocAttr, Int.natCast_nonneg, Int.ofNat_lt, hlt, bA hlt, eS, dX, eT hlt, iL hlt, eU hlt, List.length_set, List.length_map, List.map_eq_nil_iff]
     refine bZ (args := [_]) (fM (L.take 60) a4 3 (by omega) (by omega)) rfl (by simp) ⟨rfl, rfl, rfl, rfl⟩ ?_
     rintro u v' ⟨x4, a5, rfl, rfl, w1, w2, w3, w4⟩
     refine AX (hK' _ _ ?_)
     clear hK' K'
     iterate 3 refine S0 ?_ (e := fun _ h_ => by simp only [sH, ↓sP, sA, tyS, simprocAttr, Int.natCast_nonneg, Int.ofNat_lt, hlt, bA hlt, eS, dX, eT hlt, iL hlt, eU hlt, List.length_set, List.length_map, List.map_eq_nil_iff]; exact AX h_)
     refine T4 ?_
     exact key (T.set i ⟨IntKind.i64.wrap (1 + x2), x4, 0, q⟩) a5 _ _ _ (by simp [g1]) (by omega) (g4.set i (bM3 s2)) (fF)
    refine aJ (T3 ?_)
    exact key (T.set i ⟨IntKind.i64.wrap (1 + x2), 0, 0, q⟩) a4 _ _ _ (by simp [g1]) (by omega) (g4.set i (bM3 s2)) (fF)
   refine aJ ?_
   refine T0 (hK _ _ _ ?_)
   clear hK K
   refine RS ?_
   iterate 6 refine S0 ?_ (e := fun _ h_ => by simp only [sH, ↓sP, sA, tyS, simprocAttr, Int.natCast_nonneg, Int.ofNat_lt, hlt, bA hlt, eS, dX, eT hlt, iL hlt, eU hlt, List.length_set, List.length_map, List.map_eq_nil_iff]; exact AX h_)
   refine RE ?_
   refine aH (b := _) rfl (fun hb => ?_) (fun hb => ?_)
   ·
    refine Rg ?_
    iterate 3 refine S0 ?_ (e := fun _ h_ => by simp only [sH, ↓sP, sA, tyS, simprocAttr, Int.natCast_nonneg, Int.ofNat_lt, hlt, bA hlt, eS, dX, eT hlt, iL hlt, eU hlt, List.length_set, List.length_map, List.map_eq_nil_iff]; exact AX h_)
    refine HS rfl rfl fun K' hK' => ?_
    simp only [sH, ↓sP, sA, tyS, simprocAttr, Int.natCast_nonneg, Int.ofNat_lt, hlt, bA hlt, eS, dX, eT hlt, iL hlt, eU hlt, List.length_set, List.length_map, List.map_eq_nil_iff]
    refine bZ (args := [_]) (fM (L.take 60) a3 3 (by omega) (by omega)) rfl (by simp) ⟨rfl, rfl, rfl, rfl⟩ ?_
    rintro u v' ⟨x4, a5, rfl, rfl, w1, w2, w3, w4⟩
    refine AX (hK' _ _ ?_)
    clear hK' K'
    iterate 3 refine S0 ?_ (e := fun _ h_ => by simp only [sH, ↓sP, sA, tyS, simprocAttr, Int.natCast_nonneg, Int.ofNat_lt, hlt, bA hlt, eS, dX, eT hlt, iL hlt, eU hlt, List.length_set, List.length_map, List.map_eq_nil_iff]; exact AX h_)
    refine T4 ?_
    exact key (T.set i ⟨IntKind.i64.wrap (1 + x2), x4, x3, ⟨0, 0, 0, []⟩⟩) a5 _ _ _ (by simp [g1]) (by omega) (g4.set i (by simp)) (fF)
   refine aJ (T3 ?_)
   exact key (T.set i ⟨IntKind.i64.wrap (1 + x2), 0, x3, ⟨0, 0, 0, []⟩⟩) a3 _ _ _ (by simp [g1]) (by omega) (g4.set i (by simp)) (fF)
  refine aJ (T3 ?_)
  exact key T a1 _ _ _ g1 (by omega) g4 (fF)
 refine aY (T3 ?_)
 clear hK K
 refine AX (hK _ _ _ ?_)
 clear hK K
 refine R0 ?_
 refine aF (RT Tryz.results12 ?_)
 exact aG [36] (.slc (T.map Nd.cv)) (by simp [HV.close, fob_at, upd_at, HV.norm, HV.toC, HV.closeL, HV.toCL, CV.denil, denilL_Nd]) ⟨T, rfl, by omega, g4⟩

end Go.Proofs.YtlldglbooaefhaaGreatDoor

namespace Go.Proofs.YtlldglbooaefhaaGreatDoor
open Go Go.Hl Go.Pl
set_option maxRecDepth 10000
set_option maxHeartbeats 16000000

theorem bW8 {α : Type} (l : List (List UInt8)) (j : Nat) (p : List UInt8) (r : List (List UInt8)) (h : l.drop j = p :: r) : ∃ hj : j < (l.map fun p => [CV.slc (p.map u8)]).length, (l.map fun p => [CV.slc (p.map u8)])[j] = [CV.slc (p.map u8)] ∧ l.drop (j + 1) = r := by
 have hj : j < l.length := by
  rcases Nat.lt_or_ge j l.length with h' | h'
  ·
   exact h'
  rw [List.drop_eq_nil_of_le h'] at h; cases h
 have h1 := List.drop_eq_getElem_cons hj
 rw [h1] at h
 cases h
 exact ⟨by simpa using hj, by simp, rfl⟩

theorem aQ5 (l : List UInt8) (c : UInt8) (hl : l.length < 2 ^ 40) : aB4 Tryz.prog 126 [(47, .slc [u8 c]), (47, .slc (l.map u8)), (3, .int .i64 0)] ((aQ c l).map fun p => [.slc (p.map u8)]) := by
 refine yO Tryz.func126 rfl (by kernel_rfl) (Nat.le_of_ble_eq_true rfl) rfl fun L J hS hY => ?_
 have e0 : jS [(47, CV.slc [u8 c]), (47, .slc (l.map u8)), (3, .int .i64 0)] = fob [(0, .box 47 (.c (.slc [u8 c]))), (1, .box 47 (.c (.slc (l.map u8)))), (2, .box 3 (.c (.int .i64 0)))] := by
  funext i
  match i with
  | 0 => rfl
  | 1 => rfl
  | 2 => rfl
  | i + 3 => simp [jS, fob, upd]
 have e1 : gH (List.range [((47 : Nat), CV.slc [u8 c]), (47, .slc (l.map u8)), (3, .int .i64 0)].length) = [.ptr 0 0, .ptr 1 0, .ptr 2 0] := rfl
 rw [e0, e1]
 refine eJ fun K hK => ?_
 refine eJ fun K1 hK1 => mZ hS rfl (aL (by kernel_rfl) ?_)
 simp only [sR, simprocAttr]
 have F := rI
 refine AU ?_
 simp only [sE, ↓reduceIte, simprocAttr, rI]
 refine hK1 _ _ _ _ _ ?_
 clear hK1 K1
 refine jI (b := false) rfl (fun hb => by cases hb) (fun _ => ?_)
 refine nA ?_
 simp only [sE, ↓reduceIte, simprocAttr, rI]
 refine hK _ _ _ _ _ ?_
 clear hK K
 refine eJ fun K hK => ?_
 refine oA ?_
 refine aI1 (α := {y : Nat × List UInt8 // (aQ c l).drop y.1 = aQ c y.2 ∧ y.2.length ≤ l.length}) hS (fun y => (fin [(0, .opq (.func (.yield L) #[] #[])), (1, .ptr 0 0), (2, .ptr 1 0), (3, .ptr 2 0)], fob [(0, .box 47 (.c (.slc [u8 c]))), (1, .box 47 (.c (.slc (y.1.2.map u8)))), (2, .box 3 (.c (.int .i64 0)))])) (fun y => y.1.1) 100 (fun y => y.1.2.length) ⟨(0, l), rfl, Nat.le_refl _⟩ rfl (fF) rfl ?_
 rintro ⟨⟨j, rest⟩, hsp, hle⟩
 simp only at hsp hle
 refine oA ?_
 refine eJ fun K1 hK1 => mZ hS rfl (aL (by kernel_rfl) ?_)
 simp only [sR, simprocAttr]
 iterate 2 refine SF ?_
 have F := aI rI @denilL_u8
 refine SCF (yR rest c) ?_
 have F := rI
 refine SF ?_
 simp only [sE, ↓reduceIte, simprocAttr, rI]
 refine hK1 _ _ _ _ _ ?_
 clear hK1 K1
 refine eJ fun K1 hK1 => ?_
 refine eJ fun K2 hK2 => mZ hS rfl (aL (by kernel_rfl) ?_)
 simp only [sR, simprocAttr]
 refine AU ?_
 simp only [sE, ↓reduceIte, simprocAttr, rI]
 refine hK2 _ _ _ _ _ ?_
 clear hK2 K2
 refine jI (b := decide (dE rest c < 0)) rfl (fun hb => ?_) (fun hb => ?_)
 ·
  -- the last piece
  have hn : dE rest c < 0 := by simpa using hb
  rw [mT hn] at hsp
  obtain ⟨hj, hx, hd⟩ := bW8 (α := Nat) _ _ _ _ hsp
  refine aI0 ?_
  simp only [sE, ↓reduceIte, simprocAttr, rI]
  clear hK1 K1
  refine hK _ _ _ _ _ ?_
  clear hK K
  have htk : List.take rest.length (rest.map u8) = rest.map u8 := List.take_of_length_le (by simp)
  refine rS (l := L) 7 hS hY rfl (by kernel_rfl) (by decide) ?_
  simp only [sR, List.range', simprocAttr]
  have F := aI rI @List.length_map.{0,0}
  iterate 6 refine SF ?_
  refine S0 ?_ (e := fun _ h_ => by simp only [sH, ↓sP, sA, tyS, simprocAttr, rI, htk, List.length_map, ↓hslice3.eq_def, Int.natCast_nonneg, mS, List.drop_zero, Nat.sub_zero, Int.le_refl, Int.toNat_zero]; exact AX h_)
  rw [hlex]
  refine ⟨_, _, _, hj, rfl, rfl, rfl, rfl, rfl, ?_, ?_, ?_⟩
  ·
   rw [hx]; rfl
  ·
   simp only [sR, List.range', simprocAttr]
   rw [hlex]
   refine ⟨by simp, fun _ => ?_⟩
   have := List.drop_eq_nil_iff.1 hd
   simp only [List.length_map] at hj ⊢
   omega
  simp only [sR, List.range', simprocAttr]
  rw [hlex]
  exact ⟨by simp, fun h => by cases h⟩
 -- a piece
 have hn : ¬ dE rest c < 0 := by simpa using hb
 obtain ⟨k, hk, hkl, hsp2⟩ := dV hn
 rw [hk]
 rw [hsp2] at hsp
 obtain ⟨hj, hx, hd⟩ := bW8 (α := Nat) _ _ _ _ hsp
 have hkm : min k rest.length = k := by omega
 have ek : List.take k (rest.map u8) = (rest.take k).map u8 := List.map_take.symm
 have htk : List.take k ((rest.take k).map u8) = (rest.take k).map u8 := List.take_of_length_le (by simp; omega)
 have hw1 : IntKind.i64.wrap ((k : Int) + 1) = ((k + 1 : Nat) : Int) := by rw [IntWalk.i64_in _ (by omega)]; rfl
 have hkl1 : k + 1 ≤ rest.length := hkl
 have edr : List.take (rest.length - (k + 1)) (List.drop (k + 1) (rest.map u8)) = (rest.drop (k + 1)).map u8 := by rw [List.map_drop, List.take_of_length_le (by simp)]
 refine nA ?_
 simp only [sE, ↓reduceIte, simprocAttr, rI]
 refine hK1 _ _ _ _ _ ?_
 clear hK1 K1
 refine eJ fun K1 hK1 => mZ hS rfl (aL (by kernel_rfl) ?_)
 simp only [sR, simprocAttr]
 iterate 6 refine S0 ?_ (e := fun _ h_ => by simp only [sH, ↓sP, sA, tyS, simprocAttr, rI, ek, List.length_map, Int.natCast_nonneg, mS, Int.add_zero, Int.ofNat_le, Nat.le_of_lt hkl, List.drop_zero, Nat.sub_zero, show IntKind.i64.wrap (k : Int) = (k : Int) from IntWalk.i64_in _ (by omega)]; exact AX h_)
 simp only [sE, ↓reduceIte, simprocAttr, rI]
 refine hK1 _ _ _ _ _ ?_
 clear hK1 K1
 refine eJ fun K1 hK1 => ?_
 refine eJ fun K2 hK2 => rS (l := L) 7 hS hY rfl (by kernel_rfl) (by decide) ?_
 simp only [sR, List.range', simprocAttr]
 have F := aI rI (aI @List.length_map.{0,0} (aI @List.length_take.{0} hkm))
 iterate 6 refine SF ?_
 refine S0 ?_ (e := fun _ h_ => by simp only [sH, ↓sP, sA, tyS, simprocAttr, rI, htk, List.length_map, List.length_take, hkm, ↓hslice3.eq_def, Int.natCast_nonneg, mS, List.drop_zero, Nat.sub_zero, Int.le_refl, Int.toNat_zero]; exact AX h_)
 rw [hlex]
 refine ⟨_, _, _, hj, rfl, rfl, rfl, rfl, rfl, ?_, ?_, ?_⟩
 ·
  rw [hx]; rfl
 ·
  simp only [sR, List.range', simprocAttr]
  have F := rI
  refine SF ?_
  simp only [sE, ↓reduceIte, simprocAttr, rI]
  refine hK2 _ _ _ _ _ ?_
  clear hK2 K2
  refine jI (b := false) rfl (fun hb => by cases hb) (fun _ => ?_)
  refine nA ?_
  simp only [sE, ↓reduceIte, simprocAttr, rI]
  refine hK1 _ _ _ _ _ ?_
  clear hK1 K1
  refine mZ hS rfl (aL (by kernel_rfl) ?_)
  simp only [sR, simprocAttr]
  have F := aI rI (aI edr (aI hw1 (aI @List.length_map.{0,0} (aI @Int.natCast_nonneg (aI @mS (aI @Int.ofNat_le (aI hkl1 @denilL_u8)))))))
  refine AU ?_
  simp only [sE, ↓reduceIte, simprocAttr, rI]
  refine ⟨⟨(j + 1, rest.drop (k + 1)), hd, by simp; omega⟩, fF, trivial, rfl, ?_⟩
  show (rest.drop (k + 1)).length < rest.length
  simp; omega
 simp only [sR, List.range', simprocAttr]
 have F := rI
 refine SF ?_
 simp only [sE, ↓reduceIte, simprocAttr, rI]
 refine hK2 _ _ _ _ _ ?_
 clear hK2 K2
 refine jI (b := true) rfl (fun _ => ?_) (fun hb => by cases hb)
 refine aT6 ?_
 simp only [sE, ↓reduceIte, simprocAttr, rI]
 exact ⟨by simp, fun h => by cases h⟩

end Go.Proofs.YtlldglbooaefhaaGreatDoor

namespace Go.Proofs.YtlldglbooaefhaaGreatDoor
open Go Go.Hl Go.Pl
set_option maxRecDepth 10000
set_option maxHeartbeats 16000000

theorem bZ8 (s : aE) (hl : s.length < 2 ^ 40) : mV Tryz.prog 87 [.str s] (fun u v => u = .str ((unW s).getD []) ∧ v = .bool (unW s).isSome) := by
 refine FW Tryz.func87 ?_
 refine R0 ?_
 refine aC fun K hK => ?_
 refine R0 ?_
 refine aH (b := s == [126]) rfl (fun hb => ?_) (fun hb => ?_)
 ·
  refine R0 ?_
  refine aF (RT Tryz.results87 ?_)
  have hs : s = [126] := by simpa using hb
  subst hs
  exact bD [] (.str []) (.bool true) rfl ⟨rfl, rfl⟩
 refine aJ ?_
 refine T0 (hK _ _ _ ?_)
 clear hK K
 have hne : s ≠ [126] := by simpa using hb
 clear hb
 refine R0 ?_
 refine aC fun K hK => ?_
 refine R0 ?_
 refine aK ?_
 refine oZ 4 0 5 1 rfl rfl rfl rfl ?_
 refine bE (α := {y : Nat × aE // UnSt s y.1 y.2}) (fun y => (fin [(0, .c (.str s)), (4, .own 24 y.1.2.length), (5, .c (.int .i64 y.1.1))], fob [(24, .row 5 1 (y.1.2.map dY))])) 100 (fun y => s.length - y.1.1) ⟨(0, []), UnSt.init s⟩ (fF) ?_
 rintro ⟨⟨i, out⟩, hst⟩
 simp only at hst
 have hi := hst.1
 have ho := hst.2.2.2
 refine aC fun K hK => ?_
 refine AU ?_
 refine aH (b := decide ((i : Int) < s.length)) rfl (fun hb => ?_) (fun hb => ?_)
 ·
  have hlt : i < s.length := by simpa using hb
  clear hb
  have hgd : s.getD i 0 = s[i] := by simp [hlt]
  refine aJ ?_
  refine T0 (hK _ _ _ ?_)
  clear hK K
  refine aC fun K hK => ?_
  refine aK ?_
  refine aC fun K hK => ?_
  refine aC fun K hK => Rg ?_
  iterate 3 refine S0 ?_ (e := fun _ h_ => by simp only [sH, ↓sP, sA, tyS, simprocAttr, Int.natCast_nonneg, Int.ofNat_lt, hlt, hgd]; exact AX h_)
  refine HS rfl rfl fun K' hK' => ?_
  simp only [sH, ↓sP, sA, tyS, simprocAttr, Int.natCast_nonneg, Int.ofNat_lt, hlt, hgd]
  refine C1 (qE s[i]) ?_
  rintro u rfl
  refine AX (hK' _ _ ?_)
  clear hK' K'
  refine T2 (hK _ _ _ ?_)
  clear hK K
  refine aH (b := cR s[i]) rfl (fun hb => ?_) (fun hb => ?_)
  ·
   refine RS ?_
   iterate 7 refine S0 ?_ (e := fun _ h_ => by simp only [sH, ↓sP, sA, tyS, simprocAttr, Int.natCast_nonneg, Int.ofNat_lt, hlt, hgd, List.length_append, List.length_map]; exact AX h_)
   refine RE ?_
   refine aY (T3 ?_)
   clear hK K
   refine AX (hK _ _ _ ?_)
   clear hK K
   refine aL (by kernel_rfl) ?_
   refine TQ (lR i) ?_
   refine ⟨⟨(i + 1, out ++ [s[i]]), hst.plain hlt hb⟩, aN (by omega) ?_ ?_, ?_⟩
   ·
    simp [aZ, upd_at, fin_at, HV.men]
   ·
    simp only [aW, List.map_append]
    exact ⟨rfl, by omega, trivial, trivial⟩
   show s.length - (i + 1) < s.length - i
   omega
  refine aJ ?_
  refine T0 (hK _ _ _ ?_)
  clear hK K
  refine aC fun K hK => ?_
  have hp : cR s[i] = false := hb
  clear hb
  have hw1 : IntKind.i64.wrap ((i : Int) + 1) = ((i + 1 : Nat) : Int) := by rw [IntWalk.i64_in _ (by omega)]; rfl
  have hw2 : IntKind.i64.wrap ((i : Int) + 2) = ((i + 2 : Nat) : Int) := by rw [IntWalk.i64_in _ (by omega)]; rfl
  have hw3 : IntKind.i64.wrap (((i + 2 : Nat) : Int) + 1) = ((i + 3 : Nat) : Int) := by rw [IntWalk.i64_in _ (by omega)]; rfl
  refine RS ?_
  iterate 5 refine S0 ?_ (e := fun _ h_ => by simp only [sH, ↓sP, sA, tyS, simprocAttr, Int.natCast_nonneg, Int.ofNat_lt, hlt, hgd, hw2]; exact AX h_)
  refine aD 29 rfl (fun h9_29 => ?_) (fun h9_29 => ?_)
  ·
   iterate 6 refine S0 ?_ (e := fun _ h_ => by simp only [sH, ↓sP, sA, tyS, simprocAttr, Int.natCast_nonneg, Int.ofNat_lt, hlt, hgd, hw2, h9_29]; exact AX h_)
   refine RE ?_
   refine CT rfl ?_
   refine R0 ?_
   refine aF (RT Tryz.results87 ?_)
   have h37 : s[i] ≠ 37 := by rintro h; rw [h] at h9_29; simp at h9_29
   have hn := mU (hst.bad1 hlt hp (.inl h37)) hne
   exact bD [] (.str []) (.bool false) rfl ⟨by rw [hn]; rfl, by rw [hn]; rfl⟩
  iterate 6 refine S0 ?_ (e := fun _ h_ => by simp only [sH, ↓sP, sA, tyS, simprocAttr, Int.natCast_nonneg, Int.ofNat_lt, hlt, hgd, hw2, h9_29]; exact AX h_)
  refine aD 35 rfl (fun h9_35 => ?_) (fun h9_35 => ?_)
  ·
   simp only [h9_35]
   refine RE ?_
   refine CT rfl ?_
   refine R0 ?_
   refine aF (RT Tryz.results87 ?_)
   have hi2 : s.length ≤ i + 2 := by simp at h9_35; omega
   have hn := mU (hst.bad1 hlt hp (.inr hi2)) hne
   exact bD [] (.str []) (.bool false) rfl ⟨by rw [hn]; rfl, by rw [hn]; rfl⟩
  simp only [h9_35]
  refine RE ?_
  refine CF rfl ?_
  refine aJ ?_
  refine T0 (hK _ _ _ ?_)
  clear hK K
  have h37 : s[i] = 37 := by
   simp only [bne_eq_false_iff_eq] at h9_29
   exact UInt8.toNat_inj.1 (by show s[i].toNat = 37; omega)
  have hi2 : i + 2 < s.length := by simp at h9_35; omega
  have hi1 : i + 1 < s.length := by omega
  have hg1 : s.getD (i + 1) 0 = s[i + 1] := by simp [hi1]
  have hg2 : s.getD (i + 2) 0 = s[i + 2] := by simp [hi2]
  refine aC fun K hK => DW [(0, [], []), (1, [], []), (2, [], []), (3, [], []), (5, [], []), (6, [], []), (7, [], []), (8, [], []), (4, [], [5, 6, 7, 8]), (9, [], []), (10, [], []), (11, [], [])] [0, 0, 2, 7, 15, 0, 0, 64, 224, 511, 1023, 2047] ?_
  have F := aI @Int.natCast_nonneg (aI @Int.ofNat_lt (aI hw1 (aI hw2 (aI hg1 (aI hg2 (aI hi1 (aI hi2 (aI h9_29 h9_35))))))))
  iterate 8 refine WF ?_
  refine cU (g := none) rfl rfl fun K' hK' => T6 ?_
  refine C2 (qF bQ5 s[i + 1]) ?_
  rintro u rfl
  refine AX (hK' _ _ ?_)
  clear hK' K'
  refine cU (g := none) rfl rfl fun K' hK' => T6 ?_
  refine C2 (qF bQ5 s[i + 2]) ?_
  rintro u rfl
  refine AX (hK' _ _ ?_)
  clear hK' K'
  iterate 2 refine WF ?_
  refine T2 (hK _ _ _ ?_)
  clear hK K
  refine aC fun K hK => ?_
  by_cases hx : valH s[i + 1] < 16
  ·
   by_cases hy : valH s[i + 2] < 16
   ·
    rw [pY, pY, if_pos hx, if_pos hy]
    have hx0 : decide (((valH s[i + 1] : Nat) : Int) < 0) = false := by simp
    have hy0 : decide (((valH s[i + 2] : Nat) : Int) < 0) = false := by simp
    have e1 : IntKind.i64.wrap (16 * ((valH s[i + 1] : Nat) : Int)) = ((16 * valH s[i + 1] : Nat) : Int) := by rw [IntWalk.i64_in _ (by omega)]; omega
    have e2 : IntKind.i64.wrap (((16 * valH s[i + 1] : Nat) : Int) + ((valH s[i + 2] : Nat) : Int)) = ((16 * valH s[i + 1] + valH s[i + 2] : Nat) : Int) := by rw [IntWalk.i64_in _ (by omega)]; omega
    have e3 : IntKind.u8.wrap ((16 * valH s[i + 1] + valH s[i + 2] : Nat) : Int) = ((byteH s[i + 1] s[i + 2]).toNat : Int) := by rw [IntWalk.u8_in _ (by omega), yH hx hy]
    refine RS ?_
    have F := aI hx0 (aI hy0 (aI e1 (aI e2 (aI e3 (aI h9_29 h9_35)))))
    refine AU ?_
    refine SCF (qE (byteH s[i + 1] s[i + 2])) ?_
    refine AU ?_
    refine aH (b := cR (byteH s[i + 1] s[i + 2])) rfl (fun hb => ?_) (fun hb => ?_)
    ·
     refine R0 ?_
     refine aF (RT Tryz.results87 ?_)
     have hn := mU (hst.bad2 hi2 h37 (by simp [okH, hx, hy, hb])) hne
     exact bD [] (.str []) (.bool false) rfl ⟨by rw [hn]; rfl, by rw [hn]; rfl⟩
    refine aJ ?_
    refine T0 (hK _ _ _ ?_)
    clear hK K
    refine RS ?_
    have F := aI @Int.natCast_nonneg (aI @List.length_append.{0} (aI @List.length_map.{0,0} (aI e1 (aI e2 (aI e3 (aI h9_29 h9_35))))))
    refine AU ?_
    refine aL (by kernel_rfl) ?_
    refine TQ hw2 ?_
    refine AX (hK _ _ _ ?_)
    clear hK K
    refine aL (by kernel_rfl) ?_
    refine TQ hw3 ?_
    refine ⟨⟨(i + 3, out ++ [byteH s[i + 1] s[i + 2]]), hst.esc hi2 h37 (by simp [okH, hx, hy, hb])⟩, aN (by omega) ?_ ?_, ?_⟩
    ·
     simp [aZ, upd_at, fin_at, HV.men]
    ·
     simp only [aW, List.map_append]
     exact ⟨rfl, by omega, trivial, trivial⟩
    show s.length - (i + 3) < s.length - i
    omega
   rw [pY, pY, if_pos hx, if_neg hy]
   have hx0 : decide (((valH s[i + 1] : Nat) : Int) < 0) = false := by simp
   refine RS ?_
   have F := aI hx0 (aI h9_29 h9_35)
   refine AU ?_
   refine CT rfl ?_
   refine R0 ?_
   refine aF (RT Tryz.results87 ?_)
   have hn := mU (hst.bad2 hi2 h37 (by simp [okH, hx, hy])) hne
   exact bD [] (.str []) (.bool false) rfl ⟨by rw [hn]; rfl, by rw [hn]; rfl⟩
  rw [pY, if_neg hx]
  refine RS ?_
  have F := aI h9_29 h9_35
  refine AU ?_
  refine CT rfl ?_
  refine R0 ?_
  refine aF (RT Tryz.results87 ?_)
  have hn := mU (hst.bad2 hi2 h37 (by simp [okH, hx])) hne
  exact bD [] (.str []) (.bool false) rfl ⟨by rw [hn]; rfl, by rw [hn]; rfl⟩
 refine aY (T3 ?_)
 clear hK K
 refine AX (hK _ _ _ ?_)
 clear hK K
 have hei : i = s.length := by simp at hb; omega
 have hfin := hst.fin hei hne
 refine fE [24] (bR (fr2 := fin [(4, .c (.slc (out.map dY)))]) (ob2 := fob []) (nx2 := 200) (aN (by omega) (by simp [aZ, kO, fin_at, finA_at, upd_at, fob_at, HV.close, HV.closeL, CV.denil, CV.denilL, dU, HV.men, HV.menL, HV.norm, HV.toC, HV.toCL]) (by simp [aW, kP, fob_at, upd_at, none0_at, bY, HO.close, HV.close, HV.closeL, HO.men, HV.men, HV.menL, HV.norm, HV.toC, HV.toCL])) ?_)
 refine RS ?_
 have F := aI @bytesC_map @List.length_map.{0,0}
 refine AU ?_
 refine aF (RT Tryz.results87 ?_)
 refine bD [] (.str out) (.bool (decide (0 < (out.length : Int)))) rfl ?_
 rw [hfin]
 by_cases ho0 : out = []
 ·
  subst ho0; simp
 have : 0 < out.length := List.length_pos_iff.2 ho0
 simp [ho0, this]

end Go.Proofs.YtlldglbooaefhaaGreatDoor

namespace Go.Proofs.YtlldglbooaefhaaGreatDoor
open Go Go.Hl Go.Pl
set_option maxRecDepth 10000
set_option maxHeartbeats 16000000

def lsC (l : List aE) : CV := .slc (l.map .str)
theorem lD (l : List aE) : (lsC l).cells = 1 := rfl
theorem lE (l : List aE) : (lsC l).denil = lsC l := by simp only [lsC, CV.denil, denilL_str]
theorem aP (l : List (List aE)) : CV.denilL (l.map lsC) = l.map lsC := bU lE l
theorem bZ9 (b : aE) (hl : b.length < 2 ^ 40) : mV Tryz.prog 62 [.slc (b.map u8)] (fun u v => u = .slc ((fA b).map lsC) ∧ v = .int .i64 (iN b)) := by
 refine FW Tryz.func62 ?_
 have F := rI
 refine RF ?_
 refine bG6 ?_
 refine aC fun K hK => ?_
 have F := aI rI @List.length_map.{0,0}
 refine RF ?_
 refine aH (b := decide ((262144 : Int) < b.length)) rfl (fun hb => ?_) (fun hb => ?_)
 ·
  have F := rI
  refine RF ?_
  refine aF ?_
  simp only [gF, Tryz.results62, fD, gE, eO, ↓sP, sA, tyS, simprocAttr, rI]
  have hE : iN b = 3 := by unfold iN; rw [if_pos (by simp at hb; omega)]
  refine bD [] (.slc []) (.int .i64 3) ?_ ⟨by simp only [fA, hE]; rfl, by rw [hE]⟩
  simp [HV.close, HV.closeL, CV.denil, CV.denilL, HV.norm, HV.toC, HV.toCL]
 refine aJ ?_
 refine TQ rI ?_
 refine AX (hK _ _ _ ?_)
 clear hK K
 have hle : b.length ≤ 262144 := by simp at hb; omega
 clear hb
 have F := rI
 refine RF ?_
 refine RF ?_
 refine aC fun K hK => ?_
 refine bE2 ?_
 try simp only [↓sP, sA, tyS, simprocAttr, rI]
 refine AX (hK _ _ _ ?_)
 clear hK K
 refine aC fun K hK => ?_
 have key : ∀ (ok : Bool) (ls : List (List aE)) fr ob nx, (ok = true → fS b = some ls) → (ok = false → fS b = none) → ls.length ≤ b.length → Fits 0 fr ob (fin [(4, .own 32 ls.length), (5, .ptr 24 0)]) (fob [(24, .box 4 (.c (.bool ok))), (32, .row 60 1 (ls.map lsC))]) 1000 → K fr ob nx := by
  intro ok ls fr ob nx h1 h2 h3 hf
  refine hK _ _ _ (bR hf ?_)
  clear hf hK K
  refine aC fun K hK => ?_
  cases ok
  ·
   refine RS ?_
   have F := aI rI @List.length_map.{0,0}
   refine AU ?_
   refine CT rfl ?_
   have F := rI
   refine RF ?_
   refine aF ?_
   simp only [gF, Tryz.results62, fD, gE, eO, ↓sP, sA, tyS, simprocAttr, rI]
   have hE : iN b = 2 := by unfold iN; rw [if_neg (by omega), h2 rfl]
   refine bD [] (.slc []) (.int .i64 2) ?_ ⟨by simp only [fA, hE]; rfl, by rw [hE]⟩
   simp [HV.close, HV.closeL, CV.denil, CV.denilL, HV.norm, HV.toC, HV.toCL]
  refine RS ?_
  have F := aI rI @List.length_map.{0,0}
  refine AU ?_
  refine aH (b := decide ((1000 : Int) < ls.length)) rfl (fun hb => ?_) (fun hb => ?_)
  ·
   have F := rI
   refine RF ?_
   refine aF ?_
   simp only [gF, Tryz.results62, fD, gE, eO, ↓sP, sA, tyS, simprocAttr, rI]
   have hE : iN b = 2 := by unfold iN; rw [if_neg (by omega), h1 rfl]; simp only; rw [if_pos (by simp at hb; omega)]
   refine bD [] (.slc []) (.int .i64 2) ?_ ⟨by simp only [fA, hE]; rfl, by rw [hE]⟩
   simp [HV.close, HV.closeL, CV.denil, CV.denilL, HV.norm, HV.toC, HV.toCL]
  refine aJ ?_
  refine TQ rI ?_
  refine AX (hK _ _ _ ?_)
  clear hK K
  have F := rI
  refine RF ?_
  refine aF ?_
  simp only [gF, Tryz.results62, fD, gE, eO, ↓sP, sA, tyS, simprocAttr, rI]
  have hE : iN b = 0 := by unfold iN; rw [if_neg (by omega), h1 rfl]; simp only; rw [if_neg (by simp at hb; omega)]
  refine bD [32] (.slc (ls.map lsC)) (.int .i64 0) ?_ ⟨by simp only [fA, hE, h1 rfl]; rfl, by rw [hE]⟩
  simp [HV.close, fob_at, upd_at, HV.norm, HV.toC, HV.closeL, HV.toCL, CV.denil, aP]
 refine aK ?_
 refine oZ 4 0 60 1 rfl rfl rfl rfl ?_
 refine bE (α := {y : aE × List (List aE) // DecSt b y.1 y.2}) (fun y => (fin [(0, .c (.slc (y.1.1.map u8))), (4, .own 32 y.1.2.length), (5, .ptr 24 0)], fob [(24, .box 4 (.c (.bool true))), (32, .row 60 1 (y.1.2.map lsC))])) 100 (fun y => y.1.1.length) ⟨(b, []), DecSt.init b⟩ (fF) ?_
 rintro ⟨⟨rest, ls⟩, hst⟩
 simp only at hst
 have hr1 := hst.2.1
 have hr2 := hst.2.2
 refine aC fun K hK => ?_
 have F := aI rI @List.length_map.{0,0}
 refine RF ?_
 refine aH (b := decide ((0 : Int) < rest.length)) rfl (fun hb => ?_) (fun hb => ?_)
 ·
  refine aJ ?_
  refine TQ rI ?_
  refine AX (hK _ _ _ ?_)
  clear hK K
  refine aK ?_
  have hne : rest ≠ [] := by rintro rfl; simp at hb
  clear hb
  refine aC fun K hK => bB (by kernel_rfl) ?_
  simp only [sR, simprocAttr]
  have F := aI rI @denilL_u8
  refine SGF ?_
  refine cV (g := none) 116 rfl rfl fun K' hK' => ?_
  simp only [iA, kY, sH, ↓sP, sA, tyS, simprocAttr, rI, denilL_u8]
  repeat refine AI ?_
  refine dJ (by first | rfl | simp) ?_
  try simp only [sH, ↓sP, sA, tyS, simprocAttr, rI, denilL_u8]
  refine AX (hK' _ _ ?_)
  clear hK' K'
  refine bI (g := none) rfl rfl fun K' hK' => T6 ?_
  refine pB (args := [_, _]) (bR3 rest 10 (by omega)) ⟨rfl, rfl, rfl, rfl⟩ ?_
  rintro u v x ⟨li, re, fd, rfl, rfl, rfl, hcut⟩
  have hlt := hcut.lt hne
  refine AX (hK' _ _ ?_)
  clear hK' K'
  iterate 7 refine SGF ?_
  simp only [sE, ↓reduceIte, simprocAttr, rI]
  refine AX (hK _ _ _ ?_)
  clear hK K
  have F := rI
  refine RF ?_
  refine aC fun K hK => ?_
  refine aC fun K hK => bB (by kernel_rfl) ?_
  simp only [sR, simprocAttr]
  refine SG0 ?_ (e := fun _ h_ => by simp only [sH, ↓sP, sA, tyS, simprocAttr, rI, denilL_u8, lY, gH, List.range', List.map_cons, List.map_nil]; exact AX h_)
  refine cV (g := none) 160 rfl rfl fun K' hK' => ?_
  simp only [iA, kY, sH, ↓sP, sA, tyS, simprocAttr, rI, denilL_u8, lY, gH, List.range', List.map_cons, List.map_nil]
  repeat refine AI ?_
  refine dJ (by first | rfl | simp) ?_
  try simp only [sH, ↓sP, sA, tyS, simprocAttr, rI, denilL_u8, lY, gH, List.range', List.map_cons, List.map_nil]
  refine AX (hK' _ _ ?_)
  clear hK' K'
  refine bI (g := none) rfl rfl fun K' hK' => ?_
  simp only [sH, ↓sP, sA, tyS, simprocAttr, rI, denilL_u8, lY, gH, List.range', List.map_cons, List.map_nil]
  refine rT (args := [_, _]) (aZ4 li 32) (by simp) ⟨rfl, rfl, rfl, rfl⟩ ?_
  refine AX (hK' _ _ ?_)
  clear hK' K'
  simp only [sE, ↓reduceIte, simprocAttr, rI]
  refine AX (hK _ _ _ ?_)
  clear hK K
  refine aK ?_
  refine aA4 152 0 9 1 rfl rfl rfl rfl ?_
  refine yN (ids := [164, 165, 166]) (fin [(0, .c (.slc (rest.map u8))), (4, .own 32 ls.length), (5, .ptr 24 0), (7, .c (.slc (re.map u8))), (8, .c (.bool fd)), (9, .ptr 152 0)]) (fun i => fob [(24, .box 4 (.c (.bool true))), (32, .row 60 1 (ls.map lsC)), (152, .box 60 (.own 168 i)), (168, .row 9 1 ((wsT li i).map .str))]) 200 (fun i => bF7 li i) (fun p hp => by simp at hp) (aQ5 li 32 (by omega)) rfl rfl (by decide) ?_ ?_ ?_ ?_ ?_ rfl rfl ?_ ?_
  ·
   intro j x hx
   match j, hx with
   | 0, hx => cases hx; rfl
   | 1, hx => cases hx; rfl
   | 2, hx => cases hx; rfl
  ·
   exact aN (by omega) (by simp [aZ, fin_at, finA_at, upd_at, HV.men, HV.menL, HV.norm, HV.toC, HV.toCL]) (by simp [aW, fob_at, upd_at, none0_at, bY, lY, wsT, HO.men, HV.men, HV.menL, HV.norm, HV.toC, HV.toCL])
  ·
   intro id hid
   simp only [List.mem_cons, List.not_mem_nil, or_false] at hid
   rcases hid with rfl | rfl | rfl <;> rfl
  ·
   intro x hx
   obtain ⟨p, _, rfl⟩ := List.mem_map.1 hx
   rfl
  ·
   intro p hp
   simp only [List.mem_cons, List.not_mem_nil, or_false] at hp
   subst hp
   exact Nat.le_of_ble_eq_true rfl
  ·
   intro i hi hΦ K hK
   have hi' : i < (aQ 32 li).length := by simpa using hi
   have hwl := vK (r := li) (Nat.le_of_lt hi')
   have hsl := kR 32 li
   obtain ⟨p, hp⟩ : ∃ p, p = (aQ 32 li)[i] := ⟨_, rfl⟩
   have hpl : p.length ≤ li.length := by rw [hp]; exact vI 32 li _ (List.getElem_mem hi')
   have hx : (List.map (fun p => [CV.slc (List.map u8 p)]) (aQ 32 li))[i] = [CV.slc (p.map u8)] := by rw [List.getElem_map, hp]
   rw [hx]
   simp only [vP]
   have hbc : jC (p.map u8) = some p := bytesC_map p
   refine aL (by kernel_rfl) ?_
   refine TQ rI ?_
   refine AX (hK _ _ _ ?_)
   clear hK K
   refine aK ?_
   refine aC fun K hK => Rg ?_
   have F := aI rI hbc
   refine AU ?_
   refine HS rfl rfl fun K' hK' => T6 ?_
   refine D1 (bZ8 p (by omega)) ?_
   rintro u v ⟨rfl, rfl⟩
   refine AX (hK' _ _ ?_)
   clear hK' K'
   refine AU ?_
   simp only [sE, ↓reduceIte, simprocAttr, rI]
   refine AX (hK _ _ _ ?_)
   clear hK K
   refine aC fun K hK => ?_
   have F := rI
   refine RF ?_
   refine aH (b := !(unW p).isSome) rfl (fun hb => ?_) (fun hb => ?_)
   ·
    refine RF ?_
    refine aY ?_
    refine TQ rI ?_
    clear hK K
    clear hK K
    exact key false ls _ _ _ (fun h => by cases h) (fun _ => hst.bad hcut hne (bF9 hi' (by rw [← hp]; simpa using hb))) (by omega) (fF)
   refine aJ ?_
   refine TQ rI ?_
   refine AX (hK _ _ _ ?_)
   clear hK K
   refine Rg ?_
   have F := aI rI (aI @List.length_append.{0} (aI @List.length_map.{0,0} hwl))
   refine AU ?_
   simp only [sE, ↓reduceIte, simprocAttr, rI]
   refine ⟨(show Fits 200 _ _ (fin []) _ 200 from aN (by omega) trivial ?_), aY4 hi' hΦ (by rw [← hp]; simpa using hb)⟩
   rw [bF8 hi', ← hp]
   simp [aW, fob_at, upd_at, none0_at, bY, HO.men, HV.men, HV.menL, HV.norm, HV.toC, HV.toCL]
  intro hΦ
  simp only [sE, ↓reduceIte, simprocAttr, rI]
  rw [List.length_map] at hΦ ⊢
  have hwl := vK (r := li) (Nat.le_refl _)
  have hul := bQ6 hΦ
  have hsl := kR 32 li
  obtain ⟨ws, hws⟩ : ∃ ws, ws = wsT li (aQ 32 li).length := ⟨_, rfl⟩
  rw [← hws] at hul hwl
  rw [← hws, ← hwl]
  refine AX (hK _ _ _ ?_)
  clear hK K
  refine aC fun K hK => ?_
  cases fd
  ·
   refine fE [168] (bR (fr2 := fin [(0, .c (.slc (rest.map u8))), (4, .own 32 ls.length), (5, .ptr 24 0), (7, .c (.slc (re.map u8))), (8, .c (.bool false)), (9, .ptr 152 0)]) (ob2 := fob [(24, .box 4 (.c (.bool true))), (32, .row 60 1 (ls.map lsC)), (152, .box 60 (.c (.slc (ws.map .str))))]) (nx2 := 300) (aN (by omega) (by simp [aZ, kO, fin_at, finA_at, upd_at, fob_at, HV.close, HV.closeL, CV.denil, CV.denilL, denilL_u8, HV.men, HV.menL, HV.norm, HV.toC, HV.toCL]) (by simp [aW, kP, fob_at, upd_at, none0_at, bY, HO.close, HV.close, HV.closeL, CV.denil, denilL_str, HO.men, HV.men, HV.menL, HV.norm, HV.toC, HV.toCL])) ?_)
   refine AU ?_
   refine CT rfl ?_
   refine RF ?_
   refine aY ?_
   refine TQ rI ?_
   clear hK K
   exact key false ls _ _ _ (fun h => by cases h) (fun _ => hst.bad0 hcut hne) (by omega) (fF)
  refine fE [168] (bR (fr2 := fin [(0, .c (.slc (rest.map u8))), (4, .own 32 ls.length), (5, .ptr 24 0), (7, .c (.slc (re.map u8))), (8, .c (.bool true)), (9, .ptr 152 0)]) (ob2 := fob [(24, .box 4 (.c (.bool true))), (32, .row 60 1 (ls.map lsC)), (152, .box 60 (.c (.slc (ws.map .str))))]) (nx2 := 300) (aN (by omega) (by simp [aZ, kO, fin_at, finA_at, upd_at, fob_at, HV.close, HV.closeL, CV.denil, CV.denilL, denilL_u8, HV.men, HV.menL, HV.norm, HV.toC, HV.toCL]) (by simp [aW, kP, fob_at, upd_at, none0_at, bY, HO.close, HV.close, HV.closeL, CV.denil, denilL_str, HO.men, HV.men, HV.menL, HV.norm, HV.toC, HV.toCL])) ?_)
  refine AU ?_
  refine SCF (aI3 ws (by omega)) ?_
  refine AU ?_
  refine aH (b := rP ws != 0) rfl (fun hb => ?_) (fun hb => ?_)
  ·
   refine RF ?_
   refine aY ?_
   refine TQ rI ?_
   clear hK K
   exact key false ls _ _ _ (fun h => by cases h) (fun _ => hst.bad hcut hne (by rw [hul, if_neg]; unfold okL; simpa using hb)) (by omega) (fF)
  refine aJ ?_
  refine TQ rI ?_
  refine AX (hK _ _ _ ?_)
  clear hK K
  refine Rg ?_
  have F := aI rI (aI @List.length_append.{0} @List.length_map.{0,0})
  refine AU ?_
  simp only [sE, ↓reduceIte, simprocAttr, rI]
  have hok : okL ws = true := by unfold okL; simpa using hb
  refine ⟨⟨(re, ls ++ [ws]), hst.next hcut hne (by rw [hul, if_pos hok])⟩, aN (by omega) ?_ ?_, hlt.1⟩
  ·
   simp [aZ, upd_at, fin_at, HV.men]
  simp only [aW, List.map_append]
  exact ⟨rfl, by omega, trivial, rfl, by omega, trivial, trivial⟩
 refine aY ?_
 refine TQ rI ?_
 clear hK K
 have hr0 : rest = [] := by simpa using hb
 subst hr0
 exact key true ls _ _ _ (fun _ => hst.fin) (fun h => by cases h) (by omega) (fF)

end Go.Proofs.YtlldglbooaefhaaGreatDoor

namespace Go.Proofs.YtlldglbooaefhaaGreatDoor
open Go Go.Hl Go.Pl
set_option maxRecDepth 10000
set_option maxHeartbeats 16000000

theorem bT9 (s : aE) : mV Tryz.prog 107 [.str s] (fun u v => u = .int .i64 ((bG s).getD 0) ∧ v = .bool (bG s).isSome) := by
 refine FW Tryz.func107 ?_
 refine R0 ?_
 refine aC fun K hK => ?_
 have key : ∀ fr ob nx, gI s = false → Fits 0 fr ob (fin [(0, .c (.str s))]) (fob []) 100 → K fr ob nx := by
  intro fr ob nx hbad hf
  refine hK _ _ _ (bR hf ?_)
  clear hf hK K
  have hlen : s.length ≤ 13 := by
   simp only [gI, Bool.or_eq_false_iff, decide_eq_false_iff_not] at hbad
   omega
  refine R0 ?_
  refine aC fun K hK => ?_
  refine R0 ?_
  refine aK ?_
  refine bE (α := {y : Nat × Nat // DgSt s y.1 y.2}) (fun y => (fin [(0, .c (.str s)), (4, .c (.int .i64 y.1.2)), (5, .c (.int .i64 y.1.1))], fob [])) 200 (fun y => s.length - y.1.1) ⟨(0, 0), DgSt.init s⟩ (fF) ?_
  rintro ⟨⟨i, n⟩, hst⟩
  simp only at hst
  have hi := hst.1
  have hnl := hst.lt hlen
  refine aC fun K hK => ?_
  refine AU ?_
  refine aH (b := decide ((i : Int) < s.length)) rfl (fun hb => ?_) (fun hb => ?_)
  ·
   have hlt : i < s.length := by simpa using hb
   clear hb
   have hgd : s.getD i 0 = s[i] := by simp [hlt]
   have hdi := bH4 s[i]
   refine aJ ?_
   refine T0 (hK _ _ _ ?_)
   clear hK K
   refine aC fun K hK => ?_
   refine aK ?_
   refine aC fun K hK => ?_
   have key2 : ∀ fr ob nx, nB s[i] = true → Fits 0 fr ob (fin [(0, .c (.str s)), (4, .c (.int .i64 n)), (5, .c (.int .i64 i))]) (fob []) 300 → K fr ob nx := by
    intro fr ob nx hd hf
    refine hK _ _ _ (bR hf ?_)
    clear hf hK K
    have hd2 : 48 ≤ s[i].toNat ∧ s[i].toNat ≤ 57 := by simpa [nB] using hd
    have e1 : IntKind.i64.wrap (10 * (n : Int)) = ((10 * n : Nat) : Int) := by rw [IntWalk.i64_in _ (by omega)]; omega
    have e2 : IntKind.u8.wrap ((s[i].toNat : Int) - 48) = ((s[i].toNat - 48 : Nat) : Int) := by rw [IntWalk.u8_in _ (by omega)]; omega
    have e3 : IntKind.i64.wrap ((s[i].toNat - 48 : Nat) : Int) = ((s[i].toNat - 48 : Nat) : Int) := by rw [IntWalk.i64_in _ (by omega)]
    have e4 : IntKind.i64.wrap (((10 * n : Nat) : Int) + ((s[i].toNat - 48 : Nat) : Int)) = ((10 * n + (s[i].toNat - 48) : Nat) : Int) := by rw [IntWalk.i64_in _ (by omega)]; omega
    refine Rg ?_
    iterate 9 refine S0 ?_ (e := fun _ h_ => by simp only [sH, ↓sP, sA, tyS, simprocAttr, Int.natCast_nonneg, Int.ofNat_lt, hlt, hgd, e1, e2, e3, e4]; exact AX h_)
    refine T2 (hK _ _ _ ?_)
    clear hK K
    refine aL (by kernel_rfl) ?_
    refine TQ (lR i) ?_
    refine ⟨⟨(i + 1, 10 * n + (s[i].toNat - 48)), hst.next hlt hd⟩, fF, ?_⟩
    show s.length - (i + 1) < s.length - i
    omega
   refine RS ?_
   iterate 5 refine S0 ?_ (e := fun _ h_ => by simp only [sH, ↓sP, sA, tyS, simprocAttr, Int.natCast_nonneg, Int.ofNat_lt, hlt, hgd]; exact AX h_)
   refine aD 33 rfl (fun h7_33 => ?_) (fun h7_33 => ?_)
   ·
    iterate 5 refine S0 ?_ (e := fun _ h_ => by simp only [sH, ↓sP, sA, tyS, simprocAttr, Int.natCast_nonneg, Int.ofNat_lt, hlt, hgd, h7_33]; exact AX h_)
    refine RE ?_
    refine CT rfl ?_
    refine R0 ?_
    refine aF (RT Tryz.results107 ?_)
    have hd : nB s[i] = false := by simp only [nB, Bool.and_eq_false_iff, decide_eq_false_iff_not]; simp at h7_33; omega
    have hn := yS (hst.bad hlt hd)
    exact bD [] (.int .i64 0) (.bool false) rfl ⟨by rw [hn]; rfl, by rw [hn]; rfl⟩
   iterate 5 refine S0 ?_ (e := fun _ h_ => by simp only [sH, ↓sP, sA, tyS, simprocAttr, Int.natCast_nonneg, Int.ofNat_lt, hlt, hgd, h7_33]; exact AX h_)
   refine aD 38 rfl (fun h7_38 => ?_) (fun h7_38 => ?_)
   ·
    simp only [h7_38]
    refine RE ?_
    refine CT rfl ?_
    refine R0 ?_
    refine aF (RT Tryz.results107 ?_)
    have hd : nB s[i] = false := by simp only [nB, Bool.and_eq_false_iff, decide_eq_false_iff_not]; simp at h7_38; omega
    have hn := yS (hst.bad hlt hd)
    exact bD [] (.int .i64 0) (.bool false) rfl ⟨by rw [hn]; rfl, by rw [hn]; rfl⟩
   simp only [h7_38]
   refine RE ?_
   refine CF rfl ?_
   refine aJ (T3 ?_)
   exact key2 _ _ _ (by simp only [nB, Bool.and_eq_true, decide_eq_true_eq]; simp at h7_33 h7_38; omega) (fF)
  refine aY (T3 ?_)
  clear hK K
  refine AX (hK _ _ _ ?_)
  clear hK K
  refine aC fun K hK => ?_
  have hfin := hst.fin (by simp at hb; omega)
  clear hb
  refine R0 ?_
  refine aH (b := decide ((1099511627776 : Int) < (n : Int))) rfl (fun hb => ?_) (fun hb => ?_)
  ·
   refine R0 ?_
   refine aF (RT Tryz.results107 ?_)
   have hn := bH3 hfin (by simp at hb; omega)
   exact bD [] (.int .i64 0) (.bool false) rfl ⟨by rw [hn]; rfl, by rw [hn]; rfl⟩
  refine aJ ?_
  refine T0 (hK _ _ _ ?_)
  clear hK K
  refine R0 ?_
  refine aF (RT Tryz.results107 ?_)
  have hn := aU1 hbad hfin (by simp at hb; omega)
  exact bD [] (.int .i64 n) (.bool true) rfl ⟨by rw [hn]; rfl, by rw [hn]; rfl⟩
 refine aC fun K hK => Rg ?_
 refine AU ?_
 refine aD 8 rfl (fun h1_8 => ?_) (fun h1_8 => ?_)
 ·
  have F := h1_8
  refine AU ?_
  refine T2 (hK _ _ _ ?_)
  clear hK K
  refine CT rfl ?_
  refine R0 ?_
  refine aF (RT Tryz.results107 ?_)
  have hn : bG s = none := vT (by simp only [gI, Bool.or_eq_true, decide_eq_true_eq]; simp at h1_8; left; left; omega)
  exact bD [] (.int .i64 0) (.bool false) rfl ⟨by rw [hn]; rfl, by rw [hn]; rfl⟩
 have F := h1_8
 refine AU ?_
 refine aD 12 rfl (fun h1_12 => ?_) (fun h1_12 => ?_)
 ·
  have F := aI h1_8 h1_12
  refine AU ?_
  refine T2 (hK _ _ _ ?_)
  clear hK K
  refine CT rfl ?_
  refine R0 ?_
  refine aF (RT Tryz.results107 ?_)
  have hn : bG s = none := vT (by simp only [gI, Bool.or_eq_true, decide_eq_true_eq]; simp at h1_12; left; right; omega)
  exact bD [] (.int .i64 0) (.bool false) rfl ⟨by rw [hn]; rfl, by rw [hn]; rfl⟩
 have F := aI h1_8 h1_12
 refine AU ?_
 refine aD 17 rfl (fun h1_17 => ?_) (fun h1_17 => ?_)
 ·
  have F := aI h1_8 (aI h1_12 h1_17)
  refine SF ?_
  refine bV (g := some (18, true)) rfl rfl fun K' hK' => T6 ?_
  refine ⟨by simp at h1_17; omega, ?_⟩
  refine AX (hK' _ _ ?_)
  clear hK' K'
  refine AU ?_
  refine aD 21 rfl (fun h1_21 => ?_) (fun h1_21 => ?_)
  ·
   simp only [h1_21]
   refine T2 (hK _ _ _ ?_)
   clear hK K
   refine CT rfl ?_
   refine R0 ?_
   refine aF (RT Tryz.results107 ?_)
   have hn : bG s = none := vT (by
    simp only [gI, Bool.or_eq_true, Bool.and_eq_true, decide_eq_true_eq, beq_iff_eq]
    right
    refine ⟨by simp at h1_17; omega, UInt8.toNat_inj.1 ?_⟩
    simp only [beq_iff_eq] at h1_21
    show (s.getD 0 0).toNat = 48
    omega)
   exact bD [] (.int .i64 0) (.bool false) rfl ⟨by rw [hn]; rfl, by rw [hn]; rfl⟩
  simp only [h1_21]
  refine T2 (hK _ _ _ ?_)
  clear hK K
  refine CF rfl ?_
  refine aJ (T3 ?_)
  refine key _ _ _ ?_ (fF)
  simp only [gI, Bool.or_eq_false_iff, Bool.and_eq_false_iff, decide_eq_false_iff_not, beq_eq_false_iff_ne, ne_eq]
  simp only [decide_eq_false_iff_not, decide_eq_true_eq] at h1_8 h1_12
  refine ⟨⟨by omega, by omega⟩, ?_⟩
  first
   | (right; intro h0; rw [h0] at h1_21; simp at h1_21)
   | (left; simp at h1_17; omega)
 have F := aI h1_8 (aI h1_12 h1_17)
 refine AU ?_
 refine T2 (hK _ _ _ ?_)
 clear hK K
 refine CF rfl ?_
 refine aJ (T3 ?_)
 refine key _ _ _ ?_ (fF)
 simp only [gI, Bool.or_eq_false_iff, Bool.and_eq_false_iff, decide_eq_false_iff_not, beq_eq_false_iff_ne, ne_eq]
 simp only [decide_eq_false_iff_not, decide_eq_true_eq] at h1_8 h1_12
 refine ⟨⟨by omega, by omega⟩, ?_⟩
 first
  | (right; intro h0; rw [h0] at h1_21; simp at h1_21)
  | (left; simp at h1_17; omega)


end Go.Proofs.YtlldglbooaefhaaGreatDoor

namespace Go.Pl
open Go Go.Hl

def isV (ls : List (List aE)) (a : Nat) (w : aE) (k : Nat) : Bool := decide (a < ls.length) && ((ls.getD a []).length == k && wd (ls.getD a []) 0 == w)
theorem aC2 {ls : List (List aE)} {a : Nat} (h : ¬ a < ls.length) (w : aE) (k : Nat) : isV ls a w k = false := by simp [isV, h]
theorem gW {ls : List (List aE)} {a : Nat} (h : a < ls.length) (w : aE) (k : Nat) : isV ls a w k = (ls[a].length == k && wd ls[a] 0 == w) := by simp [isV, h]
theorem fN {ls : List (List aE)} {a : Nat} {w : aE} {k : Nat} (h : isV ls a w k = true) : ∃ hl : a < ls.length, ls[a].length = k ∧ wd ls[a] 0 = w := by
 by_cases hl : a < ls.length
 ·
  rw [gW hl] at h
  simp only [Bool.and_eq_true, beq_iff_eq] at h
  exact ⟨hl, h⟩
 ·
  rw [aC2 hl] at h; cases h
def fL (ls : List (List aE)) (a : Nat) (w : aE) : Option Int := if isV ls a w 2 then bG (wd (ls.getD a []) 1) else none
def lZ (ls : List (List aE)) (a : Nat) (w : aE) : Option (Int × Int) := if isV ls a w 3 then match bG (wd (ls.getD a []) 1), bG (wd (ls.getD a []) 2) with | some n, some m => some (n, m) | _, _ => none else none
theorem aC3 {ls : List (List aE)} {a : Nat} {w : aE} (h : isV ls a w 2 = true) (hl : a < ls.length) : fL ls a w = bG (wd ls[a] 1) := by simp [fL, h, hl]
theorem bU0 {ls : List (List aE)} {a : Nat} {w : aE} (h : isV ls a w 2 = false) : fL ls a w = none := by simp [fL, h]
theorem bU1 {ls : List (List aE)} {a : Nat} {w : aE} (h : isV ls a w 3 = false) : lZ ls a w = none := by simp [lZ, h]
theorem aV4 {ls : List (List aE)} {a : Nat} {w : aE} (h : isV ls a w 3 = true) (hl : a < ls.length) : lZ ls a w = match bG (wd ls[a] 1), bG (wd ls[a] 2) with | some n, some m => some (n, m) | _, _ => none := by simp [lZ, h, hl]
theorem jA {ls : List (List aE)} {a : Nat} {w : aE} {n : Int} (h : fL ls a w = some n) : ∃ hl : a < ls.length, ls[a].length = 2 ∧ wd ls[a] 0 = w ∧ bG (wd ls[a] 1) = some n := by
 unfold fL at h
 split at h
 ·
  rename_i h1
  obtain ⟨hl, h2, h3⟩ := fN h1
  exact ⟨hl, h2, h3, by simpa [hl] using h⟩
 ·
  cases h
theorem bB6 {ls : List (List aE)} {a : Nat} {w : aE} {n m : Int} (h : lZ ls a w = some (n, m)) : ∃ hl : a < ls.length, ls[a].length = 3 ∧ wd ls[a] 0 = w ∧ bG (wd ls[a] 1) = some n ∧ bG (wd ls[a] 2) = some m := by
 unfold lZ at h
 split at h
 ·
  rename_i h1
  obtain ⟨hl, h2, h3⟩ := fN h1
  have e : ls.getD a [] = ls[a] := by simp [hl]
  rw [e] at h
  split at h
  ·
   rename_i n' m' h4 h5
   cases h
   exact ⟨hl, h2, h3, h4, h5⟩
  ·
   cases h
 ·
  cases h
theorem xH {w : List aE} (h : w.length = 2) (h0 : wd w 0 = dK) : eR w = (bG (wd w 1)).map (⟨1, ·, 0, []⟩) := by simp [eR, h, h0]
theorem aC4 {w : List aE} (h : w.length = 2) (h0 : wd w 0 = eB) : eR w = some ⟨2, 0, 0, wd w 1⟩ := by simp [eR, h, h0, show ¬ eB = dK from by decide]
theorem xI {w : List aE} (h : w.length = 2) (h0 : wd w 0 = dL) : eR w = (bG (wd w 1)).map (⟨3, ·, 0, []⟩) := by simp [eR, h, h0, show ¬ dL = dK from by decide, show ¬ dL = eB from by decide]
theorem aC5 {w : List aE} (h : w.length = 3) (h0 : wd w 0 = fJ) : eR w = match bG (wd w 1), bG (wd w 2) with | some n, some m => some ⟨4, n, m, []⟩ | _, _ => none := by
 simp only [eR, h, h0]
 simp only [show ¬ (3 = 2) from by decide, false_and, if_false, and_self, if_true]
 cases bG (wd w 1) <;> cases bG (wd w 2) <;> rfl
theorem aK8 {w : List aE} (h : w.length = 2) (h0 : wd w 0 = eY) : eR w = (bG (wd w 1)).map (⟨5, ·, 0, []⟩) := by simp [eR, h, h0, show ¬ eY = dK from by decide, show ¬ eY = eB from by decide, show ¬ eY = dL from by decide]
theorem aQ6 {w : List aE} (h : w.length = 2) (h0 : wd w 0 = gS) : eR w = (bG (wd w 1)).map (⟨6, ·, 0, []⟩) := by simp [eR, h, h0, show ¬ gS = dK from by decide, show ¬ gS = eB from by decide, show ¬ gS = dL from by decide, show ¬ gS = eY from by decide]
theorem aQ7 {w : List aE} (h : w.length = 2) (h0 : wd w 0 = gT) : eR w = (bG (wd w 1)).map (⟨7, ·, 0, []⟩) := by simp [eR, h, h0, show ¬ gT = dK from by decide, show ¬ gT = eB from by decide, show ¬ gT = dL from by decide, show ¬ gT = eY from by decide, show ¬ gT = gS from by decide]
theorem aC6 {w : List aE} (h : w.length = 1) (h0 : wd w 0 = jJ) : eR w = some ⟨8, 0, 0, []⟩ := by simp [eR, h, h0]
def jU (ls : List (List aE)) (a : Nat) : Option Rq := if h : a < ls.length then eR ls[a] else none
theorem fO {ls : List (List aE)} {a : Nat} (h : a < ls.length) : jU ls a = eR ls[a] := by simp [jU, h]
theorem bB7 {ls : List (List aE)} {a : Nat} (h1 : fL ls a dK = none) (h2 : isV ls a eB 2 = false) (h3 : fL ls a dL = none) (h4 : lZ ls a fJ = none) (h5 : fL ls a eY = none) (h6 : fL ls a gS = none)
  (h7 : fL ls a gT = none) (h8 : isV ls a jJ 1 = false) : jU ls a = none := by
 unfold jU
 split
 ·
  rename_i hl
  have n1 : ∀ w, fL ls a w = none → ls[a].length = 2 ∧ wd ls[a] 0 = w → bG (wd ls[a] 1) = none := fun w h hc => by
   have : isV ls a w 2 = true := by rw [gW hl]; simp [hc]
   rw [aC3 this hl] at h; exact h
  unfold eR
  split
  ·
   rename_i hc; rw [n1 _ h1 hc]; rfl
  ·
   split
   ·
    rename_i hc; rw [gW hl] at h2; simp [hc] at h2
   ·
    split
    ·
     rename_i hc; rw [n1 _ h3 hc]; rfl
    ·
     split
     ·
      rename_i hc
      have : isV ls a fJ 3 = true := by rw [gW hl]; simp [hc]
      rw [aV4 this hl] at h4
      split at h4
      ·
       cases h4
      ·
       rename_i hx
       split
       ·
        rename_i n m e1 e2; exact absurd e2 (hx n m e1)
       ·
        rfl
     ·
      split
      ·
       rename_i hc; rw [n1 _ h5 hc]; rfl
      ·
       split
       ·
        rename_i hc; rw [n1 _ h6 hc]; rfl
       ·
        split
        ·
         rename_i hc; rw [n1 _ h7 hc]; rfl
        ·
         split
         ·
          rename_i hc; rw [gW hl] at h8; simp [hc] at h8
         ·
          rfl
 ·
  rfl
def jO (ls : List (List aE)) (a : Nat) : Option Nd := if h : a < ls.length then jM ls[a] else none
theorem bM4 {ls : List (List aE)} {a : Nat} (h : isV ls a pD 1 = true) : jO ls a = some ⟨2, 0, 0, rq0⟩ := by
 obtain ⟨hl, h1, h2⟩ := fN h
 simp [jO, hl, jM, h1, h2]
theorem bM5 {ls : List (List aE)} {a : Nat} (h : isV ls a pE 1 = true) : jO ls a = some ⟨3, 0, 0, rq0⟩ := by
 obtain ⟨hl, h1, h2⟩ := fN h
 simp [jO, hl, jM, h1, h2, show ¬ pE = pD from by decide]
theorem bU2 {ls : List (List aE)} {a : Nat} {n : Int} (h : fL ls a dC = some n) : jO ls a = some ⟨4, n, 0, rq0⟩ := by
 obtain ⟨hl, h1, h2, h3⟩ := jA h
 simp [jO, hl, jM, h1, h2, h3]
theorem bB8 {ls : List (List aE)} {a : Nat} (h1 : isV ls a pD 1 = false) (h2 : isV ls a pE 1 = false) (h3 : fL ls a dC = none) : jO ls a = none := by
 unfold jO
 split
 ·
  rename_i hl
  unfold jM
  split
  ·
   rename_i hc; rw [gW hl] at h1; simp [hc] at h1
  ·
   split
   ·
    rename_i hc; rw [gW hl] at h2; simp [hc] at h2
   ·
    split
    ·
     rename_i hc
     have : isV ls a dC 2 = true := by rw [gW hl]; simp [hc]
     rw [aC3 this hl] at h3
     rw [h3]; rfl
    ·
     rfl
 ·
  rfl
end Go.Pl
