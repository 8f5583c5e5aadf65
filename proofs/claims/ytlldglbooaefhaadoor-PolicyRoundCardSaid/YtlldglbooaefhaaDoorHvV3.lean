/- Part of a proof: walks of functions of the program, by contracts, and the rules they use. By an AI agent. -/
import Derived.Test.YtlldglbooaefhaaDoorHvV1
import Derived.Test.YtlldglbooaefhaaDoorHvUd
import Derived.Test.YtlldglbooaefhaaDoorHlCl
import Derived.Test.YtlldglbooaefhaaDoorPl03e
import Derived.Test.YtlldglbooaefhaaDoorHvTd
import Derived.Test.YtlldglbooaefhaaDoorHlIt
set_option linter.unusedSimpArgs false
set_option linter.unusedVariables false
set_option linter.defProp false
namespace Go.Proofs.YtlldglbooaefhaaDoor
open Go Go.Hl Go.Pl
set_option maxRecDepth 10000
set_option maxHeartbeats 16000000

def aB : Nat → Nat
 | 0 => 4
 | d + 1 => 8 + 3 * aB d
theorem aK1 : ∀ d, d ≤ 3 → aB d ≤ 400 := by decide
theorem bW6 : ∀ d, d ≤ 3 → 4 ≤ aB d := by decide
theorem cA0 {d n : Nat} (hd : d ≤ 3) {p : Nat × Nat} (h : p ∈ pos d n) : p.1 ≤ 60 := by
 rcases Nat.lt_or_ge n 9 with hn | hn
 ·
  have key : ∀ d, d < 4 → ∀ n, n < 9 → ∀ p ∈ pos d n, p.1 ≤ 60 := by decide +kernel
  exact key d (by omega) n hn p h
 cases d with
 | zero => simp [pos] at h; subst h; simp
 | succ d =>
  rw [pos, nX, if_neg (by omega)] at h
  simp at h; subst h; simp
theorem aK2 {d n : Nat} {t : List Nd} (h : Made d n t) (hd : d ≤ 3) : t.length ≤ 60 := cA0 hd h.pos
theorem aK3 {ob : Ob} {L : List Int} {a d m a' : Nat} {T t : List Nd} {X : List CV} (h0 : ob 0 = some (.box 56 (.c (tp L a')))) (h1 : ob 1 = some (.row 48 7 X)) (hm : m = (T ++ t).length) (hX : X = (T ++ t).map Nd.cv) (hM : Made d T.length t) (ha : a' ≤ a + aB d) :
  lN 2 (.own 1 m) ob (fun r ob' => ∃ os', ob' = lst os' ∧ (2 ≤ os'.length ∧ os'.length ≤ 2 + 4) ∧ ∃ (t : List Nd) (a' : Nat), r = .own 1 (T ++ t).length ∧ os' = [.box 56 (.c (tp L a')), .row 48 7 ((T ++ t).map Nd.cv)] ∧ Made d T.length t ∧ a' ≤ a + aB d) := by
 subst hm hX
 exact dY [] [] (.own 1 (T ++ t).length) [.box 56 (.c (tp L a')), .row 48 7 ((T ++ t).map Nd.cv)] rfl (by simp [HV.men]) ⟨⟨by simp [HO.men, HV.men], by simp, _, h0, by simp [HO.close, HV.close, HO.ren, HV.ren, HV.norm, fL, HV.toC, tp, CV.denil, CV.denilL, denilL_int]⟩, ⟨by simp [HO.men], by simp, _, h1, rfl⟩, trivial⟩ rfl List.nodup_nil (by simp) (by simp) ⟨t, a', rfl, rfl, hM, ha⟩
theorem bM5 (n : Nat) (ob : Ob) (e : TypeId) (sz : Nat) (v : CV) (L : List CV) (t : TypeId) : jK (sub [0, 1] n) ob 0 [.box t (.c v), .row e sz L] = upd (upd ob 0 (some (.box t (.c v)))) 1 (some (.row e sz L)) := rfl
theorem bU4 (n m : Nat) : HV.ren (sub [0, 1] n) (.own 1 m) = .own 1 m := rfl
theorem cE6 (L : List Int) (a : Nat) (T : List Nd) : lst [.box 56 (.c (tp L a)), .row 48 7 (T.map Nd.cv)] = fob [(0, .box 56 (.c (tp L a))), (1, .row 48 7 (T.map Nd.cv))] := by
 funext i
 match i with
 | 0 => rfl
 | 1 => rfl
 | i + 2 => simp [lst, fob, upd]
abbrev cI1 (L : List Int) (a d : Nat) (T : List Nd) (r : HV) (os' : List HO) : Prop :=
 ∃ (t : List Nd) (a' : Nat), r = .own 1 (T ++ t).length ∧ os' = [.box 56 (.c (tp L a')), .row 48 7 ((T ++ t).map Nd.cv)] ∧ Made d T.length t ∧ a' ≤ a + aB d

theorem cA1 (d : Nat) : ∀ (L : List Int) (a : Nat) (T : List Nd), d ≤ 3 → a + aB d < 2 ^ 38 → 0 < T.length → T.length < 2 ^ 38 →
  HGe Tryd.prog 29 [.ptr 0 0, .own 1 T.length, .c (.int .i64 d)] [.box 56 (.c (tp L a)), .row 48 7 (T.map Nd.cv)] (cI1 L a d T) := by
 induction d using Nat.strongRecOn with
 | ind d ih => ?_
 intro L a T hd ha hT0 hTl
 refine bP (args := [.ptr 0 0, .own 1 T.length, .c (.int .i64 d)]) Tryd.func29 rfl (by kernel_rfl) (eW rfl (by simp [dZ, HO.men, HV.men, HV.menL]) (by simp [HV.menL, HV.men])) (Nat.le_of_ble_eq_true rfl) ?_
 show Hw _ _ 2 _ _ _ (lst _) 2
 rw [cE6]
 have hab := aK1 d hd
 have hw1 : ∀ x : Int, 0 ≤ x → x < 100 → IntKind.i64.wrap (1 + x) = 1 + x := fun x h1 h2 => IntWalk.i64_in _ (by omega)
 have hw2 : ∀ x : Int, 0 ≤ x → x < 100 → IntKind.i64.wrap (2 + x) = 2 + x := fun x h1 h2 => IntWalk.i64_in _ (by omega)
 refine R0 ?_
 refine aC fun K hK => ?_
 refine aC fun K hK => ?_
 have key : ∀ (b : Bool) (a1 : Nat) fr ob nx, (b = false → 0 < d ∧ T.length ≤ 8) → a1 ≤ a + 1 → Fits 2 fr ob (fin [(0, .ptr 0 0), (1, .own 1 T.length), (2, .c (.int .i64 d)), (20, .c (.bool b))]) (fob [(0, .box 56 (.c (tp L a1))), (1, .row 48 7 (T.map Nd.cv))]) 200 → K fr ob nx := by
  rintro b a1 fr ob nx hbf ha1 hf
  refine hK _ _ _ (bS hf ?_)
  clear hf hK K
  refine aG (b := b) rfl (fun hb => ?_) (fun hb => ?_)
  ·
   clear hbf
   refine aC fun K hK => Rg ?_
   iterate 2 refine S0 ?_
   refine HS rfl rfl fun K' hK' => T5 ?_
   refine bG (args := []) (aU8 L a1 (by omega)) rfl (by simp) ⟨rfl, rfl, rfl, rfl⟩ ?_
   rintro u v' ⟨q, a2, rfl, rfl, s1, s2⟩
   refine AX (hK' _ _ ?_)
   clear hK' K'
   iterate 4 refine S0 ?_
   refine T2 (hK _ _ _ ?_)
   clear hK K
   refine aF (RT Tryd.results29 ?_)
   have := bW6 d hd
   exact aK3 (t := [⟨1, 0, 0, q⟩]) rfl rfl (by simp) (by simp) (yS s2) (by omega)
  obtain ⟨hd0, hT8⟩ := hbf hb
  clear hbf hb
  refine aJ ?_
  refine T0 (hK _ _ _ ?_)
  clear hK K
  refine aC fun K hK => Rg ?_
  refine S0 ?_
  refine HS rfl rfl fun K' hK' => T5 ?_
  refine bG (args := [_]) (dM L a1 3 (by omega) (by omega)) rfl (by simp) ⟨rfl, rfl, rfl, rfl⟩ ?_
  rintro u v' ⟨x, a2, rfl, rfl, h1, h2, h3, h4⟩
  refine AX (hK' _ _ ?_)
  clear hK' K'
  iterate 2 refine S0 ?_
  refine HS rfl rfl fun K' hK' => T5 ?_
  refine bG (args := [_]) (dM L a2 3 (by omega) (by omega)) rfl (by simp) ⟨rfl, rfl, rfl, rfl⟩ ?_
  rintro u v' ⟨y, a3, rfl, rfl, g1, g2, g3, g4⟩
  refine AX (hK' _ _ ?_)
  clear hK' K'
  iterate 4 refine S0 ?_
  refine T2 (hK _ _ _ ?_)
  clear hK K
  refine aC fun K hK => ?_
  have key2 : ∀ (k c N : Int) (a4 : Nat) fr ob nx, (1 ≤ c ∧ c ≤ 3) → k ≠ 1 → bJ ⟨k, N, c, rq0⟩ = true → a4 ≤ a + 4 → Fits 2 fr ob (fin [(0, .ptr 0 0), (1, .own 1 T.length), (2, .c (.int .i64 d)), (7, .ptr 228 0)]) (fob [(0, .box 56 (.c (tp L a4))), (1, .row 48 7 (T.map Nd.cv)), (228, .box 48 (.c (Nd.cv ⟨k, N, c, rq0⟩)))]) 700 → K fr ob nx := by
   rintro k c N a4 fr ob nx ⟨hc1, hc3⟩ hk1 hnode ha4 hf
   refine hK _ _ _ (bS hf ?_)
   clear hf hK K
   refine aC fun K hK => Rg ?_
   iterate 5 refine S0 ?_
   refine T2 (hK _ _ _ ?_)
   clear hK K
   refine aC fun K hK => ?_
   refine R0 ?_
   refine aK ?_
   refine bM (α := {w : List Nd × Nat × Nat // MadeK (d - 1) T.length w.2.1 w.1 ∧ w.2.2 ≤ a + 4 + w.2.1 * aB (d - 1) ∧ (w.2.1 : Int) ≤ c ∧ w.1.length ≤ 60 * w.2.1}) (fun w => (fin [(0, .ptr 0 0), (1, .own 1 (T.length + 1 + w.1.1.length)), (2, .c (.int .i64 d)), (7, .ptr 228 0), (8, .c (.int .i64 w.1.2.1))], fob [(0, .box 56 (.c (tp L w.1.2.2))), (1, .row 48 7 ((T ++ ⟨k, N, c, rq0⟩ :: w.1.1).map Nd.cv)), (228, .box 48 (.c (Nd.cv ⟨k, N, c, rq0⟩)))])) 2000 (fun w => 10 - w.1.2.1) ⟨([], 0, a4), MadeK.zero _ _, by simp only; omega, by simp only; omega, by simp⟩ (fF) ?_
   rintro ⟨⟨ts, j, a5⟩, i1, i2, i3, i4⟩
   simp only at i1 i2 i3 i4
   refine aC fun K hK => ?_
   refine aC fun K hK => Rg ?_
   iterate 4 refine S0 ?_
   refine T2 (hK _ _ _ ?_)
   clear hK K
   refine aG (b := decide ((j : Int) < c)) rfl (fun hb => ?_) (fun hb => ?_)
   ·
    have hjc : (j : Int) < c := by simpa using hb
    clear hb
    obtain ⟨M, hM⟩ : ∃ M, M = T ++ ⟨k, N, c, rq0⟩ :: ts := ⟨_, rfl⟩
    have hMl : T.length + 1 + ts.length = M.length := by rw [hM]; simp; omega
    rw [← hM, hMl]
    have hwd : IntKind.i64.wrap ((d : Int) - 1) = ((d - 1 : Nat) : Int) := by rw [IntWalk.i64_in _ (by omega)]; omega
    have hab1 := aK1 (d - 1) (by omega)
    have hj3 : j ≤ 2 := by omega
    have hja : j * aB (d - 1) ≤ 2 * aB (d - 1) := Nat.mul_le_mul_right _ hj3
    have hdd : aB d = 8 + 3 * aB (d - 1) := by
     obtain ⟨e, rfl⟩ : ∃ e, d = e + 1 := ⟨d - 1, by omega⟩
     rfl
    refine aJ ?_
    refine T0 (hK _ _ _ ?_)
    clear hK K
    refine aC fun K hK => ?_
    refine aK ?_
    refine Rg ?_
    have F := hwd
    iterate 4 refine SF ?_
    refine HS rfl rfl fun K' hK' => T6 ?_
    refine fP [0, 1] (ih (d - 1) (by omega) L a5 M (by omega) (by omega) (by omega) (by omega)) rfl ⟨rfl, rfl, trivial⟩ (by simp) (by simp) ⟨rfl, rfl, rfl, rfl⟩ (by simp [dZ, HO.men, HV.men, HV.menL]) (by simp [HV.menL, HV.men]) ?_
    rintro r os' ⟨t, a6, rfl, rfl, ht, ha6⟩
    rw [bM5, bU4]
    refine AX (hK' _ _ ?_)
    clear hK' K'
    refine SF ?_
    refine T2 (hK _ _ _ ?_)
    clear hK K
    refine aM (by kernel_rfl) ?_
    refine TQ (IntWalk.i64_in ((j : Int) + 1) (by omega)) ?_
    have htl := aK2 ht (by omega)
    have hnx := i1.next (t := t) (by rw [hMl]; exact ht)
    refine ⟨⟨(ts ++ t, j + 1, a6), hnx, by simp only [Nat.add_mul, Nat.one_mul]; omega, by simp only; omega, by simp only [List.length_append]; omega⟩, ?_, ?_⟩
    ·
     have e1 : M ++ t = T ++ ⟨k, N, c, rq0⟩ :: (ts ++ t) := by rw [hM]; simp
     have e2 : (M ++ t).length = T.length + 1 + (ts ++ t).length := by rw [e1]; simp; omega
     simp only []
     rw [← e1, ← e2]
     exact fF
    show 10 - (j + 1) < 10 - j
    omega
   have hjc : (j : Int) = c := by simp at hb; omega
   have hj3 : j ≤ 3 := by omega
   have hja : j * aB (d - 1) ≤ 3 * aB (d - 1) := Nat.mul_le_mul_right _ hj3
   obtain ⟨d', rfl⟩ : ∃ d', d = d' + 1 := ⟨d - 1, by omega⟩
   simp only [Nat.add_sub_cancel] at i1 i2 hja
   have hm := i1.fin (x := ⟨k, N, c, rq0⟩) hT8 hnode hk1 hjc.symm (by omega) (by omega)
   refine bA (T3 ?_)
   clear hK K
   refine AX (hK _ _ _ ?_)
   clear hK K
   refine R0 ?_
   refine aF (RT Tryd.results29 ?_)
   exact aK3 (t := ⟨k, N, c, rq0⟩ :: ts) rfl rfl (by simp; omega) rfl hm (by simp only [aB]; omega)
  have hx3 := h4 (by omega)
  have hy3 := g4 (by omega)
  obtain ⟨k, hk⟩ : ∃ k, k = IntKind.i64.wrap (2 + x) := ⟨_, rfl⟩
  obtain ⟨c, hc⟩ : ∃ c, c = IntKind.i64.wrap (1 + y) := ⟨_, rfl⟩
  have hkx : k = 2 + x := by rw [hk, hw2 x h2 (by omega)]
  have hcy : c = 1 + y := by rw [hc, hw1 y g2 (by omega)]
  rw [← hk, ← hc]
  clear hk hc h3 h4 g3 g4
  refine R0 ?_
  refine aG (b := _) rfl (fun hb => ?_) (fun hb => ?_)
  ·
   refine Rg ?_
   iterate 3 refine S0 ?_
   refine HS rfl rfl fun K' hK' => T5 ?_
   refine bG (args := [_]) (dM L a3 c (by omega) (by omega)) rfl (by simp) ⟨rfl, rfl, rfl, rfl⟩ ?_
   rintro u v' ⟨z, a4, rfl, rfl, f1, f2, f3, f4⟩
   refine AX (hK' _ _ ?_)
   clear hK' K'
   iterate 3 refine S0 ?_
   refine T4 ?_
   have f5 := f4 (by omega)
   have hk4 : k = 4 := by simpa using hb
   exact key2 k c (IntKind.i64.wrap (1 + z)) a4 _ _ _ ⟨by omega, by omega⟩ (by omega) (by rw [hw1 z f2 (by omega), bJ, if_neg (by simp only; omega), if_neg (by simp only; omega), if_pos hk4]; simp [inB, gB]; omega) (by omega) (aO (by omega) (by simp [bB, fin_at, finA_at, upd_at, HV.men, HV.menL, HV.norm, HV.toC, HV.toCL, Nd.cv, rq0]) (by simp [aZ, fob_at, upd_at, none0_at, bZ, HO.men, HV.men, HV.menL, HV.norm, HV.toC, HV.toCL, Nd.cv, rq0]))
  refine aJ (T3 ?_)
  have hk4 : ¬ k = 4 := by simpa using hb
  exact key2 k c 0 a3 _ _ _ ⟨by omega, by omega⟩ (by omega) (by rw [bJ, if_neg (by simp only; omega), if_pos (by simp only; omega)]; simp [inB, gB]; omega) (by omega) (aO (by omega) (by simp [bB, fin_at, finA_at, upd_at, HV.men, HV.menL, HV.norm, HV.toC, HV.toCL, Nd.cv, rq0]) (by simp [aZ, fob_at, upd_at, none0_at, bZ, HO.men, HV.men, HV.menL, HV.norm, HV.toC, HV.toCL, Nd.cv, rq0]))
 refine Rg ?_
 iterate 3 refine S0 ?_
 refine aH 10 rfl (fun h1_10 => ?_) (fun h1_10 => ?_)
 ·
  have F := h1_10
  iterate 9 refine SF ?_
  refine T4 ?_
  exact key true a _ _ _ (fun h => by cases h) (by omega) (fF)
 have F := h1_10
 refine SF ?_
 refine aY (g := some (11, false)) rfl rfl fun K' hK' => T6 ?_
 refine bG (args := [_]) (dM L a 3 (by omega) (by omega)) rfl (by simp) ⟨rfl, rfl, rfl, rfl⟩ ?_
 rintro u v' ⟨x, a1, rfl, rfl, h1, h2, h3, h4⟩
 refine AX (hK' _ _ ?_)
 clear hK' K'
 iterate 3 refine SF ?_
 refine aH 14 rfl (fun h1_14 => ?_) (fun h1_14 => ?_)
 ·
  have F := aI h1_10 h1_14
  iterate 4 refine SF ?_
  refine T4 ?_
  exact key true a1 _ _ _ (fun h => by cases h) h1 (fF)
 have F := aI h1_10 h1_14
 iterate 4 refine SF ?_
 refine aH 19 rfl (fun h1_19 => ?_) (fun h1_19 => ?_)
 ·
  simp only [h1_19]
  refine T4 ?_
  exact key true a1 _ _ _ (fun h => by cases h) h1 (fF)
 simp only [h1_19]
 refine T4 ?_
 exact key false a1 _ _ _ (fun _ => ⟨by simp at h1_10; omega, by simp at h1_19; omega⟩) h1 (fF)

end Go.Proofs.YtlldglbooaefhaaDoor

namespace Go.Proofs.YtlldglbooaefhaaDoor
open Go Go.Hl Go.Pl
set_option maxRecDepth 10000
set_option maxHeartbeats 16000000

theorem bB6 (N n : Nat) (ob : Ob) (e : TypeId) (sz : Nat) (v : CV) (L : List CV) (t : TypeId) : jK (sub [0, N] n) ob 0 [.box t (.c v), .row e sz L] = upd (upd ob 0 (some (.box t (.c v)))) N (some (.row e sz L)) := rfl
theorem bM6 (N n m : Nat) : HV.ren (sub [0, N] n) (.own 1 m) = .own N m := rfl
theorem bW7 (L : List Int) (a : Nat) : lst [.box 56 (.c (tp L a))] = fob [(0, .box 56 (.c (tp L a)))] := by
 funext i
 match i with
 | 0 => rfl
 | i + 1 => simp [lst, fob, upd]
abbrev MkR (L : List Int) (a d : Nat) (r : HV) (os' : List HO) : Prop :=
 ∃ (t : List Nd) (a' : Nat), r = .own 1 t.length ∧ os' = [.box 56 (.c (tp L a')), .row 48 7 (t.map Nd.cv)] ∧ Made d 0 t ∧ a' ≤ a + aB d
theorem rM {ob : Ob} {L : List Int} {a d m a' : Nat} {t : List Nd} {X : List CV} (N : Nat) (hN : 1 ≤ N) (h0 : ob 0 = some (.box 56 (.c (tp L a')))) (h1 : ob N = some (.row 48 7 X)) (hm : m = t.length) (hX : X = t.map Nd.cv) (hM : Made d 0 t) (ha : a' ≤ a + aB d) :
  lN 1 (.own N m) ob (fun r ob' => ∃ os', ob' = lst os' ∧ (1 ≤ os'.length ∧ os'.length ≤ 1 + 4) ∧ ∃ (t : List Nd) (a' : Nat), r = .own 1 t.length ∧ os' = [.box 56 (.c (tp L a')), .row 48 7 (t.map Nd.cv)] ∧ Made d 0 t ∧ a' ≤ a + aB d) := by
 subst hm hX
 have e1 : tau 1 [N] 1 = N := rfl
 exact dY [] [N] (.own 1 t.length) [.box 56 (.c (tp L a')), .row 48 7 (t.map Nd.cv)] (by simp [HV.close, HV.norm, HV.toC, HV.ren, e1]) (by simp [HV.men]) ⟨⟨by simp [HO.men, HV.men], by simp, _, h0, by simp [HO.close, HV.close, HO.ren, HV.ren, HV.norm, fL, HV.toC, tp, CV.denil, CV.denilL, denilL_int]⟩, ⟨by simp [HO.men], by simp, _, h1, rfl⟩, trivial⟩ rfl (by simp) (by simpa using hN) (by simp) ⟨t, a', rfl, rfl, hM, ha⟩

theorem bU5 (d : Nat) (L : List Int) (a : Nat) (hd : d ≤ 3) (ha : a + aB d < 2 ^ 38) :
  HGe Tryd.prog 29 [.ptr 0 0, .c .nils, .c (.int .i64 d)] [.box 56 (.c (tp L a))] (MkR L a d) := by
 refine bP (args := [.ptr 0 0, .c .nils, .c (.int .i64 d)]) Tryd.func29 rfl (by kernel_rfl) (eW rfl (by simp [dZ, HO.men, HV.men, HV.menL]) (by simp [HV.menL, HV.men])) (Nat.le_of_ble_eq_true rfl) ?_
 show Hw _ _ 1 _ _ _ (lst _) 1
 rw [bW7]
 have hab := aK1 d hd
 have hw1 : ∀ x : Int, 0 ≤ x → x < 100 → IntKind.i64.wrap (1 + x) = 1 + x := fun x h1 h2 => IntWalk.i64_in _ (by omega)
 have hw2 : ∀ x : Int, 0 ≤ x → x < 100 → IntKind.i64.wrap (2 + x) = 2 + x := fun x h1 h2 => IntWalk.i64_in _ (by omega)
 refine R0 ?_
 refine aC fun K hK => ?_
 refine aC fun K hK => ?_
 have key : ∀ (b : Bool) (a1 : Nat) fr ob nx, (b = false → 0 < d) → a1 ≤ a + 1 → Fits 1 fr ob (fin [(0, .ptr 0 0), (1, .c .nils), (2, .c (.int .i64 d)), (20, .c (.bool b))]) (fob [(0, .box 56 (.c (tp L a1)))]) 200 → K fr ob nx := by
  rintro b a1 fr ob nx hbf ha1 hf
  refine hK _ _ _ (bS hf ?_)
  clear hf hK K
  refine aG (b := b) rfl (fun hb => ?_) (fun hb => ?_)
  ·
   clear hbf
   refine aC fun K hK => Rg ?_
   iterate 2 refine S0 ?_
   refine HS rfl rfl fun K' hK' => T5 ?_
   refine bG (args := []) (aU8 L a1 (by omega)) rfl (by simp) ⟨rfl, rfl, rfl, rfl⟩ ?_
   rintro u v' ⟨q, a2, rfl, rfl, s1, s2⟩
   refine AX (hK' _ _ ?_)
   clear hK' K'
   iterate 4 refine S0 ?_
   refine T2 (hK _ _ _ ?_)
   clear hK K
   refine aF (RT Tryd.results29 ?_)
   have := bW6 d hd
   exact rM 220 (by decide) (t := [⟨1, 0, 0, q⟩]) rfl rfl (by simp) (by simp) (yS s2) (by omega)
  have hd0 := hbf hb
  clear hbf hb
  refine aJ ?_
  refine T0 (hK _ _ _ ?_)
  clear hK K
  refine aC fun K hK => Rg ?_
  refine S0 ?_
  refine HS rfl rfl fun K' hK' => T5 ?_
  refine bG (args := [_]) (dM L a1 3 (by omega) (by omega)) rfl (by simp) ⟨rfl, rfl, rfl, rfl⟩ ?_
  rintro u v' ⟨x, a2, rfl, rfl, h1, h2, h3, h4⟩
  refine AX (hK' _ _ ?_)
  clear hK' K'
  iterate 2 refine S0 ?_
  refine HS rfl rfl fun K' hK' => T5 ?_
  refine bG (args := [_]) (dM L a2 3 (by omega) (by omega)) rfl (by simp) ⟨rfl, rfl, rfl, rfl⟩ ?_
  rintro u v' ⟨y, a3, rfl, rfl, g1, g2, g3, g4⟩
  refine AX (hK' _ _ ?_)
  clear hK' K'
  iterate 4 refine S0 ?_
  refine T2 (hK _ _ _ ?_)
  clear hK K
  refine aC fun K hK => ?_
  have key2 : ∀ (k c N : Int) (a4 : Nat) fr ob nx, (1 ≤ c ∧ c ≤ 3) → k ≠ 1 → bJ ⟨k, N, c, rq0⟩ = true → a4 ≤ a + 4 → Fits 1 fr ob (fin [(0, .ptr 0 0), (1, .c .nils), (2, .c (.int .i64 d)), (7, .ptr 228 0)]) (fob [(0, .box 56 (.c (tp L a4))), (228, .box 48 (.c (Nd.cv ⟨k, N, c, rq0⟩)))]) 700 → K fr ob nx := by
   rintro k c N a4 fr ob nx ⟨hc1, hc3⟩ hk1 hnode ha4 hf
   refine hK _ _ _ (bS hf ?_)
   clear hf hK K
   refine aC fun K hK => Rg ?_
   iterate 5 refine S0 ?_
   refine T2 (hK _ _ _ ?_)
   clear hK K
   refine aC fun K hK => ?_
   refine R0 ?_
   refine aK ?_
   refine bM (α := {w : List Nd × Nat × Nat // MadeK (d - 1) 0 w.2.1 w.1 ∧ w.2.2 ≤ a + 4 + w.2.1 * aB (d - 1) ∧ (w.2.1 : Int) ≤ c ∧ w.1.length ≤ 60 * w.2.1}) (fun w => (fin [(0, .ptr 0 0), (1, .own 712 (1 + w.1.1.length)), (2, .c (.int .i64 d)), (7, .ptr 228 0), (8, .c (.int .i64 w.1.2.1))], fob [(0, .box 56 (.c (tp L w.1.2.2))), (712, .row 48 7 ((⟨k, N, c, rq0⟩ :: w.1.1 : List Nd).map Nd.cv)), (228, .box 48 (.c (Nd.cv ⟨k, N, c, rq0⟩)))])) 2000 (fun w => 10 - w.1.2.1) ⟨([], 0, a4), MadeK.zero _ _, by simp only; omega, by simp only; omega, by simp⟩ (fF) ?_
   rintro ⟨⟨ts, j, a5⟩, i1, i2, i3, i4⟩
   simp only at i1 i2 i3 i4
   refine aC fun K hK => ?_
   refine aC fun K hK => Rg ?_
   iterate 4 refine S0 ?_
   refine T2 (hK _ _ _ ?_)
   clear hK K
   refine aG (b := decide ((j : Int) < c)) rfl (fun hb => ?_) (fun hb => ?_)
   ·
    have hjc : (j : Int) < c := by simpa using hb
    clear hb
    obtain ⟨M, hM⟩ : ∃ M : List Nd, M = ⟨k, N, c, rq0⟩ :: ts := ⟨_, rfl⟩
    have hMl : 1 + ts.length = M.length := by rw [hM]; simp; omega
    have hMm : Nd.cv ⟨k, N, c, rq0⟩ :: List.map Nd.cv ts = List.map Nd.cv M := by rw [hM]; rfl
    rw [hMm, hMl]
    have hwd : IntKind.i64.wrap ((d : Int) - 1) = ((d - 1 : Nat) : Int) := by rw [IntWalk.i64_in _ (by omega)]; omega
    have hab1 := aK1 (d - 1) (by omega)
    have hj3 : j ≤ 2 := by omega
    have hja : j * aB (d - 1) ≤ 2 * aB (d - 1) := Nat.mul_le_mul_right _ hj3
    have hdd : aB d = 8 + 3 * aB (d - 1) := by
     obtain ⟨e, rfl⟩ : ∃ e, d = e + 1 := ⟨d - 1, by omega⟩
     rfl
    refine aJ ?_
    refine T0 (hK _ _ _ ?_)
    clear hK K
    refine aC fun K hK => ?_
    refine aK ?_
    refine Rg ?_
    have F := hwd
    iterate 4 refine SF ?_
    refine HS rfl rfl fun K' hK' => T6 ?_
    refine fP [0, 712] (cA1 (d - 1) L a5 M (by omega) (by omega) (by omega) (by omega)) rfl ⟨rfl, rfl, trivial⟩ (by simp) (by simp) ⟨rfl, rfl, rfl, rfl⟩ (by simp [dZ, HO.men, HV.men, HV.menL]) (by simp [HV.menL, HV.men]) ?_
    rintro r os' ⟨t, a6, rfl, rfl, ht, ha6⟩
    rw [bB6, bM6]
    refine AX (hK' _ _ ?_)
    clear hK' K'
    refine SF ?_
    refine T2 (hK _ _ _ ?_)
    clear hK K
    refine aM (by kernel_rfl) ?_
    refine TQ (IntWalk.i64_in ((j : Int) + 1) (by omega)) ?_
    have htl := aK2 ht (by omega)
    have hnx := i1.next (t := t) (by rw [Nat.zero_add, hMl]; exact ht)
    refine ⟨⟨(ts ++ t, j + 1, a6), hnx, by simp only [Nat.add_mul, Nat.one_mul]; omega, by simp only; omega, by simp only [List.length_append]; omega⟩, ?_, ?_⟩
    ·
     have e1 : Nd.cv ⟨k, N, c, rq0⟩ :: List.map Nd.cv (ts ++ t) = List.map Nd.cv (M ++ t) := by rw [hM]; simp
     have e2 : (M ++ t).length = 1 + (ts ++ t).length := by rw [hM]; simp; omega
     simp only []
     rw [e1, ← e2]
     exact fF
    show 10 - (j + 1) < 10 - j
    omega
   have hjc : (j : Int) = c := by simp at hb; omega
   have hj3 : j ≤ 3 := by omega
   have hja : j * aB (d - 1) ≤ 3 * aB (d - 1) := Nat.mul_le_mul_right _ hj3
   obtain ⟨d', rfl⟩ : ∃ d', d = d' + 1 := ⟨d - 1, by omega⟩
   simp only [Nat.add_sub_cancel] at i1 i2 hja
   have hm := i1.fin (x := ⟨k, N, c, rq0⟩) (by omega) hnode hk1 hjc.symm (by omega) (by omega)
   refine bA (T3 ?_)
   clear hK K
   refine AX (hK _ _ _ ?_)
   clear hK K
   refine R0 ?_
   refine aF (RT Tryd.results29 ?_)
   exact rM 712 (by decide) (t := ⟨k, N, c, rq0⟩ :: ts) rfl rfl (by simp; omega) rfl hm (by simp only [aB]; omega)
  have hx3 := h4 (by omega)
  have hy3 := g4 (by omega)
  obtain ⟨k, hk⟩ : ∃ k, k = IntKind.i64.wrap (2 + x) := ⟨_, rfl⟩
  obtain ⟨c, hc⟩ : ∃ c, c = IntKind.i64.wrap (1 + y) := ⟨_, rfl⟩
  have hkx : k = 2 + x := by rw [hk, hw2 x h2 (by omega)]
  have hcy : c = 1 + y := by rw [hc, hw1 y g2 (by omega)]
  rw [← hk, ← hc]
  clear hk hc h3 h4 g3 g4
  refine R0 ?_
  refine aG (b := _) rfl (fun hb => ?_) (fun hb => ?_)
  ·
   refine Rg ?_
   iterate 3 refine S0 ?_
   refine HS rfl rfl fun K' hK' => T5 ?_
   refine bG (args := [_]) (dM L a3 c (by omega) (by omega)) rfl (by simp) ⟨rfl, rfl, rfl, rfl⟩ ?_
   rintro u v' ⟨z, a4, rfl, rfl, f1, f2, f3, f4⟩
   refine AX (hK' _ _ ?_)
   clear hK' K'
   iterate 3 refine S0 ?_
   refine T4 ?_
   have f5 := f4 (by omega)
   have hk4 : k = 4 := by simpa using hb
   exact key2 k c (IntKind.i64.wrap (1 + z)) a4 _ _ _ ⟨by omega, by omega⟩ (by omega) (by rw [hw1 z f2 (by omega), bJ, if_neg (by simp only; omega), if_neg (by simp only; omega), if_pos hk4]; simp [inB, gB]; omega) (by omega) (aO (by omega) (by simp [bB, fin_at, finA_at, upd_at, HV.men, HV.menL, HV.norm, HV.toC, HV.toCL, Nd.cv, rq0]) (by simp [aZ, fob_at, upd_at, none0_at, bZ, HO.men, HV.men, HV.menL, HV.norm, HV.toC, HV.toCL, Nd.cv, rq0]))
  refine aJ (T3 ?_)
  have hk4 : ¬ k = 4 := by simpa using hb
  exact key2 k c 0 a3 _ _ _ ⟨by omega, by omega⟩ (by omega) (by rw [bJ, if_neg (by simp only; omega), if_pos (by simp only; omega)]; simp [inB, gB]; omega) (by omega) (aO (by omega) (by simp [bB, fin_at, finA_at, upd_at, HV.men, HV.menL, HV.norm, HV.toC, HV.toCL, Nd.cv, rq0]) (by simp [aZ, fob_at, upd_at, none0_at, bZ, HO.men, HV.men, HV.menL, HV.norm, HV.toC, HV.toCL, Nd.cv, rq0]))
 refine Rg ?_
 iterate 3 refine S0 ?_
 refine aH 10 rfl (fun h1_10 => ?_) (fun h1_10 => ?_)
 ·
  have F := h1_10
  iterate 9 refine SF ?_
  refine T4 ?_
  exact key true a _ _ _ (fun h => by cases h) (by omega) (fF)
 have F := h1_10
 refine SF ?_
 refine aY (g := some (11, false)) rfl rfl fun K' hK' => T6 ?_
 refine bG (args := [_]) (dM L a 3 (by omega) (by omega)) rfl (by simp) ⟨rfl, rfl, rfl, rfl⟩ ?_
 rintro u v' ⟨x, a1, rfl, rfl, h1, h2, h3, h4⟩
 refine AX (hK' _ _ ?_)
 clear hK' K'
 iterate 3 refine SF ?_
 refine aH 14 rfl (fun h1_14 => ?_) (fun h1_14 => ?_)
 ·
  have F := aI h1_10 h1_14
  iterate 4 refine SF ?_
  refine T4 ?_
  exact key true a1 _ _ _ (fun h => by cases h) h1 (fF)
 have F := aI h1_10 h1_14
 refine SF ?_
 refine aY (g := some (16, false)) rfl rfl fun K' hK' => T6 ?_
 obtain ⟨z, hz⟩ : ∃ z : Int, z = 0 := ⟨_, rfl⟩
 rw [← hz]
 refine AX (hK' _ _ ?_)
 clear hK' K'
 iterate 2 refine SF ?_
 refine aH 19 rfl (fun h1_19 => ?_) (fun h1_19 => ?_)
 ·
  simp only [h1_19]
  refine T4 ?_
  exact key true a1 _ _ _ (fun h => by cases h) h1 (fF)
 simp only [h1_19]
 refine T4 ?_
 exact key false a1 _ _ _ (fun _ => (by simp at h1_10; omega)) h1 (fF)

end Go.Proofs.YtlldglbooaefhaaDoor

namespace Go.Proofs.YtlldglbooaefhaaDoor
open Go Go.Hl Go.Pl
set_option maxRecDepth 10000
set_option maxHeartbeats 16000000

theorem aU9 (n : Nat) (ob : Ob) (e : TypeId) (sz : Nat) (v : CV) (L : List CV) (t : TypeId) : jK (sub [0] n) ob 0 [.box t (.c v), .row e sz L] = upd (upd ob 0 (some (.box t (.c v)))) n (some (.row e sz L)) := rfl
theorem bM7 (n m : Nat) : HV.ren (sub [0] n) (.own 1 m) = .own n m := rfl

theorem bM8 (L : List Int) (a : Nat) (ha : a + aB 3 < 2 ^ 38) : HGe Tryd.prog 12 [.ptr 0 0] [.box 56 (.c (tp L a))] (MkR L a 3) := by
 refine bP (args := [.ptr 0 0]) Tryd.func12 rfl (by kernel_rfl) (eW rfl (by simp [dZ, HO.men, HV.men, HV.menL]) (by simp [HV.menL, HV.men])) (Nat.le_of_ble_eq_true rfl) ?_
 show Hw _ _ 1 _ _ _ (lst _) 1
 rw [bW7]
 refine R0 ?_
 refine aC fun K hK => bD (by kernel_rfl) ?_
 simp only [sR, simprocAttr]
 refine SG0 ?_
 refine sC (g := none) rfl rfl fun K' hK' => ?_
 simp only [sN, ↓hopH.eq_def, sH, ↓sP, sA, tyS, simprocAttr]
 refine fP [0] (bU5 3 L a (by decide) ha) rfl ⟨rfl, trivial⟩ (by simp) (by simp) ⟨rfl, rfl, rfl, rfl⟩ (by simp [dZ, HO.men, HV.men, HV.menL]) (by simp [HV.menL, HV.men]) ?_
 rintro r os' ⟨t, a', rfl, rfl, ht, ha'⟩
 rw [aU9, bM7]
 refine AX (hK' _ _ ?_)
 clear hK' K'
 refine SG0 ?_
 refine T2 (hK _ _ _ ?_)
 clear hK K
 refine aF (RT Tryd.results12 ?_)
 exact rM 9 (by decide) (t := t) rfl rfl rfl rfl ht ha'

end Go.Proofs.YtlldglbooaefhaaDoor

namespace Go.Pl
open Go Go.Hl

theorem bU6 {t : List Nd} (h : Made 3 0 t) : t.length ≤ 40 := by
 have key : ∀ p ∈ pos 3 0, p.1 ≤ 40 := by decide +kernel
 exact key _ h.pos
def rN (n : Nat) : aE := [114, UInt8.ofNat (48 + n)]
def dfT : List Nd := [⟨1, 0, 0, ⟨1, 1, 0, []⟩⟩]
def pkA : List aE := [[112, 114, 111, 100], [116, 101, 115, 116], [42], [42, 42]]
def pkB : List aE := [[119, 101, 98], [42], [42, 42]]
structure MadeR (r : Pr) : Prop where
 ok : iB r = true
 b : r.b.length ≤ 80
 c : r.c.length ≤ 80
 t : r.t.length ≤ 40
theorem bM9 {n : Nat} {b c : aE} {g : Int} {t : List Nd} (hn : n = 1 ∨ n = 2) (hb : b ∈ pkA) (hc : c ∈ pkB) (hg : 0 ≤ g ∧ g < 20) (ht : t = dfT ∨ Made 3 0 t) : MadeR ⟨rN n, b, c, g, t⟩ := by
 have k1 : ∀ b ∈ pkA, (gH b).isSome = true ∧ b.length ≤ 80 := by decide +kernel
 have k2 : ∀ b ∈ pkB, (gH b).isSome = true ∧ b.length ≤ 80 := by decide +kernel
 have k3 : eB (rN n) = true := by rcases hn with rfl | rfl <;> decide +kernel
 have k4 : inB g 0 aA0 = true := by rw [eZ, gV]; omega
 have k5 : dB t = true ∧ t.length ≤ 40 := by
  rcases ht with rfl | ht
  ·
   exact ⟨by decide, by decide⟩
  ·
   grind [aI3, bS4, bU6]
 exact ⟨by grind [iB, Bool.and_self], (k1 b hb).2, (k2 c hc).2, k5.2⟩
structure MadeRs (n : Nat) (rs : List Pr) : Prop where
 two : n + rs.length ≤ 2
 one : 1 ≤ n + rs.length
 ok : ∀ r ∈ rs, MadeR r
 nm : ∀ r ∈ rs, ∃ j, n < j ∧ j ≤ 2 ∧ r.a = rN j
 ap : fW rs = true
theorem MadeRs.zero {n : Nat} (h1 : 1 ≤ n) (h2 : n ≤ 2) : MadeRs n [] := ⟨by grind, by grind, by simp, by simp, rfl⟩
theorem MadeRs.next {n : Nat} {rs : List Pr} (h : MadeRs (n + 1) rs) {r : Pr} (hr : MadeR r) (ha : r.a = rN (n + 1)) : MadeRs n (rs ++ [r]) := by
 have h1 := h.two
 refine ⟨by grind, by grind, fun x hx => ?_, fun x hx => ?_, ?_⟩
 ·
  rcases List.mem_append.1 hx with hx | hx
  ·
   exact h.ok x hx
  grind
 ·
  rcases List.mem_append.1 hx with hx | hx
  ·
   obtain ⟨j, h2, h3, h4⟩ := h.nm x hx
   grind
  grind
 ·
  rw [nB, h.ap, Bool.true_and, Bool.not_eq_true', ← Bool.not_eq_true, List.contains_iff_mem]
  intro hm
  obtain ⟨x, hx, he⟩ := List.mem_map.1 hm
  obtain ⟨j, h2, h3, h4⟩ := h.nm x hx
  rw [h4, ha] at he
  have hj : j = 2 := by omega
  have hn : n = 0 := by omega
  subst hj hn
  revert he
  decide
theorem MadeRs.fin {rs : List Pr} (h : MadeRs 0 rs) {v : Int} (h1 : 1 ≤ v) (h2 : v ≤ 1099511627776) : nD ⟨[112], v, rs⟩ := by
 have h3 := h.two
 have k : eB [112] = true := by decide
 refine ⟨?_, by grind, fun r hr => ⟨(h.ok r hr).b, (h.ok r hr).c, (h.ok r hr).t⟩⟩
 have k1 : inB v 1 aA0 = true := by rw [eZ, gV]; exact ⟨h1, h2⟩
 have k2 : decide (rs.length ≤ 16) = true := by simp; omega
 have k3 : rs.all iB = true := List.all_eq_true.2 fun r hr => (h.ok r hr).ok
 simp only [fE, k, k1, k2, k3, h.ap, Bool.and_self]
theorem bN0 {q : Rq} (h : eF q = true) : q.t.length ≤ 64 := by
 have hn : eB q.t = true → q.t.length ≤ 64 := fun h => (kT h).2
 have h0 : q.t = [] → q.t.length ≤ 64 := fun h => by grind
 unfold eF at h
 grind
theorem bB7 {n : Nd} (h : bJ n = true) : n.q.t.length ≤ 64 := by
 have h0 : n.q = rq0 → n.q.t.length ≤ 64 := fun h => by rw [h]; decide
 have h1 : eF n.q = true → n.q.t.length ≤ 64 := bN0
 unfold bJ at h
 repeat' split at h
 all_goals simp_all [Bool.and_eq_true, pK, beq_iff_eq]
theorem bB8 {t : List Nd} (h : IsTree t) : ∀ n ∈ t, n.q.t.length < 2 ^ 63 := fun n hn => by have := bB7 (h.node n hn); omega
theorem aV0 {p : Po} (h : fE p = true) : PoSz p := by
 obtain ⟨_, h2, h3, h4⟩ := tM h
 refine ⟨by grind [kT], by omega, fun r hr => ?_, fun r hr => bB8 (jG (h4 r hr)).2.1⟩
 have := (kT (jG (h4 r hr)).2.2.1).2
 omega
theorem MadeRs.sz {rs : List Pr} (h : MadeRs 0 rs) (v : Int) : PoSz ⟨[112], v, rs⟩ := by
 have := aV0 (h.fin (v := 1) (by omega) (by omega)).1
 exact ⟨this.n, this.r, this.a, this.t⟩
theorem bU7 {ls : List (List aE)} (h : ∀ l ∈ ls, oS l) (hl : ls.length ≤ 170) : jZ ls = 0 ∧ (mL ls).length ≤ 255000 ∧ gQ (mL ls) = 0 ∧ eV (mL ls) = ls := by
 have h0 := vW h hl
 obtain ⟨h1, h2⟩ := aT5 h0
 refine ⟨h0, ?_, h1, h2⟩
 rw [tJ h0]
 have := vV fun l hx => (h l hx).2
 omega
theorem bU8 {p : Po} (h : nD p) : rH p = 0 ∧ (lQ p).length ≤ 255000 ∧ gQ (lQ p) = 0 ∧ eV (lQ p) = kR p := by
 obtain ⟨h1, h2⟩ := aT9 h
 have := bU7 h1 h2
 refine ⟨aZ9 h, ?_⟩
 rw [lQ, if_pos h.1]
 grind
end Go.Pl

namespace Go.Proofs.YtlldglbooaefhaaDoor
open Go Go.Hl Go.Pl
set_option maxRecDepth 10000
set_option maxHeartbeats 16000000


theorem bU9 {n : Nat} (h : n ≤ 2) : IntKind.i64.wrap (48 + (n : Int)) = ((48 + n : Nat) : Int) ∧ IntKind.u8.wrap (((48 + n : Nat) : Int)) = ((UInt8.ofNat (48 + n)).toNat : Int) := by
 match n, h with
 | 0, _ => decide
 | 1, _ => decide
 | 2, _ => decide

theorem aP8 (L : List Int) (a : Nat) (v : Int) (ha : a < 2 ^ 37) : aM7 Tryd.prog 6 56 (tp L a) [.int .i64 v] (fun u v' => ∃ (rs : List Pr) (a' : Nat), u = (Po.mk [112] v rs).cv ∧ v' = tp L a' ∧ MadeRs 0 rs ∧ a' ≤ a + 1000) := by
 refine bP Tryd.func6 rfl (by kernel_rfl) (cN _ _ _) (Nat.le_of_ble_eq_true rfl) ?_
 have hab := aK1 3 (by decide)
 refine R0 ?_
 refine aC fun K hK => Rg ?_
 iterate 4 refine S0 ?_
 refine T2 (hK _ _ _ ?_)
 clear hK K
 refine aC fun K hK => ?_
 refine aC fun K hK => Rg ?_
 refine S0 ?_
 refine HS rfl rfl fun K' hK' => T5 ?_
 refine bG (args := [_]) (dM L a 2 (by omega) (by omega)) rfl (by simp) ⟨rfl, rfl, rfl, rfl⟩ ?_
 rintro u v' ⟨x, a1, rfl, rfl, h1, h2, h3, h4⟩
 refine AX (hK' _ _ ?_)
 clear hK' K'
 iterate 2 refine S0 ?_
 refine T2 (hK _ _ _ ?_)
 clear hK K
 refine aK ?_
 have hx2 := h4 (by omega)
 obtain ⟨m, hm⟩ : ∃ m : Nat, IntKind.i64.wrap (1 + x) = m ∧ 1 ≤ m ∧ m ≤ 2 := ⟨(1 + x).toNat, by rw [IntWalk.i64_in _ (by omega)]; omega, by omega, by omega⟩
 obtain ⟨hm, hm1, hm2⟩ := hm
 rw [hm]
 clear hm h3 h4
 refine tI 13 2 54 5 rfl rfl rfl rfl ?_
 refine eE [] ?_
 refine bM (α := {w : List Pr × Nat × Nat // MadeRs w.2.1 w.1 ∧ w.2.2 + 460 * w.2.1 ≤ a + 921}) (fun w => (fin [(0, .ptr 0 0), (4, .ptr 1 0), (5, .ptr 13 0), (6, .c (.int .i64 w.1.2.1))], fob [(0, .box 56 (.c (tp L w.1.2.2))), (1, .box 25 (.c (.agg [.str [], .int .i64 0, .slc []]))), (13, .box 25 (.agg [.c (.str [112]), .c (.int .i64 v), .own 37 w.1.1.length])), (37, .row 54 5 (w.1.1.map Pr.cv))])) 20000 (fun w => w.1.2.1) ⟨([], m, a1), MadeRs.zero hm1 hm2, by simp only; omega⟩ (aO (by omega) (by simp [bB, gO, fin_at, finA_at, upd_at, fob_at, HV.close, HV.closeL, CV.denil, CV.denilL, HV.men, HV.menL, HV.norm, HV.toC, HV.toCL]) (by simp [aZ, gP, fob_at, upd_at, none0_at, bZ, HO.close, HV.close, HV.closeL, HO.men, HV.men, HV.menL, HV.norm, HV.toC, HV.toCL, CV.denil, CV.denilL, tp, denilL_int])) ?_
 rintro ⟨⟨rs, n, a2⟩, hrs, ha2⟩
 simp only at hrs ha2
 refine aC fun K hK => ?_
 refine R0 ?_
 refine aG (b := decide ((0 : Int) < n)) rfl (fun hb => ?_) (fun hb => ?_)
 ·
  have hn0 : 0 < n := by simp at hb; omega
  clear hb
  have hn2 : n ≤ 2 := by have := hrs.two; omega
  obtain ⟨hw1, hw2⟩ := bU9 hn2
  refine aJ ?_
  refine T0 (hK _ _ _ ?_)
  clear hK K
  refine aC fun K hK => ?_
  refine aK ?_
  refine aC fun K hK => eI mixed [(0, [], []), (1, [], []), (2, [], []), (3, [], []), (4, [], []), (5, [], []), (6, [3], []), (7, [3], []), (9, [3, 7], []), (10, [3, 7], []), (12, [3, 7, 10], []), (14, [3, 7, 10], []), (15, [3, 7, 10], []), (16, [3, 7, 10], []), (18, [3, 7, 10, 16], []), (8, [3, 10, 16, 18], [0, 1, 2, 3, 4, 5, 9, 10, 12, 14, 15, 16, 18]), (11, [3, 16, 18], [0, 1, 2, 3, 4, 5, 12, 14, 15, 16, 18]), (13, [3, 16, 18], [0, 1, 2, 3, 4, 5, 14, 15, 16, 18]), (17, [18], []), (19, [], [])] [0, 1, 3, 7, 15, 31, 0, 0, 192, 0, 0, 1984, 0, 8128, 0, 16384, 49152, 131071, 0, 524287] (by kernel_rfl) (by kernel_rfl) (by kernel_rfl) (by kernel_rfl) rfl (by kernel_rfl) ?_
  have F := aI hw1 (aI hw2 @eD)
  iterate 3 refine WGF ?_
  refine eL (g := none) 20020 rfl rfl fun K' hK' => ?_
  simp only [fK, iQ, sH, ↓sP, sA, tyS, simprocAttr, hw1, hw2, eD]
  repeat refine AI ?_
  refine cF (by first | rfl | simp) ?_
  try simp only [sH, ↓sP, sA, tyS, simprocAttr, hw1, hw2, eD]
  refine AX (hK' _ _ ?_)
  clear hK' K'
  iterate 3 refine WGF ?_
  refine eL (g := none) 20036 rfl rfl fun K' hK' => ?_
  simp only [fK, iQ, sH, ↓sP, sA, tyS, simprocAttr, hw1, hw2, eD]
  repeat refine AI ?_
  refine cF (by first | rfl | simp) ?_
  try simp only [sH, ↓sP, sA, tyS, simprocAttr, hw1, hw2, eD]
  refine AX (hK' _ _ ?_)
  clear hK' K'
  refine WGF ?_
  refine eL (g := none) 20048 rfl rfl fun K' hK' => ?_
  simp only [fK, iQ, sH, ↓sP, sA, tyS, simprocAttr, hw1, hw2, eD]
  repeat refine AI ?_
  refine cF (by first | rfl | simp) ?_
  try simp only [sH, ↓sP, sA, tyS, simprocAttr, hw1, hw2, eD]
  refine AX (hK' _ _ ?_)
  clear hK' K'
  iterate 3 refine WGF ?_
  refine eL (g := none) 20072 rfl rfl fun K' hK' => ?_
  simp only [fK, iQ, sH, ↓sP, sA, tyS, simprocAttr, hw1, hw2, eD]
  repeat refine AI ?_
  refine cF (by first | rfl | simp) ?_
  try simp only [sH, ↓sP, sA, tyS, simprocAttr, hw1, hw2, eD]
  refine AX (hK' _ _ ?_)
  clear hK' K'
  refine WGF ?_
  refine eC (g := none) rfl rfl fun K' hK' => T6 ?_
  refine bG (args := [_]) (aC1 L a2 pkA (by omega) (by decide)) rfl (by simp) ⟨rfl, rfl, rfl, rfl⟩ ?_
  rintro u v' ⟨b, a3, rfl, hb, rfl, hb3⟩
  refine AX (hK' _ _ ?_)
  clear hK' K'
  refine eC (g := none) rfl rfl fun K' hK' => T6 ?_
  refine bG (args := [_]) (aC1 L a3 pkB (by omega) (by decide)) rfl (by simp) ⟨rfl, rfl, rfl, rfl⟩ ?_
  rintro u v' ⟨c, a4, rfl, hc, rfl, hb4⟩
  refine AX (hK' _ _ ?_)
  clear hK' K'
  refine eC (g := none) rfl rfl fun K' hK' => T6 ?_
  refine bG (args := [_]) (dM L a4 20 (by omega) (by omega)) rfl (by simp) ⟨rfl, rfl, rfl, rfl⟩ ?_
  rintro u v' ⟨g, a5, rfl, rfl, g1, g2, g3, g4⟩
  have g5 := g4 (by omega)
  have hrl : rs.length ≤ 2 := by have := hrs.two; omega
  refine AX (hK' _ _ ?_)
  clear hK' K'
  iterate 2 refine WGF ?_
  refine T2 (hK _ _ _ ?_)
  clear hK K
  refine aC fun K hK => ?_
  have key : ∀ (cl : List Nat) (T : List Nd) (a7 : Nat) fr ob nx, (T = dfT ∨ Made 3 0 T) → a7 ≤ a2 + 404 → Fits 1 (clF ob cl fr) (clO ob cl) (fin [(0, .ptr 0 0), (4, .ptr 1 0), (5, .ptr 13 0), (6, .c (.int .i64 n)), (7, .ptr 20080 0)]) (fob [(0, .box 56 (.c (tp L a7))), (1, .box 25 (.c (.agg [.str [], .int .i64 0, .slc []]))), (13, .box 25 (.agg [.c (.str [112]), .c (.int .i64 v), .own 37 rs.length])), (37, .row 54 5 (rs.map Pr.cv)), (20080, .box 54 (.c (Pr.cv ⟨rN n, b, c, g, T⟩)))]) 30000 → K fr ob nx := by
   rintro cl T a7 fr ob nx hT ha7 hf
   refine hK _ _ _ (eE cl (bS hf ?_))
   clear hf hK K
   obtain ⟨R, hR⟩ : ∃ R : Pr, R = ⟨rN n, b, c, g, T⟩ := ⟨_, rfl⟩
   have hRm : MadeR R := by rw [hR]; exact bM9 (by omega) hb hc ⟨g2, g5⟩ hT
   rw [← hR]
   refine Rg ?_
   have F := @Pr.cells
   iterate 7 refine SF ?_
   refine T2 (hK _ _ _ ?_)
   clear hK K
   refine aM (by kernel_rfl) ?_
   refine TQ (show IntKind.i64.wrap ((n : Int) - 1) = ((n - 1 : Nat) : Int) from by rw [IntWalk.i64_in _ (by omega)]; omega) ?_
   have hnx : MadeRs (n - 1) (rs ++ [R]) := MadeRs.next (n := n - 1) (by rw [Nat.sub_add_cancel hn0]; exact hrs) hRm (by rw [hR, Nat.sub_add_cancel hn0])
   refine ⟨⟨(rs ++ [R], n - 1, a7), hnx, by simp only; omega⟩, fF, ?_⟩
   show n - 1 < n
   omega
  refine aC fun K hK => Rg ?_
  refine S0 ?_
  refine HS rfl rfl fun K' hK' => T5 ?_
  refine bG (args := [_]) (dM L a5 2 (by omega) (by omega)) rfl (by simp) ⟨rfl, rfl, rfl, rfl⟩ ?_
  rintro u v' ⟨y, a6, rfl, rfl, y1, y2, y3, y4⟩
  refine AX (hK' _ _ ?_)
  clear hK' K'
  refine S0 ?_
  refine T2 (hK _ _ _ ?_)
  clear hK K
  refine aG (b := _) rfl (fun hb => ?_) (fun hb => ?_)
  ·
   refine Rg ?_
   refine S0 ?_
   refine HS rfl rfl fun K' hK' => T5 ?_
   refine fP [0] (bM8 L a6 (by omega)) rfl ⟨rfl, trivial⟩ (by simp) (by simp) ⟨rfl, rfl, rfl, rfl⟩ (by simp [dZ, HO.men, HV.men, HV.menL]) (by simp [HV.menL, HV.men]) ?_
   rintro r os' ⟨T, a7, rfl, rfl, hT, ha7⟩
   rw [aU9, bM7]
   refine AX (hK' _ _ ?_)
   clear hK' K'
   iterate 2 refine S0 ?_
   refine T4 ?_
   exact key [20104] T a7 _ _ _ (.inr hT) (by omega) (aO (by omega) (by simp [bB, gO, fin_at, finA_at, upd_at, fob_at, HV.close, HV.closeL, CV.denil, CV.denilL, denilL_Nd, HV.men, HV.menL, HV.norm, HV.toC, HV.toCL]) (by simp [aZ, gP, fob_at, upd_at, none0_at, bZ, HO.close, HV.close, HV.closeL, HO.men, HV.men, HV.menL, HV.norm, HV.toC, HV.toCL, CV.denil, CV.denilL, denilL_Nd, Pr.cv, Po.cv, tp, denilL_int, rN]))
  refine aJ (T3 ?_)
  exact key [] dfT a6 _ _ _ (.inl rfl) (by omega) (aO (by omega) (by simp [bB, gO, fin_at, finA_at, upd_at, fob_at, HV.close, HV.closeL, CV.denil, CV.denilL, denilL_Nd, HV.men, HV.menL, HV.norm, HV.toC, HV.toCL]) (by simp [aZ, gP, fob_at, upd_at, none0_at, bZ, HO.close, HV.close, HV.closeL, HO.men, HV.men, HV.menL, HV.norm, HV.toC, HV.toCL, CV.denil, CV.denilL, denilL_Nd, Pr.cv, Po.cv, tp, denilL_int, rN, dfT, Nd.cv, Rq.cv]))
 refine bA (T3 ?_)
 clear hK K
 refine AX (hK _ _ _ ?_)
 clear hK K
 refine R0 ?_
 refine aF (RT Tryd.results6 ?_)
 have hn : n = 0 := by simp at hb; omega
 subst hn
 refine ⟨rfl, ?_⟩
 exact eU [37] (Po.mk [112] v rs).cv (tp L a2) (by simp [HV.close, HV.closeL, Po.cv, CV.denil, CV.denilL, denilL_Pr, HV.norm, HV.toC, HV.toCL, fob_at, upd_at]) rfl (by simp [HV.close, HV.closeL, tp, CV.denil, CV.denilL, denilL_int, HV.norm, HV.toC, HV.toCL]) (by simp) ⟨rs, a2, rfl, rfl, hrs, by omega⟩

end Go.Proofs.YtlldglbooaefhaaDoor

namespace Go.Proofs.YtlldglbooaefhaaDoor
open Go Go.Hl Go.Pl
set_option maxRecDepth 10000
set_option maxHeartbeats 16000000

instance : DecidableEq Nd := fun a b => decidable_of_iff _ (uT a b)
theorem bN1 (a b : List Nd) (ha : a.length < 2 ^ 40) : cE Tryd.prog 25 [.slc (a.map Nd.cv), .slc (b.map Nd.cv)] (fun v => v = .bool (decide (a = b))) := by
 refine FW Tryd.func25 ?_
 refine R0 ?_
 refine aC fun K hK => ?_
 refine aC fun K hK => Rg ?_
 iterate 5 refine S0 ?_
 refine T2 (hK _ _ _ ?_)
 clear hK K
 refine aG (b := !((a.length : Int) == (b.length : Int))) rfl (fun hb => ?_) (fun hb => ?_)
 ·
  refine R0 ?_
  refine aF (RT Tryd.results25 ?_)
  have hne : a ≠ b := by rintro rfl; simp at hb
  exact aL [] (.bool false) rfl (by rw [decide_eq_false hne])
 have hlen0 : (a.length : Int) = b.length := by simpa using hb
 have hlen : a.length = b.length := by omega
 clear hb
 refine aJ ?_
 refine T0 (hK _ _ _ ?_)
 clear hK K
 refine aC fun K hK => ?_
 refine R0 ?_
 refine aK ?_
 refine bM (α := {i : Nat // i ≤ a.length ∧ a.take i = b.take i}) (fun i => (fin [(0, .c (.slc (a.map Nd.cv))), (1, .c (.slc (b.map Nd.cv))), (5, .c (.int .i64 i.1))], fob [])) 100 (fun i => a.length - i.1) ⟨0, by omega, by simp⟩ (fF) ?_
 rintro ⟨i, hi, hpre⟩
 refine aC fun K hK => ?_
 refine aC fun K hK => Rg ?_
 iterate 4 refine S0 ?_
 refine T2 (hK _ _ _ ?_)
 clear hK K
 refine aG (b := decide ((i : Int) < a.length)) rfl (fun hb => ?_) (fun hb => ?_)
 ·
  have hlt : i < a.length := by simpa using hb
  have hlt2 : i < b.length := by omega
  clear hb
  refine aJ ?_
  refine T0 (hK _ _ _ ?_)
  clear hK K
  refine aC fun K hK => ?_
  refine aK ?_
  refine aC fun K hK => QR ?_
  have F := aI @Int.natCast_nonneg (aI @Int.ofNat_lt (aI hlt (aI (nM hlt) (aI hlt2 (aI (nM hlt2) @cI0)))))
  iterate 9 refine SF ?_
  refine T2 (hK _ _ _ ?_)
  clear hK K
  refine aG (b := !aN1 a[i] b[i]) rfl (fun hb => ?_) (fun hb => ?_)
  ·
   refine R0 ?_
   refine aF (RT Tryd.results25 ?_)
   have hne : a ≠ b := by rintro rfl; simp [aX0] at hb
   exact aL [] (.bool false) rfl (by rw [decide_eq_false hne])
  refine aJ ?_
  refine T0 (hK _ _ _ ?_)
  clear hK K
  refine aM (by kernel_rfl) ?_
  simp only [↓sP, sA, tyS, simprocAttr, cY ((i : Int) + 1) (by omega)]
  have hab : a[i] = b[i] := (uT _ _).1 (by simpa using hb)
  refine ⟨⟨i + 1, hlt, by rw [List.take_succ_eq_append_getElem hlt, List.take_succ_eq_append_getElem hlt2, hpre, hab]⟩, fF, ?_⟩
  show a.length - (i + 1) < a.length - i
  omega
 refine bA (T3 ?_)
 clear hK K
 refine AX (hK _ _ _ ?_)
 clear hK K
 refine R0 ?_
 refine aF (RT Tryd.results25 ?_)
 have hei : i = a.length := by simp only [decide_eq_false_iff_not] at hb; omega
 subst hei
 have hab : a = b := by rw [List.take_length] at hpre; rw [hpre, hlen, List.take_length]
 exact aL [] (.bool true) rfl (by rw [decide_eq_true hab])


def xA (x y : Pr) : Bool := !(x.a == y.a) || (!(x.b == y.b) || (!(x.c == y.c) || ((x.g != y.g) || !decide (x.t = y.t))))
theorem wE (x y : Pr) : xA x y = false ↔ x = y := by
 obtain ⟨x1, x2, x3, x4, x5⟩ := x
 obtain ⟨y1, y2, y3, y4, y5⟩ := y
 simp [xA, Pr.mk.injEq]
instance : DecidableEq Pr := fun a b => decidable_of_iff _ (wE a b)
def tD (x y : Po) : Bool := !(x.n == y.n) || ((x.v != y.v) || ((x.r.length : Int) != (y.r.length : Int)))
theorem aV1 {x y : Po} (h : tD x y = true) : x ≠ y := by
 rintro rfl
 simp [tD] at h
theorem aK4 {x y : Po} (h : tD x y = false) (h2 : x.r = y.r) : x = y := by
 obtain ⟨x1, x2, x3⟩ := x
 obtain ⟨y1, y2, y3⟩ := y
 simp [tD] at h
 simp at h2
 simp [h, h2]
instance : DecidableEq Po := fun a b => if h : tD a b = true then .isFalse (aV1 h) else if h2 : a.r = b.r then .isTrue (aK4 (by simpa using h) h2) else .isFalse fun e => h2 (by rw [e])

theorem same_ok (p q : Po) (hr : p.r.length < 2 ^ 40) (ht : ∀ r ∈ p.r, r.t.length < 2 ^ 40) : cE Tryd.prog 10 [p.cv, q.cv] (fun v => v = .bool (decide (p = q))) := by
 refine FW Tryd.func10 ?_
 refine R0 ?_
 refine aC fun K hK => ?_
 refine aC fun K hK => ?_
 have key : ∀ (b : Bool) fr ob nx, b = tD p q → Fits 0 fr ob (fin [(2, .ptr 0 0), (3, .ptr 4 0), (28, .c (.bool b))]) (fob [(0, .box 25 (.c p.cv)), (4, .box 25 (.c q.cv))]) 600 → K fr ob nx := by
  rintro b fr ob nx rfl hf
  refine hK _ _ _ (bS hf ?_)
  clear hf hK K
  refine aG (b := tD p q) rfl (fun hb => ?_) (fun hb => ?_)
  ·
   refine R0 ?_
   refine aF (RT Tryd.results10 ?_)
   exact aL [] (.bool false) rfl (by rw [decide_eq_false (aV1 hb)])
  have hne := hb
  have hlen : p.r.length = q.r.length := by
   simp [tD] at hb
   omega
  clear hb
  refine aJ ?_
  refine T0 (hK _ _ _ ?_)
  clear hK K
  refine aC fun K hK => ?_
  refine R0 ?_
  refine aK ?_
  refine bM (α := {i : Nat // i ≤ p.r.length ∧ p.r.take i = q.r.take i}) (fun i => (fin [(2, .ptr 0 0), (3, .ptr 4 0), (5, .c (.int .i64 i.1))], fob [(0, .box 25 (.c p.cv)), (4, .box 25 (.c q.cv))])) 1000 (fun i => p.r.length - i.1) ⟨0, by omega, by simp⟩ (fF) ?_
  rintro ⟨i, hi, hpre⟩
  refine aC fun K hK => ?_
  refine aC fun K hK => Rg ?_
  iterate 5 refine S0 ?_
  refine T2 (hK _ _ _ ?_)
  clear hK K
  refine aG (b := decide ((i : Int) < p.r.length)) rfl (fun hb => ?_) (fun hb => ?_)
  ·
   have hlt : i < p.r.length := by simpa using hb
   have hlt2 : i < q.r.length := by omega
   clear hb
   refine aJ ?_
   refine T0 (hK _ _ _ ?_)
   clear hK K
   refine aC fun K hK => ?_
   refine aK ?_
   refine aC fun K hK => DW [(0, [], []), (1, [], []), (2, [], []), (3, [], []), (4, [], []), (5, [], []), (6, [], []), (7, [], []), (8, [], []), (9, [], []), (10, [], []), (11, [10], []), (12, [], [5, 6, 7, 8, 9]), (13, [], [])] [0, 1, 0, 7, 15, 0, 32, 0, 224, 480, 0, 0, 3103, 8191] ?_
   have F := aI @Int.natCast_nonneg (aI @Int.ofNat_lt (aI hlt (aI (nM hlt) (aI hlt2 (nM hlt2)))))
   iterate 14 refine WF ?_
   refine T2 (hK _ _ _ ?_)
   clear hK K
   refine aC fun K hK => ?_
   have key : ∀ (b : Bool) fr ob nx, b = xA p.r[i] q.r[i] → Fits 0 fr ob (fin [(2, .ptr 0 0), (3, .ptr 4 0), (5, .c (.int .i64 i)), (79, .c (.bool b))]) (fob [(0, .box 25 (.c p.cv)), (4, .box 25 (.c q.cv))]) 2000 → K fr ob nx := by
    rintro b fr ob nx rfl hf
    refine hK _ _ _ (bS hf ?_)
    clear hf hK K
    refine aG (b := xA p.r[i] q.r[i]) rfl (fun hb => ?_) (fun hb => ?_)
    ·
     refine R0 ?_
     refine aF (RT Tryd.results10 ?_)
     have hne : p ≠ q := by
      rintro rfl
      rw [(wE _ _).2 rfl] at hb
      cases hb
     exact aL [] (.bool false) rfl (by rw [decide_eq_false hne])
    refine aJ ?_
    refine T0 (hK _ _ _ ?_)
    clear hK K
    refine aM (by kernel_rfl) ?_
    simp only [↓sP, sA, tyS, simprocAttr, cY ((i : Int) + 1) (by omega)]
    have hab : p.r[i] = q.r[i] := (wE _ _).1 hb
    refine ⟨⟨i + 1, hlt, by rw [List.take_succ_eq_append_getElem hlt, List.take_succ_eq_append_getElem hlt2, hpre, hab]⟩, fF, ?_⟩
    show p.r.length - (i + 1) < p.r.length - i
    omega
   refine Rg ?_
   iterate 6 refine S0 ?_
   refine aH 50 rfl (fun h7_50 => ?_) (fun h7_50 => ?_)
   ·
    have F := h7_50
    iterate 28 refine SF ?_
    refine T4 ?_
    exact key true _ _ _ (by simp only [xA, h7_50, Bool.not_true, Bool.not_false, Bool.true_or, Bool.false_or]) (fF)
   have F := h7_50
   iterate 7 refine SF ?_
   refine aH 56 rfl (fun h7_56 => ?_) (fun h7_56 => ?_)
   ·
    have F := aI h7_50 h7_56
    iterate 21 refine SF ?_
    refine T4 ?_
    exact key true _ _ _ (by simp only [xA, h7_50, h7_56, Bool.not_true, Bool.not_false, Bool.true_or, Bool.false_or]) (fF)
   have F := aI h7_50 h7_56
   iterate 7 refine SF ?_
   refine aH 63 rfl (fun h7_63 => ?_) (fun h7_63 => ?_)
   ·
    have F := aI h7_50 (aI h7_56 h7_63)
    iterate 14 refine SF ?_
    refine T4 ?_
    exact key true _ _ _ (by simp only [xA, h7_50, h7_56, h7_63, Bool.not_true, Bool.not_false, Bool.true_or, Bool.false_or]) (fF)
   have F := aI h7_50 (aI h7_56 h7_63)
   iterate 7 refine SF ?_
   refine aH 70 rfl (fun h7_70 => ?_) (fun h7_70 => ?_)
   ·
    have F := aI h7_50 (aI h7_56 (aI h7_63 h7_70))
    iterate 7 refine SF ?_
    refine T4 ?_
    exact key true _ _ _ (by simp only [xA, h7_50, h7_56, h7_63, h7_70, Bool.not_true, Bool.not_false, Bool.true_or, Bool.false_or]) (fF)
   have F := aI h7_50 (aI h7_56 (aI h7_63 h7_70))
   iterate 4 refine SF ?_
   refine aY (g := some (72, false)) rfl rfl fun K' hK' => T6 ?_
   refine C2 (bN1 p.r[i].t q.r[i].t (ht _ (List.getElem_mem hlt))) ?_
   rintro u rfl
   refine AX (hK' _ _ ?_)
   clear hK' K'
   iterate 2 refine SF ?_
   refine aH 77 rfl (fun h7_77 => ?_) (fun h7_77 => ?_)
   ·
    simp only [h7_77]
    refine T4 ?_
    exact key false _ _ _ (by simp only [xA, h7_50, h7_56, h7_63, h7_70, h7_77, Bool.not_true, Bool.not_false, Bool.true_or, Bool.false_or]) (fF)
   simp only [h7_77]
   refine T4 ?_
   exact key true _ _ _ (by simp only [xA, h7_50, h7_56, h7_63, h7_70, h7_77, Bool.not_true, Bool.not_false, Bool.true_or, Bool.false_or]) (fF)
  refine bA (T3 ?_)
  clear hK K
  refine AX (hK _ _ _ ?_)
  clear hK K
  refine R0 ?_
  refine aF (RT Tryd.results10 ?_)
  have hei : i = p.r.length := by simp only [decide_eq_false_iff_not] at hb; omega
  subst hei
  have hab : p.r = q.r := by rw [List.take_length] at hpre; rw [hpre, hlen, List.take_length]
  exact aL [] (.bool true) rfl (by rw [decide_eq_true (aK4 hne hab)])
 refine Rg ?_
 iterate 6 refine S0 ?_
 refine aH 12 rfl (fun h1_12 => ?_) (fun h1_12 => ?_)
 ·
  have F := h1_12
  iterate 15 refine SF ?_
  refine T4 ?_
  exact key true _ _ _ (by simp only [tD, h1_12, Bool.true_or, Bool.false_or]) (fF)
 have F := h1_12
 iterate 7 refine SF ?_
 refine aH 18 rfl (fun h1_18 => ?_) (fun h1_18 => ?_)
 ·
  have F := aI h1_12 h1_18
  iterate 8 refine SF ?_
  refine T4 ?_
  exact key true _ _ _ (by simp only [tD, h1_12, h1_18, Bool.true_or, Bool.false_or]) (fF)
 have F := aI h1_12 h1_18
 iterate 8 refine SF ?_
 refine aH 27 rfl (fun h1_27 => ?_) (fun h1_27 => ?_)
 ·
  simp only [h1_27]
  refine T4 ?_
  exact key true _ _ _ (by simp only [tD, h1_12, h1_18, h1_27, Bool.true_or, Bool.false_or]) (fF)
 simp only [h1_27]
 refine T4 ?_
 exact key false _ _ _ (by simp only [tD, h1_12, h1_18, h1_27, Bool.true_or, Bool.false_or]) (fF)

end Go.Proofs.YtlldglbooaefhaaDoor

namespace Go.Proofs.YtlldglbooaefhaaDoor
open Go Go.Hl Go.Pl
set_option maxRecDepth 10000
set_option maxHeartbeats 16000000

theorem bW8 {α : Type} (l : List (List UInt8)) (j : Nat) (p : List UInt8) (r : List (List UInt8)) (h : l.drop j = p :: r) : ∃ hj : j < (l.map fun p => [CV.slc (p.map u8)]).length, (l.map fun p => [CV.slc (p.map u8)])[j] = [CV.slc (p.map u8)] ∧ l.drop (j + 1) = r := by
 have hj : j < l.length := by
  rcases Nat.lt_or_ge j l.length with h' | h'
  ·
   exact h'
  rw [List.drop_eq_nil_of_le h'] at h; cases h
 have h1 := List.drop_eq_getElem_cons hj
 rw [h1] at h
 cases h
 exact ⟨by simpa using hj, by simp, rfl⟩

theorem aP9 (l : List UInt8) (c : UInt8) (hl : l.length < 2 ^ 40) : aA8 Tryd.prog 73 [(29, .slc [u8 c]), (29, .slc (l.map u8)), (3, .int .i64 0)] ((aR c l).map fun p => [.slc (p.map u8)]) := by
 refine yE Tryd.func73 rfl (by kernel_rfl) (Nat.le_of_ble_eq_true rfl) rfl fun L J hS hY => ?_
 have e0 : jL [(29, CV.slc [u8 c]), (29, .slc (l.map u8)), (3, .int .i64 0)] = fob [(0, .box 29 (.c (.slc [u8 c]))), (1, .box 29 (.c (.slc (l.map u8)))), (2, .box 3 (.c (.int .i64 0)))] := by
  funext i
  match i with
  | 0 => rfl
  | 1 => rfl
  | 2 => rfl
  | i + 3 => simp [jL, fob, upd]
 have e1 : gI (List.range [((29 : Nat), CV.slc [u8 c]), (29, .slc (l.map u8)), (3, .int .i64 0)].length) = [.ptr 0 0, .ptr 1 0, .ptr 2 0] := rfl
 rw [e0, e1]
 refine eO fun K hK => ?_
 refine eO fun K1 hK1 => mT hS rfl (aM (by kernel_rfl) ?_)
 simp only [sR, simprocAttr]
 have F := rI
 iterate 3 refine SF ?_
 simp only [sE, ↓reduceIte, simprocAttr, rI]
 refine hK1 _ _ _ _ _ ?_
 clear hK1 K1
 refine jD (b := false) rfl (fun hb => by cases hb) (fun _ => ?_)
 refine mU ?_
 simp only [sE, ↓reduceIte, simprocAttr, rI]
 refine hK _ _ _ _ _ ?_
 clear hK K
 refine eO fun K hK => ?_
 refine nW ?_
 refine aH2 (α := {y : Nat × List UInt8 // (aR c l).drop y.1 = aR c y.2 ∧ y.2.length ≤ l.length}) hS (fun y => (fin [(0, .opq (.func (.yield L) #[] #[])), (1, .ptr 0 0), (2, .ptr 1 0), (3, .ptr 2 0)], fob [(0, .box 29 (.c (.slc [u8 c]))), (1, .box 29 (.c (.slc (y.1.2.map u8)))), (2, .box 3 (.c (.int .i64 0)))])) (fun y => y.1.1) 100 (fun y => y.1.2.length) ⟨(0, l), rfl, Nat.le_refl _⟩ rfl (fF) rfl ?_
 rintro ⟨⟨j, rest⟩, hsp, hle⟩
 simp only at hsp hle
 refine nW ?_
 refine eO fun K1 hK1 => mT hS rfl (aM (by kernel_rfl) ?_)
 simp only [sR, simprocAttr]
 iterate 2 refine SF ?_
 have F := aI rI @denilL_u8
 refine HS rfl rfl fun K' hK' => T6 ?_
 refine C2 (yG rest c) ?_
 rintro u rfl
 refine AX (hK' _ _ ?_)
 clear hK' K'
 have F := rI
 refine SF ?_
 simp only [sE, ↓reduceIte, simprocAttr, rI]
 refine hK1 _ _ _ _ _ ?_
 clear hK1 K1
 refine eO fun K1 hK1 => ?_
 refine eO fun K2 hK2 => mT hS rfl (aM (by kernel_rfl) ?_)
 simp only [sR, simprocAttr]
 iterate 2 refine SF ?_
 simp only [sE, ↓reduceIte, simprocAttr, rI]
 refine hK2 _ _ _ _ _ ?_
 clear hK2 K2
 refine jD (b := decide (dD rest c < 0)) rfl (fun hb => ?_) (fun hb => ?_)
 ·
  -- the last piece
  have hn : dD rest c < 0 := by simpa using hb
  rw [mM hn] at hsp
  obtain ⟨hj, hx, hd⟩ := bW8 (α := Nat) _ _ _ _ hsp
  refine aH1 ?_
  simp only [sE, ↓reduceIte, simprocAttr, rI]
  clear hK1 K1
  refine hK _ _ _ _ _ ?_
  clear hK K
  have htk : List.take rest.length (rest.map u8) = rest.map u8 := List.take_of_length_le (by simp)
  refine qZ (l := L) 7 hS hY rfl (by kernel_rfl) (by decide) ?_
  simp only [sR, List.range', simprocAttr]
  have F := aI rI @List.length_map.{0,0}
  iterate 6 refine SF ?_
  refine S0 ?_ (e := fun _ h_ => by simp only [sH, ↓sP, sA, tyS, simprocAttr, rI, htk, List.length_map, ↓hslice3.eq_def, Int.natCast_nonneg, mJ, List.drop_zero, Nat.sub_zero, Int.le_refl, Int.toNat_zero]; exact AX h_)
  rw [hlex]
  refine ⟨_, _, _, hj, rfl, rfl, rfl, rfl, rfl, ?_, ?_, ?_⟩
  ·
   rw [hx]; rfl
  ·
   simp only [sR, List.range', simprocAttr]
   rw [hlex]
   refine ⟨by simp, fun _ => ?_⟩
   have := List.drop_eq_nil_iff.1 hd
   simp only [List.length_map] at hj ⊢
   omega
  simp only [sR, List.range', simprocAttr]
  rw [hlex]
  exact ⟨by simp, fun h => by cases h⟩
 -- a piece
 have hn : ¬ dD rest c < 0 := by simpa using hb
 obtain ⟨k, hk, hkl, hsp2⟩ := dS hn
 rw [hk]
 rw [hsp2] at hsp
 obtain ⟨hj, hx, hd⟩ := bW8 (α := Nat) _ _ _ _ hsp
 have hkm : min k rest.length = k := by omega
 have ek : List.take k (rest.map u8) = (rest.take k).map u8 := List.map_take.symm
 have htk : List.take k ((rest.take k).map u8) = (rest.take k).map u8 := List.take_of_length_le (by simp; omega)
 have hw1 : IntKind.i64.wrap ((k : Int) + 1) = ((k + 1 : Nat) : Int) := by rw [IntWalk.i64_in _ (by omega)]; rfl
 have hkl1 : k + 1 ≤ rest.length := hkl
 have edr : List.take (rest.length - (k + 1)) (List.drop (k + 1) (rest.map u8)) = (rest.drop (k + 1)).map u8 := by rw [List.map_drop, List.take_of_length_le (by simp)]
 refine mU ?_
 simp only [sE, ↓reduceIte, simprocAttr, rI]
 refine hK1 _ _ _ _ _ ?_
 clear hK1 K1
 refine eO fun K1 hK1 => mT hS rfl (aM (by kernel_rfl) ?_)
 simp only [sR, simprocAttr]
 iterate 6 refine S0 ?_ (e := fun _ h_ => by simp only [sH, ↓sP, sA, tyS, simprocAttr, rI, ek, List.length_map, Int.natCast_nonneg, mJ, Int.add_zero, Int.ofNat_le, Nat.le_of_lt hkl, List.drop_zero, Nat.sub_zero, show IntKind.i64.wrap (k : Int) = (k : Int) from IntWalk.i64_in _ (by omega)]; exact AX h_)
 simp only [sE, ↓reduceIte, simprocAttr, rI]
 refine hK1 _ _ _ _ _ ?_
 clear hK1 K1
 refine eO fun K1 hK1 => ?_
 refine eO fun K2 hK2 => qZ (l := L) 7 hS hY rfl (by kernel_rfl) (by decide) ?_
 simp only [sR, List.range', simprocAttr]
 have F := aI rI (aI @List.length_map.{0,0} (aI @List.length_take.{0} hkm))
 iterate 6 refine SF ?_
 refine S0 ?_ (e := fun _ h_ => by simp only [sH, ↓sP, sA, tyS, simprocAttr, rI, htk, List.length_map, List.length_take, hkm, ↓hslice3.eq_def, Int.natCast_nonneg, mJ, List.drop_zero, Nat.sub_zero, Int.le_refl, Int.toNat_zero]; exact AX h_)
 rw [hlex]
 refine ⟨_, _, _, hj, rfl, rfl, rfl, rfl, rfl, ?_, ?_, ?_⟩
 ·
  rw [hx]; rfl
 ·
  simp only [sR, List.range', simprocAttr]
  have F := rI
  refine SF ?_
  simp only [sE, ↓reduceIte, simprocAttr, rI]
  refine hK2 _ _ _ _ _ ?_
  clear hK2 K2
  refine jD (b := false) rfl (fun hb => by cases hb) (fun _ => ?_)
  refine mU ?_
  simp only [sE, ↓reduceIte, simprocAttr, rI]
  refine hK1 _ _ _ _ _ ?_
  clear hK1 K1
  refine mT hS rfl (aM (by kernel_rfl) ?_)
  simp only [sR, simprocAttr]
  have F := aI rI (aI edr (aI hw1 (aI @List.length_map.{0,0} (aI @Int.natCast_nonneg (aI @mJ (aI @Int.ofNat_le (aI hkl1 @denilL_u8)))))))
  iterate 7 refine SF ?_
  simp only [sE, ↓reduceIte, simprocAttr, rI]
  refine ⟨⟨(j + 1, rest.drop (k + 1)), hd, by simp; omega⟩, fF, trivial, rfl, ?_⟩
  show (rest.drop (k + 1)).length < rest.length
  simp; omega
 simp only [sR, List.range', simprocAttr]
 have F := rI
 refine SF ?_
 simp only [sE, ↓reduceIte, simprocAttr, rI]
 refine hK2 _ _ _ _ _ ?_
 clear hK2 K2
 refine jD (b := true) rfl (fun _ => ?_) (fun hb => by cases hb)
 refine aS5 ?_
 simp only [sE, ↓reduceIte, simprocAttr, rI]
 exact ⟨by simp, fun h => by cases h⟩

end Go.Proofs.YtlldglbooaefhaaDoor

namespace Go.Proofs.YtlldglbooaefhaaDoor
open Go Go.Hl Go.Pl
set_option maxRecDepth 10000
set_option maxHeartbeats 16000000

theorem cA2 (s : aE) (hl : s.length < 2 ^ 40) : mO Tryd.prog 43 [.str s] (fun u v => u = .str ((unW s).getD []) ∧ v = .bool (unW s).isSome) := by
 refine FW Tryd.func43 ?_
 refine R0 ?_
 refine aC fun K hK => ?_
 refine R0 ?_
 refine aG (b := s == [126]) rfl (fun hb => ?_) (fun hb => ?_)
 ·
  refine R0 ?_
  refine aF (RT Tryd.results43 ?_)
  have hs : s = [126] := by simpa using hb
  subst hs
  exact bE [] (.str []) (.bool true) rfl ⟨rfl, rfl⟩
 refine aJ ?_
 refine T0 (hK _ _ _ ?_)
 clear hK K
 have hne : s ≠ [126] := by simpa using hb
 clear hb
 refine R0 ?_
 refine aC fun K hK => ?_
 refine R0 ?_
 refine aK ?_
 refine uQ 4 0 5 1 rfl rfl rfl rfl ?_
 refine bM (α := {y : Nat × aE // UnSt s y.1 y.2}) (fun y => (fin [(0, .c (.str s)), (4, .own 24 y.1.2.length), (5, .c (.int .i64 y.1.1))], fob [(24, .row 5 1 (y.1.2.map dW))])) 100 (fun y => s.length - y.1.1) ⟨(0, []), UnSt.init s⟩ (fF) ?_
 rintro ⟨⟨i, out⟩, hst⟩
 simp only at hst
 have hi := hst.1
 have ho := hst.2.2.2
 refine aC fun K hK => ?_
 refine aC fun K hK => Rg ?_
 iterate 4 refine S0 ?_
 refine T2 (hK _ _ _ ?_)
 clear hK K
 refine aG (b := decide ((i : Int) < s.length)) rfl (fun hb => ?_) (fun hb => ?_)
 ·
  have hlt : i < s.length := by simpa using hb
  clear hb
  have hgd : s.getD i 0 = s[i] := by simp [hlt]
  refine aJ ?_
  refine T0 (hK _ _ _ ?_)
  clear hK K
  refine aC fun K hK => ?_
  refine aK ?_
  refine aC fun K hK => ?_
  refine aC fun K hK => Rg ?_
  iterate 3 refine S0 ?_ (e := fun _ h_ => by simp only [sH, ↓sP, sA, tyS, simprocAttr, Int.natCast_nonneg, Int.ofNat_lt, hlt, hgd]; exact AX h_)
  refine HS rfl rfl fun K' hK' => ?_
  simp only [sH, ↓sP, sA, tyS, simprocAttr, Int.natCast_nonneg, Int.ofNat_lt, hlt, hgd]
  refine C1 (pU s[i]) ?_
  rintro u rfl
  refine AX (hK' _ _ ?_)
  clear hK' K'
  refine T2 (hK _ _ _ ?_)
  clear hK K
  refine aG (b := cO s[i]) rfl (fun hb => ?_) (fun hb => ?_)
  ·
   refine aC fun K hK => Rg ?_
   iterate 7 refine S0 ?_ (e := fun _ h_ => by simp only [sH, ↓sP, sA, tyS, simprocAttr, Int.natCast_nonneg, Int.ofNat_lt, hlt, hgd, List.length_append, List.length_map]; exact AX h_)
   refine T2 (hK _ _ _ ?_)
   clear hK K
   refine bA (T3 ?_)
   clear hK K
   refine AX (hK _ _ _ ?_)
   clear hK K
   refine aM (by kernel_rfl) ?_
   refine TQ (lP i) ?_
   refine ⟨⟨(i + 1, out ++ [s[i]]), hst.plain hlt hb⟩, aO (by omega) ?_ ?_, ?_⟩
   ·
    simp [bB, upd_at, fin_at, HV.men]
   ·
    simp only [aZ, List.map_append]
    exact ⟨rfl, by omega, trivial, trivial⟩
   show s.length - (i + 1) < s.length - i
   omega
  refine aJ ?_
  refine T0 (hK _ _ _ ?_)
  clear hK K
  refine aC fun K hK => ?_
  have hp : cO s[i] = false := hb
  clear hb
  have hw1 : IntKind.i64.wrap ((i : Int) + 1) = ((i + 1 : Nat) : Int) := by rw [IntWalk.i64_in _ (by omega)]; rfl
  have hw2 : IntKind.i64.wrap ((i : Int) + 2) = ((i + 2 : Nat) : Int) := by rw [IntWalk.i64_in _ (by omega)]; rfl
  have hw3 : IntKind.i64.wrap (((i + 2 : Nat) : Int) + 1) = ((i + 3 : Nat) : Int) := by rw [IntWalk.i64_in _ (by omega)]; rfl
  refine aC fun K hK => Rg ?_
  iterate 5 refine S0 ?_ (e := fun _ h_ => by simp only [sH, ↓sP, sA, tyS, simprocAttr, Int.natCast_nonneg, Int.ofNat_lt, hlt, hgd, hw2]; exact AX h_)
  refine aH 29 rfl (fun h9_29 => ?_) (fun h9_29 => ?_)
  ·
   iterate 6 refine S0 ?_ (e := fun _ h_ => by simp only [sH, ↓sP, sA, tyS, simprocAttr, Int.natCast_nonneg, Int.ofNat_lt, hlt, hgd, hw2, h9_29]; exact AX h_)
   refine T2 (hK _ _ _ ?_)
   clear hK K
   refine CT rfl ?_
   refine R0 ?_
   refine aF (RT Tryd.results43 ?_)
   have h37 : s[i] ≠ 37 := by rintro h; rw [h] at h9_29; simp at h9_29
   have hn := mN (hst.bad1 hlt hp (.inl h37)) hne
   exact bE [] (.str []) (.bool false) rfl ⟨by rw [hn]; rfl, by rw [hn]; rfl⟩
  iterate 6 refine S0 ?_ (e := fun _ h_ => by simp only [sH, ↓sP, sA, tyS, simprocAttr, Int.natCast_nonneg, Int.ofNat_lt, hlt, hgd, hw2, h9_29]; exact AX h_)
  refine aH 35 rfl (fun h9_35 => ?_) (fun h9_35 => ?_)
  ·
   simp only [h9_35]
   refine T2 (hK _ _ _ ?_)
   clear hK K
   refine CT rfl ?_
   refine R0 ?_
   refine aF (RT Tryd.results43 ?_)
   have hi2 : s.length ≤ i + 2 := by simp at h9_35; omega
   have hn := mN (hst.bad1 hlt hp (.inr hi2)) hne
   exact bE [] (.str []) (.bool false) rfl ⟨by rw [hn]; rfl, by rw [hn]; rfl⟩
  simp only [h9_35]
  refine T2 (hK _ _ _ ?_)
  clear hK K
  refine CF rfl ?_
  refine aJ ?_
  refine T0 (hK _ _ _ ?_)
  clear hK K
  have h37 : s[i] = 37 := by
   simp only [bne_eq_false_iff_eq] at h9_29
   exact UInt8.toNat_inj.1 (by show s[i].toNat = 37; omega)
  have hi2 : i + 2 < s.length := by simp at h9_35; omega
  have hi1 : i + 1 < s.length := by omega
  have hg1 : s.getD (i + 1) 0 = s[i + 1] := by simp [hi1]
  have hg2 : s.getD (i + 2) 0 = s[i + 2] := by simp [hi2]
  refine aC fun K hK => DW [(0, [], []), (1, [], []), (2, [], []), (3, [], []), (5, [], []), (6, [], []), (7, [], []), (8, [], []), (4, [], [5, 6, 7, 8]), (9, [], []), (10, [], []), (11, [], [])] [0, 0, 2, 7, 15, 0, 0, 64, 224, 511, 1023, 2047] ?_
  have F := aI @Int.natCast_nonneg (aI @Int.ofNat_lt (aI hw1 (aI hw2 (aI hg1 (aI hg2 (aI hi1 (aI hi2 (aI h9_29 h9_35))))))))
  iterate 8 refine WF ?_
  refine cS (g := none) rfl rfl fun K' hK' => T6 ?_
  refine C2 (pV bP9 s[i + 1]) ?_
  rintro u rfl
  refine AX (hK' _ _ ?_)
  clear hK' K'
  refine cS (g := none) rfl rfl fun K' hK' => T6 ?_
  refine C2 (pV bP9 s[i + 2]) ?_
  rintro u rfl
  refine AX (hK' _ _ ?_)
  clear hK' K'
  iterate 2 refine WF ?_
  refine T2 (hK _ _ _ ?_)
  clear hK K
  refine aC fun K hK => ?_
  by_cases hx : valH s[i + 1] < 16
  ·
   by_cases hy : valH s[i + 2] < 16
   ·
    rw [pO, pO, if_pos hx, if_pos hy]
    have hx0 : decide (((valH s[i + 1] : Nat) : Int) < 0) = false := by simp
    have hy0 : decide (((valH s[i + 2] : Nat) : Int) < 0) = false := by simp
    have e1 : IntKind.i64.wrap (16 * ((valH s[i + 1] : Nat) : Int)) = ((16 * valH s[i + 1] : Nat) : Int) := by rw [IntWalk.i64_in _ (by omega)]; omega
    have e2 : IntKind.i64.wrap (((16 * valH s[i + 1] : Nat) : Int) + ((valH s[i + 2] : Nat) : Int)) = ((16 * valH s[i + 1] + valH s[i + 2] : Nat) : Int) := by rw [IntWalk.i64_in _ (by omega)]; omega
    have e3 : IntKind.u8.wrap ((16 * valH s[i + 1] + valH s[i + 2] : Nat) : Int) = ((byteH s[i + 1] s[i + 2]).toNat : Int) := by rw [IntWalk.u8_in _ (by omega), xX hx hy]
    refine aC fun K hK => Rg ?_
    have F := aI hx0 (aI hy0 (aI e1 (aI e2 (aI e3 (aI h9_29 h9_35)))))
    iterate 12 refine SF ?_
    refine aY (g := some (53, false)) rfl rfl fun K' hK' => T6 ?_
    refine C1 (pU (byteH s[i + 1] s[i + 2])) ?_
    rintro u rfl
    refine AX (hK' _ _ ?_)
    clear hK' K'
    refine SF ?_
    refine T2 (hK _ _ _ ?_)
    clear hK K
    refine aG (b := cO (byteH s[i + 1] s[i + 2])) rfl (fun hb => ?_) (fun hb => ?_)
    ·
     refine R0 ?_
     refine aF (RT Tryd.results43 ?_)
     have hn := mN (hst.bad2 hi2 h37 (by simp [okH, hx, hy, hb])) hne
     exact bE [] (.str []) (.bool false) rfl ⟨by rw [hn]; rfl, by rw [hn]; rfl⟩
    refine aJ ?_
    refine T0 (hK _ _ _ ?_)
    clear hK K
    refine aC fun K hK => Rg ?_
    have F := aI @Int.natCast_nonneg (aI @List.length_append.{0} (aI @List.length_map.{0,0} (aI e1 (aI e2 (aI e3 (aI h9_29 h9_35))))))
    iterate 9 refine SF ?_
    refine T2 (hK _ _ _ ?_)
    clear hK K
    refine aM (by kernel_rfl) ?_
    refine TQ hw2 ?_
    refine AX (hK _ _ _ ?_)
    clear hK K
    refine aM (by kernel_rfl) ?_
    refine TQ hw3 ?_
    refine ⟨⟨(i + 3, out ++ [byteH s[i + 1] s[i + 2]]), hst.esc hi2 h37 (by simp [okH, hx, hy, hb])⟩, aO (by omega) ?_ ?_, ?_⟩
    ·
     simp [bB, upd_at, fin_at, HV.men]
    ·
     simp only [aZ, List.map_append]
     exact ⟨rfl, by omega, trivial, trivial⟩
    show s.length - (i + 3) < s.length - i
    omega
   rw [pO, pO, if_pos hx, if_neg hy]
   have hx0 : decide (((valH s[i + 1] : Nat) : Int) < 0) = false := by simp
   refine aC fun K hK => Rg ?_
   have F := aI hx0 (aI h9_29 h9_35)
   iterate 14 refine SF ?_
   refine T2 (hK _ _ _ ?_)
   clear hK K
   refine CT rfl ?_
   refine R0 ?_
   refine aF (RT Tryd.results43 ?_)
   have hn := mN (hst.bad2 hi2 h37 (by simp [okH, hx, hy])) hne
   exact bE [] (.str []) (.bool false) rfl ⟨by rw [hn]; rfl, by rw [hn]; rfl⟩
  rw [pO, if_neg hx]
  refine aC fun K hK => Rg ?_
  have F := aI h9_29 h9_35
  iterate 14 refine SF ?_
  refine T2 (hK _ _ _ ?_)
  clear hK K
  refine CT rfl ?_
  refine R0 ?_
  refine aF (RT Tryd.results43 ?_)
  have hn := mN (hst.bad2 hi2 h37 (by simp [okH, hx])) hne
  exact bE [] (.str []) (.bool false) rfl ⟨by rw [hn]; rfl, by rw [hn]; rfl⟩
 refine bA (T3 ?_)
 clear hK K
 refine AX (hK _ _ _ ?_)
 clear hK K
 have hei : i = s.length := by simp at hb; omega
 have hfin := hst.fin hei hne
 refine eE [24] (bS (fr2 := fin [(4, .c (.slc (out.map dW)))]) (ob2 := fob []) (nx2 := 200) (aO (by omega) (by simp [bB, gO, fin_at, finA_at, upd_at, fob_at, HV.close, HV.closeL, CV.denil, CV.denilL, dR, HV.men, HV.menL, HV.norm, HV.toC, HV.toCL]) (by simp [aZ, gP, fob_at, upd_at, none0_at, bZ, HO.close, HV.close, HV.closeL, HO.men, HV.men, HV.menL, HV.norm, HV.toC, HV.toCL])) ?_)
 refine aC fun K hK => Rg ?_
 have F := aI @bytesC_map @List.length_map.{0,0}
 iterate 7 refine SF ?_
 refine T2 (hK _ _ _ ?_)
 clear hK K
 refine aF (RT Tryd.results43 ?_)
 refine bE [] (.str out) (.bool (decide (0 < (out.length : Int)))) rfl ?_
 rw [hfin]
 by_cases ho0 : out = []
 ·
  subst ho0; simp
 have : 0 < out.length := List.length_pos_iff.2 ho0
 simp [ho0, this]

end Go.Proofs.YtlldglbooaefhaaDoor
