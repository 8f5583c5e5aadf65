/- Part of a proof: walks of functions of the program, by contracts, and the rules they use. By an AI agent. -/
import Derived.Test.YtenbfeemmpjdhaaGreatPl11h
import Derived.Test.YtenbfeemmpjdhaaGreatHlZb
import Derived.Test.YtenbfeemmpjdhaaGreatHxT6
import Derived.Test.YtenbfeemmpjdhaaGreatHxSb
set_option linter.unusedSimpArgs false
set_option linter.unusedVariables false
set_option linter.defProp false
namespace Go.Pl
open Go Go.Hl

theorem ws_denil (l : List W32) : (ws l).denil = ws l := by simp only [ws, CV.denil]; rw [denilL_map (f := w32) (fun _ => rfl)]
theorem us_denil (l : List UInt8) : (us l).denil = us l := by simp only [us, CV.denil]; rw [denilL_map (f := u8) (fun _ => rfl)]
theorem ws_isAgg (l : List W32) : (ws l).isAgg = true := rfl
theorem ws_all {l : List W32} {n : Nat} (h : l.length = n) : CV.getAt 0 n true (ws l) = some (ws l) := by
  have := ws_cells l
  simp only [ws, CV.cells] at this
  simp only [ws, CV.getAt, this, h, and_self, if_true]
theorem us_all {l : List UInt8} {n : Nat} (h : l.length = n) : CV.getAt 0 n true (us l) = some (us l) := by
  have := us_cells l
  simp only [us, CV.cells] at this
  simp only [us, CV.getAt, this, h, and_self, if_true]
theorem ws_setAll {l : List W32} {n : Nat} (h : l.length = n) (x : HV) : CV.setAt 0 n x (ws l) = some x := by
  have := ws_cells l
  simp only [ws, CV.cells] at this
  simp only [ws, CV.setAt, this, h, and_self, if_true]
theorem ws_gw {l : List W32} {i : Nat} (h : i < l.length) : CV.getAt i 1 false (ws l) = some (.int .u32 ((gw l i).toNat : Int)) := by rw [ws_get h, gw_at h]; rfl
theorem ws_setw {l : List W32} {i : Nat} (y : W32) (h : i < l.length) (h2 : l.length ≠ 1) : CV.setAt i 1 (.c (.int .u32 (y.toNat : Int))) (ws l) = some (.agg (((l.set i y).map w32).map .c)) := ws_set y h h2
theorem us_setb {l : List UInt8} {i : Nat} (y : UInt8) (h : i < l.length) (h2 : l.length ≠ 1) : CV.setAt i 1 (.c (.int .u8 (y.toNat : Int))) (us l) = some (.agg (((l.set i y).map u8).map .c)) := us_set y h h2
theorem nth_u8 {b : List UInt8} {i : Nat} (h : i < b.length) : nth (b.map u8) i = .int .u8 ((gb b i).toNat : Int) := by rw [nth_map h, gb_at h]; rfl
theorem w_rot (x : W32) (n : Nat) : (x <<< (32 - n)) ||| (x >>> n) = rotr x n := by unfold rotr; exact BitVec.or_comm _ _
theorem rot_amt : ∀ n : Fin 32, 0 < n.1 → IntKind.u64.wrap ((BitVec.ofInt IntKind.u64.bits (IntKind.u64.wrap (-((n.1 : Nat) : Int))) &&& BitVec.ofInt IntKind.u64.bits 31).toNat : Int) = ((32 - n.1 : Nat) : Int) := by decide +kernel
theorem hfill_seq {e : Operand → HV} : ∀ (ps : List (Nat × Operand)) (vs : List CV) (pre old : List HV), ps.map (fun p => (p.1, e p.2)) = (vs.zipIdx pre.length).map (fun p => (p.2, HV.c p.1)) → (∀ v ∈ vs, v.cells = 1) → (∀ o ∈ old, HV.cells o = 1) → old.length = vs.length → hfill e ps (pre ++ old) = some (pre ++ vs.map .c)
  | [], [], pre, old, _, _, _, hl => by
    have : old = [] := List.eq_nil_of_length_eq_zero hl
    subst this; rfl
  | [], v :: vs, _, _, h, _, _, _ => by simp at h
  | p :: ps, [], _, _, h, _, _, _ => by simp at h
  | (i, x) :: ps, v :: vs, pre, [], _, _, _, hl => by simp at hl
  | (i, x) :: ps, v :: vs, pre, o :: old, h, hv, ho, hl => by
    simp only [List.map_cons, List.zipIdx_cons, List.cons.injEq, Prod.mk.injEq] at h
    obtain ⟨⟨h1, h2⟩, h3⟩ := h
    have e1 : (pre ++ o :: old)[i]? = some o := by rw [h1]; simp
    have e2 : (pre ++ o :: old).set i (e x) = (pre ++ [HV.c v]) ++ old := by rw [h1, h2]; simp
    have e3 : (e x).cells = o.cells := by rw [h2, ho o (by simp)]; exact hv v (by simp)
    simp only [hfill, e1]
    rw [if_pos ⟨by rw [h2]; rfl, e3⟩, e2, hfill_seq (e := e) ps vs (pre ++ [HV.c v]) old (by rw [h3]; simp) (fun v hv' => hv v (by simp [hv'])) (fun o ho' => ho o (by simp [ho'])) (by simpa using hl)]
    simp
theorem hbuild_ws {n bytes : Nat} {d : TyD} {ps : List (Nat × Operand)} {e : Operand → HV} {K : HV → Prop} (vs : List W32) (hn : vs.length = n) (h : ps.map (fun p => (p.1, e p.2)) = ((vs.map w32).zipIdx).map (fun p => (p.2, HV.c p.1))) : hbuild ⟨n, bytes, d, ws (wz n)⟩ ps e K = K (.c (ws vs)) := by
  have := hfill_seq (e := e) ps (vs.map w32) [] (((wz n).map w32).map .c) h (by simp [w32, CV.cells]) (by simp [w32, HV.cells, CV.cells]) (by simp [wz_len, hn])
  simp only [List.nil_append] at this
  simp only [hbuild, ws, this, hlift_some]
  rw [norm_cs]
@[simp] theorem ws_set_eq (l : List W32) (i : Nat) (x : W32) : CV.agg ((l.map w32).set i (w32 x)) = ws (l.set i x) := by rw [← List.map_set]; rfl
@[simp] theorem us_set_eq (l : List UInt8) (i : Nat) (x : UInt8) : CV.agg ((l.map u8).set i (u8 x)) = us (l.set i x) := by rw [← List.map_set]; rfl
theorem close_c {ob : Ob} {cl : List Nat} {v : CV} (h : v.denil = v) : (HV.close ob cl (.c v)).norm = .c v := by
  rw [show HV.close ob cl (.c v) = .c v.denil from rfl, h]; rfl
@[simp] theorem wA_zero (b : List UInt8) : wA b 0 = wz 64 := rfl
@[simp] theorem wB_zero (w : List W32) : wB w 0 = w := rfl
theorem wsched_eq (b : List UInt8) : wB (wA b 16) 48 = wsched b := by unfold wsched; rfl
theorem St_len (s : St) : s.l.length = 8 := by simp [St.l]
theorem K_len : K256.length = 64 := by decide
theorem gw_a (s : St) : gw s.l 0 = s.a := rfl
theorem gw_b (s : St) : gw s.l 1 = s.b := rfl
theorem gw_c (s : St) : gw s.l 2 = s.c := rfl
theorem gw_d (s : St) : gw s.l 3 = s.d := rfl
theorem gw_e (s : St) : gw s.l 4 = s.e := rfl
theorem gw_f (s : St) : gw s.l 5 = s.f := rfl
theorem gw_g (s : St) : gw s.l 6 = s.g := rfl
theorem gw_h (s : St) : gw s.l 7 = s.h := rfl
theorem t1_code (s : St) (k w : W32) : ((((s.h + k) + w) + ((s.e &&& s.f) ^^^ (~~~ s.e &&& s.g))) + ((rotr s.e 6 ^^^ rotr s.e 11) ^^^ rotr s.e 25)) = t1 s k w := by
  unfold t1
  generalize (s.e &&& s.f) ^^^ (~~~ s.e &&& s.g) = x
  generalize (rotr s.e 6 ^^^ rotr s.e 11) ^^^ rotr s.e 25 = y
  ac_rfl
theorem t2_code (s : St) : (((s.a &&& s.b) ^^^ (s.a &&& s.c)) ^^^ (s.b &&& s.c)) + ((rotr s.a 2 ^^^ rotr s.a 13) ^^^ rotr s.a 22) = t2 s := BitVec.add_comm _ _
theorem t1_ref (s : St) (k w : W32) : (((s.h + ((rotr s.e 6 ^^^ rotr s.e 11) ^^^ rotr s.e 25)) + ((s.e &&& s.f) ^^^ (~~~ s.e &&& s.g))) + k) + w = t1 s k w := rfl
theorem t2_ref (s : St) : ((rotr s.a 2 ^^^ rotr s.a 13) ^^^ rotr s.a 22) + (((s.a &&& s.b) ^^^ (s.a &&& s.c)) ^^^ (s.b &&& s.c)) = t2 s := rfl
def addL (s r : St) (j : Nat) : List W32 := (s.l.zipWith (fun x y => x + y) r.l).take j ++ s.l.drop j
theorem addL_len (s r : St) : ∀ j, j < 9 → (addL s r j).length = 8
  | 0, _ => rfl | 1, _ => rfl | 2, _ => rfl | 3, _ => rfl | 4, _ => rfl | 5, _ => rfl | 6, _ => rfl | 7, _ => rfl | 8, _ => rfl
  | j + 9, h => by omega
theorem addL_gw (s r : St) : ∀ j, j < 8 → gw (addL s r j) j = gw s.l j
  | 0, _ => rfl | 1, _ => rfl | 2, _ => rfl | 3, _ => rfl | 4, _ => rfl | 5, _ => rfl | 6, _ => rfl | 7, _ => rfl
  | j + 8, h => by omega
theorem addL_step (s r : St) : ∀ j, j < 8 → (addL s r j).set j (gw s.l j + gw r.l j) = addL s r (j + 1)
  | 0, _ => rfl | 1, _ => rfl | 2, _ => rfl | 3, _ => rfl | 4, _ => rfl | 5, _ => rfl | 6, _ => rfl | 7, _ => rfl
  | j + 8, h => by omega
@[simp] theorem addL_zero (s r : St) : addL s r 0 = s.l := rfl
theorem itN_set {α : Type} (f : Nat → α) (l : List α) : ∀ n, n ≤ l.length → itN (fun i l => l.set i (f i)) n l = (List.range n).map f ++ l.drop n
  | 0, _ => by simp [itN]
  | n + 1, h => by
    rw [itN_succ, itN_set f l n (by omega), List.set_append_right _ _ (by simp), List.drop_eq_getElem_cons (show n < l.length by omega), List.length_map, List.length_range, Nat.sub_self, List.set_cons_zero, List.range_succ, List.map_append]
    simp
end Go.Pl

namespace Go.Hl
open Go

def HBox0 (P : Program) (f : FuncId) (T : TypeId) (v : CV) (args : List CV) (R : CV → Prop) : Prop :=
  HFn P f (.ptr 0 0 :: args.map .c) 1 (fob [(0, .box T (.c v))]) (fun r ob' => ∃ v', r = .tup [] ∧ ob' = fob [(0, .box T (.c v'))] ∧ R v')
theorem hret_box0 {ob : Ob} {r w : HV} {T : TypeId} {R : CV → Prop} (cl : List Nat) (v' : CV) (h : (r.close ob cl).norm = .tup []) (hb : ob 0 = some (.box T w)) (hw : (w.close ob cl).norm = .c v') (h0 : 0 ∉ cl) (hR : R v') :
    HRet 1 r ob (fun r ob' => ∃ v', r = .tup [] ∧ ob' = fob [(0, .box T (.c v'))] ∧ R v') := by
  refine ⟨cl, id, .tup [], fob [(0, .box T (.c v'))], ⟨v', rfl, rfl, hR⟩, by rw [h]; simp only [HV.ren, HV.renL], fun _ _ => rfl, fun _ _ _ _ h => h, by simp [HV.men, HV.menL], fun j o ho => ?_⟩
  by_cases e : j = 0
  · subst e
    simp only [fob_at, if_true, Option.some.injEq] at ho
    subst ho
    refine ⟨by omega, by simp [HO.men, HV.men], h0, .box T w, hb, ?_⟩
    simp only [hw]
    rfl
  · simp [fob_at, fob_nil, e] at ho

theorem call_box0 {P : Program} {av : List Nat} {f : FuncId} {ob : Ob} {nid id : Nat} {K : HV → Ob → Prop} {T : TypeId} {v : CV} {args : List CV} {R : CV → Prop} (h : HBox0 P f T v args R) (hid : ob id = some (.box T (.c v))) (hav : id ∉ av)
    (hfree : ob nid = none ∧ ob (nid + 1) = none ∧ ob (nid + 2) = none ∧ ob (nid + 3) = none) (hK : ∀ v', R v' → K (.tup []) (upd ob id (some (.box T (.c v'))))) :
    HCall P av f (.ptr id 0 :: args.map .c) ob nid K := by
  refine ⟨[id], .ptr 0 0 :: args.map .c, _, _, h, locOk_box T v args, ⟨by simp, by simpa using hav⟩, ?_, fun j o hj => ?_, fun r lob' hR _ => ?_⟩
  · simp only [HV.renL, HV.ren, HV.renL_c]
    rfl
  · by_cases e : j = 0
    · subst e
      simp only [fob_at, if_true, Option.some.injEq] at hj
      subst hj
      simpa [HO.ren, HV.ren] using hid
    · simp [fob_at, fob_nil, e] at hj
  · obtain ⟨v', rfl, rfl, hR⟩ := hR
    have e : obAfter ob [id] nid (fob [(0, .box T (.c v'))]) = upd ob id (some (.box T (.c v'))) := by
      funext i
      by_cases e : i = id
      · subst e
        simp only [obAfter, upd_same, List.findIdx?_cons, beq_self_eq_true, if_true, fob_at, Option.map_some]
        rfl
      · have e' : (id == i) = false := by simp; exact fun h => e h.symm
        simp only [obAfter, List.findIdx?_cons, e', List.findIdx?_nil, Option.map_none, upd_ne _ _ e]
        simp only [Bool.false_eq_true, if_false]
        split
        · rename_i hr
          have h1 : [id].length + (i - nid) ≠ 0 := by simp
          rw [fob_at, if_neg h1, fob_nil]
          have : i = nid ∨ i = nid + 1 ∨ i = nid + 2 ∨ i = nid + 3 := by omega
          rcases this with rfl | rfl | rfl | rfl
          · exact hfree.1.symm
          · exact hfree.2.1.symm
          · exact hfree.2.2.1.symm
          · exact hfree.2.2.2.symm
        · rfl
    rw [e]
    exact hK v' hR
end Go.Hl

namespace Go.Proofs.YtenbfeemmpjdhaaGreat
open Go Go.Hl Go.Pl
set_option maxRecDepth 10000
set_option maxHeartbeats 4000000
set_option linter.unusedSimpArgs false
set_option linter.unusedVariables false

theorem rotl_ok (x : W32) (n : Nat) (h0 : 0 < n) (hn : n < 32) : HPure Tryz.prog 106 [.int .u32 (x.toNat : Int), .int .i64 (-(n : Int))] (fun v => v = .int .u32 ((rotr x n).toNat : Int)) := by
 have e1 := rot_amt ⟨n, hn⟩ h0
 have e2 : IntKind.u64.wrap (32 - ((32 - n : Nat) : Int)) = (n : Int) := by rw [IntWalk.u64_in _ (by omega)]; omega
 have e3 : 32 - n ≤ 32 := by omega
 have e4 : n ≤ 32 := by omega
 refine hfn_walk Tryz.func106 rfl (by kernel_rfl) (locOk_nil _) (Nat.le_of_ble_eq_true rfl) ?_
 refine hw_seq fun K hK => hw_region (by kernel_rfl) ?_
 simp (maxSteps := 4000000) only [↓sP, sA, tyS, simprocAttr]
 repeat refine AI ?_
 refine hK _ _ _ ?_
 clear hK K
 refine hw_seq fun K hK => hw_region (by kernel_rfl) ?_
 simp only [sR, simprocAttr]
 iterate 4
  (refine hlex_step (g := none) rfl rfl fun K' hK' => ?_; simp only [sH, ↓sP, sA, tyS, simprocAttr, e1]; (repeat refine AI ?_); refine hK' _ _ ?_; clear hK' K')
 simp only [sE, ↓reduceIte, simprocAttr]
 repeat refine AI ?_
 refine hK _ _ _ ?_
 clear hK K
 refine hw_seq fun K hK => hw_region (by kernel_rfl) ?_
 simp only [sR, simprocAttr]
 iterate 9
  (refine hlex_step (g := none) rfl rfl fun K' hK' => ?_; simp only [sH, ↓sP, sA, tyS, simprocAttr, e2, e3, e4, Int.natCast_nonneg, w_shl, w_shr, w_or, w_rot]; (repeat refine AI ?_); refine hK' _ _ ?_; clear hK' K')
 simp only [sE, ↓reduceIte, simprocAttr]
 repeat refine AI ?_
 refine hK _ _ _ ?_
 clear hK K
 refine hw_ret ?_
 simp (maxSteps := 4000000) only [hpost, Tryz.results106, hresL, hres1, tupOf, ↓sP, sA, tyS, simprocAttr]
 exact hret_pure [] (.int .u32 _) rfl rfl


theorem rot_ok (x : W32) (n : Nat) (h0 : 0 < n) (hn : n < 32) : HPure Tryz.prog 116 [.int .u32 (x.toNat : Int), .int .i64 (n : Int)] (fun v => v = .int .u32 ((rotr x n).toNat : Int)) := by
 have e1 : IntKind.u64.wrap (n : Int) = (n : Int) := IntWalk.u64_in _ (by omega)
 have e2 : IntKind.i64.wrap (32 - (n : Int)) = ((32 - n : Nat) : Int) := by rw [IntWalk.i64_in _ (by omega)]; omega
 have e5 : IntKind.u64.wrap ((32 - n : Nat) : Int) = ((32 - n : Nat) : Int) := IntWalk.u64_in _ (by omega)
 have e3 : 32 - n ≤ 32 := by omega
 have e4 : n ≤ 32 := by omega
 refine hfn_walk Tryz.func116 rfl (by kernel_rfl) (locOk_nil _) (Nat.le_of_ble_eq_true rfl) ?_
 refine hw_seq fun K hK => hw_region (by kernel_rfl) ?_
 simp (maxSteps := 4000000) only [↓sP, sA, tyS, simprocAttr]
 repeat refine AI ?_
 refine hK _ _ _ ?_
 clear hK K
 refine hw_seq fun K hK => hw_region (by kernel_rfl) ?_
 simp only [sR, simprocAttr]
 iterate 11
  (refine hlex_step (g := none) rfl rfl fun K' hK' => ?_; simp only [sH, ↓sP, sA, tyS, simprocAttr, e1, e2, e3, e4, e5, Int.natCast_nonneg, w_shl, w_shr, w_or]; (repeat refine AI ?_); refine hK' _ _ ?_; clear hK' K')
 simp only [sE, ↓reduceIte, simprocAttr]
 repeat refine AI ?_
 refine hK _ _ _ ?_
 clear hK K
 refine hw_ret ?_
 simp (maxSteps := 4000000) only [hpost, Tryz.results116, hresL, hres1, tupOf, ↓sP, sA, tyS, simprocAttr]
 exact hret_pure [] (.int .u32 _) rfl rfl


theorem rounds_ok : HPure Tryz.prog 78 [] (fun v => v = ws K256) := by
 refine hfn_walk Tryz.func78 rfl (by kernel_rfl) (locOk_nil _) (Nat.le_of_ble_eq_true rfl) ?_
 refine hw_seq fun K hK => hw_region (by kernel_rfl) ?_
 simp (maxSteps := 4000000) only [↓sP, sA, tyS, simprocAttr]
 repeat refine AI ?_
 refine hK _ _ _ ?_
 clear hK K
 refine hw_seq fun K hK => hw_region (by kernel_rfl) ?_
 simp only [sR, simprocAttr]
 refine hlex_step (g := none) rfl rfl fun K' hK' => ?_
 simp (maxSteps := 4000000) only [sH, ↓sP, sA, tyS, simprocAttr, ws_all K256_len, ws_setAll (wz_len 64), K256_len]
 rw [hbuild_ws (n := 64) K256 rfl rfl]
 repeat refine AI ?_
 refine hK' _ _ ?_
 clear hK' K'
 refine hlex_step (g := none) rfl rfl fun K' hK' => ?_
 simp (maxSteps := 4000000) only [sH, ↓sP, sA, tyS, simprocAttr, ws_all K256_len, ws_setAll (wz_len 64), K256_len]
 repeat refine AI ?_
 refine hK' _ _ ?_
 clear hK' K'
 simp only [sE, ↓reduceIte, simprocAttr]
 repeat refine AI ?_
 refine hK _ _ _ ?_
 clear hK K
 refine hw_ret ?_
 simp (maxSteps := 4000000) only [hpost, Tryz.results78, hresL, hres1, tupOf, ↓sP, sA, tyS, simprocAttr]
 exact hret_pure [] (ws K256) rfl rfl


theorem constants_ok : HPure Tryz.prog 117 [] (fun v => v = ws K256) := by
 refine hfn_walk Tryz.func117 rfl (by kernel_rfl) (locOk_nil _) (Nat.le_of_ble_eq_true rfl) ?_
 refine hw_seq fun K hK => hw_region (by kernel_rfl) ?_
 simp (maxSteps := 4000000) only [↓sP, sA, tyS, simprocAttr]
 repeat refine AI ?_
 refine hK _ _ _ ?_
 clear hK K
 refine hw_seq fun K hK => hw_region (by kernel_rfl) ?_
 simp only [sR, simprocAttr]
 refine hlex_step (g := none) rfl rfl fun K' hK' => ?_
 simp (maxSteps := 4000000) only [sH, ↓sP, sA, tyS, simprocAttr, ws_all K256_len, ws_setAll (wz_len 64), K256_len]
 rw [hbuild_ws (n := 64) K256 rfl rfl]
 repeat refine AI ?_
 refine hK' _ _ ?_
 clear hK' K'
 refine hlex_step (g := none) rfl rfl fun K' hK' => ?_
 simp (maxSteps := 4000000) only [sH, ↓sP, sA, tyS, simprocAttr, ws_all K256_len, ws_setAll (wz_len 64), K256_len]
 repeat refine AI ?_
 refine hK' _ _ ?_
 clear hK' K'
 simp only [sE, ↓reduceIte, simprocAttr]
 repeat refine AI ?_
 refine hK _ _ _ ?_
 clear hK K
 refine hw_ret ?_
 simp (maxSteps := 4000000) only [hpost, Tryz.results117, hresL, hres1, tupOf, ↓sP, sA, tyS, simprocAttr]
 exact hret_pure [] (ws K256) rfl rfl


end Go.Proofs.YtenbfeemmpjdhaaGreat

namespace Go.Proofs.YtenbfeemmpjdhaaGreat
open Go Go.Hl Go.Pl
set_option maxRecDepth 10000
set_option maxHeartbeats 4000000
set_option linter.unusedSimpArgs false
set_option linter.unusedVariables false

theorem schedule_ok (b : List UInt8) (hbl : b.length = 64) : HPure Tryz.prog 105 [.slc (b.map u8)] (fun v => v = ws (wsched b)) := by
 refine hfn_walk Tryz.func105 rfl (by kernel_rfl) (locOk_nil _) (Nat.le_of_ble_eq_true rfl) ?_
 refine hw_seq fun K hK => hw_region (by kernel_rfl) ?_
 simp (maxSteps := 4000000) only [↓sP, sA, tyS, simprocAttr]
 repeat refine AI ?_
 refine hK _ _ _ ?_
 clear hK K
 refine hw_seq fun K hK => hw_region (by kernel_rfl) ?_
 simp (maxSteps := 4000000) only [↓sP, sA, tyS, simprocAttr]
 repeat refine AI ?_
 refine hK _ _ _ ?_
 clear hK K
 refine hw_seq fun K hK => ?_
 refine hw_seq fun K hK => hw_region (by kernel_rfl) ?_
 simp (maxSteps := 4000000) only [↓sP, sA, tyS, simprocAttr]
 repeat refine AI ?_
 refine hK _ _ _ ?_
 clear hK K
 refine hw_block ?_
 refine hw_loop (α := {i : Nat // i ≤ 16}) (fun i => (fin [(0, .c (.slc (b.map u8))), (2, .ptr 0 0), (3, .ptr 4 0), (10, .c (.int .i64 i.1))], fob [(0, .box 117 (.c (ws (wz 64)))), (4, .box 117 (.c (ws (wA b i.1))))])) 100 (fun i => 16 - i.1) ⟨0, by omega⟩ (fits_fin (by omega) (by simp [FinOk, fin_at, finA_at, upd_at, HV.men, HV.menL, HV.norm, HV.toC, HV.toCL]) (by simp [FobOk, fob_at, upd_at, none0_at, gone, HO.men, HV.men, HV.menL, HV.norm, HV.toC, HV.toCL])) ?_
 rintro ⟨i, hi⟩
 have hlen := wA_len b i
 refine hw_seq fun K hK => hw_region (by kernel_rfl) ?_
 simp (maxSteps := 4000000) only [↓sP, sA, tyS, simprocAttr]
 repeat refine AI ?_
 refine hK _ _ _ ?_
 clear hK K
 refine hw_seq fun K hK => ?_
 refine hw_cond (b := decide ((i : Int) < 16)) rfl (fun hb => ?_) (fun hb => ?_)
 ·
  have hlt : i < 16 := by simp at hb; omega
  have z : (i : Int) < 64 := by omega
  have q : i < 64 := by omega
  have q0 : 4 * i < 64 := by omega
  have q1 : 4 * i + 1 < 64 := by omega
  have q2 : 4 * i + 2 < 64 := by omega
  have q3 : 4 * i + 3 < 64 := by omega
  have z0 : ((4 * i : Nat) : Int) < 64 := by omega
  have z1 : ((4 * i + 1 : Nat) : Int) < 64 := by omega
  have z2 : ((4 * i + 2 : Nat) : Int) < 64 := by omega
  have z3 : ((4 * i + 3 : Nat) : Int) < 64 := by omega
  have m0 : IntKind.i64.wrap (4 * (i : Int)) = ((4 * i : Nat) : Int) := by rw [IntWalk.i64_in _ (by omega)]; omega
  have m1 : IntKind.i64.wrap (((4 * i : Nat) : Int) + 1) = ((4 * i + 1 : Nat) : Int) := by rw [IntWalk.i64_in _ (by omega)]; omega
  have m2 : IntKind.i64.wrap (((4 * i : Nat) : Int) + 2) = ((4 * i + 2 : Nat) : Int) := by rw [IntWalk.i64_in _ (by omega)]; omega
  have m3 : IntKind.i64.wrap (((4 * i : Nat) : Int) + 3) = ((4 * i + 3 : Nat) : Int) := by rw [IntWalk.i64_in _ (by omega)]; omega
  refine hw_skip ?_
  simp (maxSteps := 4000000) only [↓sP, sA, tyS, simprocAttr]
  repeat refine AI ?_
  refine hK _ _ _ ?_
  clear hK K
  refine hw_seq fun K hK => ?_
  refine hw_block ?_
  refine hw_seq fun K hK => hw_region (by kernel_rfl) ?_
  simp (maxSteps := 4000000) only [↓sP, sA, tyS, simprocAttr]
  repeat refine AI ?_
  refine hK _ _ _ ?_
  clear hK K
  refine hw_draw2 mixed [(0, [], []), (1, [], []), (2, [], []), (3, [], []), (4, [], []), (5, [], []), (6, [], []), (7, [], []), (8, [], []), (9, [], []), (10, [], []), (11, [], []), (12, [], []), (13, [], []), (14, [], []), (15, [], []), (16, [], []), (17, [], []), (18, [], []), (19, [], []), (20, [], []), (21, [], []), (22, [], []), (23, [], []), (24, [], []), (25, [], []), (26, [], []), (27, [], []), (28, [], []), (29, [], []), (30, [], []), (31, [], []), (32, [], []), (33, [], []), (34, [], []), (35, [], [])] [0, 0, 0, 4, 14, 30, 62, 126, 0, 0, 512, 1536, 3840, 7936, 16128, 32512, 65534, 0, 0, 262144, 786432, 1966080, 4063232, 8257536, 16646144, 33554430, 0, 0, 134217728, 402653184, 1006632960, 2080374784, 4227858432, 8589934590, 17179869183, 34359738367] (by kernel_rfl) (by kernel_rfl) (by kernel_rfl) (by kernel_rfl) rfl (by kernel_rfl) ?_
  iterate 36
   (refine hwalk2_step (g := none) rfl rfl fun K' hK' => ?_; simp only [sH, ↓sP, sA, tyS, simprocAttr, m0, m1, m2, m3, q, q0, q1, q2, q3, z, z0, z1, z2, z3, hbl, hlen, Int.natCast_nonneg, nth_u8, Nat.mul_one, w_byte, w_shl, w_or, ws_setw, toCL_c]; (repeat refine AI ?_); refine hK' _ _ ?_; clear hK' K')
  simp only [sE, ↓reduceIte, simprocAttr]
  repeat refine AI ?_
  refine hK _ _ _ ?_
  clear hK K
  refine hw_region (by kernel_rfl) ?_
  simp (maxSteps := 4000000) only [↓sP, sA, tyS, simprocAttr, IntWalk.i64_in _ (show -9223372036854775808 ≤ (i : Int) + 1 ∧ (i : Int) + 1 ≤ 9223372036854775807 by omega)]
  refine ⟨⟨i + 1, hlt⟩, fits_fin (by omega) (by simp [FinOk, fin_at, finA_at, upd_at, HV.men, HV.menL, HV.norm, HV.toC, HV.toCL]) (by simp [FobOk, fob_at, upd_at, none0_at, gone, HO.men, HV.men, HV.menL, HV.norm, HV.toC, HV.toCL]; rfl), ?_⟩
  show 16 - (i + 1) < 16 - i
  omega
 refine hw_exit ?_
 simp (maxSteps := 4000000) only [↓sP, sA, tyS, simprocAttr]
 clear hK K
 repeat refine AI ?_
 refine hK _ _ _ ?_
 clear hK K
 refine hw_seq fun K hK => ?_
 refine hw_seq fun K hK => hw_region (by kernel_rfl) ?_
 simp (maxSteps := 4000000) only [↓sP, sA, tyS, simprocAttr]
 repeat refine AI ?_
 refine hK _ _ _ ?_
 clear hK K
 refine hw_block ?_
 have hei : i = 16 := by simp at hb; omega
 subst hei
 clear hb hlen
 refine hw_loop (α := {i : Nat // i ≤ 48}) (fun i => (fin [(0, .c (.slc (b.map u8))), (2, .ptr 0 0), (3, .ptr 4 0), (5, .c (.int .i64 ((i.1 + 16 : Nat) : Int)))], fob [(0, .box 117 (.c (ws (wz 64)))), (4, .box 117 (.c (ws (wB (wA b 16) i.1))))])) 100 (fun i => 48 - i.1) ⟨0, by omega⟩ (fits_fin (by omega) (by simp [FinOk, fin_at, finA_at, upd_at, HV.men, HV.menL, HV.norm, HV.toC, HV.toCL]) (by simp [FobOk, fob_at, upd_at, none0_at, gone, HO.men, HV.men, HV.menL, HV.norm, HV.toC, HV.toCL])) ?_
 rintro ⟨i, hi⟩
 have hlen : (wB (wA b 16) i).length = 64 := by rw [wB_len, wA_len]
 refine hw_seq fun K hK => ?_
 refine hw_seq fun K hK => hw_region (by kernel_rfl) ?_
 simp (maxSteps := 4000000) only [↓sP, sA, tyS, simprocAttr]
 repeat refine AI ?_
 refine hK _ _ _ ?_
 clear hK K
 refine hw_cond (b := decide (((i + 16 : Nat) : Int) < 64)) rfl (fun hb => ?_) (fun hb => ?_)
 ·
  have hlt : i < 48 := by simp at hb; omega
  have q0 : i < 64 := by omega
  have q1 : i + 1 < 64 := by omega
  have q2 : i + 14 < 64 := by omega
  have q3 : i + 9 < 64 := by omega
  have q4 : i + 16 < 64 := by omega
  have z0 : (i : Int) < 64 := by omega
  have z1 : ((i + 1 : Nat) : Int) < 64 := by omega
  have z2 : ((i + 14 : Nat) : Int) < 64 := by omega
  have z3 : ((i + 9 : Nat) : Int) < 64 := by omega
  have z4 : ((i + 16 : Nat) : Int) < 64 := by omega
  have m0 : IntKind.i64.wrap (((i + 16 : Nat) : Int) - 16) = (i : Int) := by rw [IntWalk.i64_in _ (by omega)]; omega
  have m1 : IntKind.i64.wrap (((i + 16 : Nat) : Int) - 15) = ((i + 1 : Nat) : Int) := by rw [IntWalk.i64_in _ (by omega)]; omega
  have m2 : IntKind.i64.wrap (((i + 16 : Nat) : Int) - 2) = ((i + 14 : Nat) : Int) := by rw [IntWalk.i64_in _ (by omega)]; omega
  have m3 : IntKind.i64.wrap (((i + 16 : Nat) : Int) - 7) = ((i + 9 : Nat) : Int) := by rw [IntWalk.i64_in _ (by omega)]; omega
  have m4 : IntKind.i64.wrap (((i + 16 : Nat) : Int) + 1) = ((i + 1 + 16 : Nat) : Int) := by rw [IntWalk.i64_in _ (by omega)]; omega
  refine hw_skip ?_
  simp (maxSteps := 4000000) only [↓sP, sA, tyS, simprocAttr]
  repeat refine AI ?_
  refine hK _ _ _ ?_
  clear hK K
  refine hw_seq fun K hK => ?_
  refine hw_block ?_
  refine hw_seq fun K hK => hw_quiet mixed (by kernel_rfl) (by kernel_rfl) (by kernel_rfl) ?_
  simp only [sR, simprocAttr]
  iterate 10
   (refine hlex_step (g := none) rfl rfl fun K' hK' => ?_; simp only [sH, ↓sP, sA, tyS, simprocAttr, m1, m2, q1, q2, z1, z2, hlen, Int.natCast_nonneg, Nat.mul_one, ws_gw]; (repeat refine AI ?_); refine hK' _ _ ?_; clear hK' K')
  simp only [sE, ↓reduceIte, simprocAttr]
  repeat refine AI ?_
  refine hK _ _ _ ?_
  clear hK K
  refine hw_seq fun K hK => hw_region (by kernel_rfl) ?_
  simp only [sR, simprocAttr]
  refine hlex_step (g := none) rfl rfl fun K' hK' => ?_
  simp (maxSteps := 4000000) only [sH, ↓sP, sA, tyS, simprocAttr, w_xor, w_shr]
  repeat refine AI ?_
  refine hK' _ _ ?_
  clear hK' K'
  refine hlex_step (g := none) rfl rfl fun K' hK' => ?_
  simp (maxSteps := 4000000) only [sH, ↓sP, sA, tyS, simprocAttr, w_xor, w_shr]
  refine call_pure (args := [_, _]) (rotl_ok _ 7 (by omega) (by omega)) ⟨rfl, rfl, rfl, rfl⟩ ?_
  rintro u rfl
  repeat refine AI ?_
  refine hK' _ _ ?_
  clear hK' K'
  refine hlex_step (g := none) rfl rfl fun K' hK' => ?_
  simp (maxSteps := 4000000) only [sH, ↓sP, sA, tyS, simprocAttr, w_xor, w_shr]
  repeat refine AI ?_
  refine hK' _ _ ?_
  clear hK' K'
  refine hlex_step (g := none) rfl rfl fun K' hK' => ?_
  simp (maxSteps := 4000000) only [sH, ↓sP, sA, tyS, simprocAttr, w_xor, w_shr]
  refine call_pure (args := [_, _]) (rotl_ok _ 18 (by omega) (by omega)) ⟨rfl, rfl, rfl, rfl⟩ ?_
  rintro u rfl
  repeat refine AI ?_
  refine hK' _ _ ?_
  clear hK' K'
  iterate 5
   (refine hlex_step (g := none) rfl rfl fun K' hK' => ?_; simp only [sH, ↓sP, sA, tyS, simprocAttr, w_xor, w_shr]; (repeat refine AI ?_); refine hK' _ _ ?_; clear hK' K')
  simp only [sE, ↓reduceIte, simprocAttr]
  repeat refine AI ?_
  refine hK _ _ _ ?_
  clear hK K
  refine hw_seq fun K hK => hw_region (by kernel_rfl) ?_
  simp only [sR, simprocAttr]
  refine hlex_step (g := none) rfl rfl fun K' hK' => ?_
  simp (maxSteps := 4000000) only [sH, ↓sP, sA, tyS, simprocAttr, w_xor, w_shr]
  repeat refine AI ?_
  refine hK' _ _ ?_
  clear hK' K'
  refine hlex_step (g := none) rfl rfl fun K' hK' => ?_
  simp (maxSteps := 4000000) only [sH, ↓sP, sA, tyS, simprocAttr, w_xor, w_shr]
  refine call_pure (args := [_, _]) (rotl_ok _ 17 (by omega) (by omega)) ⟨rfl, rfl, rfl, rfl⟩ ?_
  rintro u rfl
  repeat refine AI ?_
  refine hK' _ _ ?_
  clear hK' K'
  refine hlex_step (g := none) rfl rfl fun K' hK' => ?_
  simp (maxSteps := 4000000) only [sH, ↓sP, sA, tyS, simprocAttr, w_xor, w_shr]
  repeat refine AI ?_
  refine hK' _ _ ?_
  clear hK' K'
  refine hlex_step (g := none) rfl rfl fun K' hK' => ?_
  simp (maxSteps := 4000000) only [sH, ↓sP, sA, tyS, simprocAttr, w_xor, w_shr]
  refine call_pure (args := [_, _]) (rotl_ok _ 19 (by omega) (by omega)) ⟨rfl, rfl, rfl, rfl⟩ ?_
  rintro u rfl
  repeat refine AI ?_
  refine hK' _ _ ?_
  clear hK' K'
  iterate 5
   (refine hlex_step (g := none) rfl rfl fun K' hK' => ?_; simp only [sH, ↓sP, sA, tyS, simprocAttr, w_xor, w_shr]; (repeat refine AI ?_); refine hK' _ _ ?_; clear hK' K')
  simp only [sE, ↓reduceIte, simprocAttr]
  repeat refine AI ?_
  refine hK _ _ _ ?_
  clear hK K
  refine hw_draw2 mixed [(0, [], []), (1, [], []), (2, [], []), (3, [], []), (4, [], []), (5, [], []), (6, [], []), (7, [], []), (8, [], []), (9, [], []), (10, [], []), (11, [], []), (12, [], []), (13, [], []), (14, [], []), (15, [], [])] [0, 0, 2, 6, 14, 0, 62, 0, 128, 384, 896, 2046, 0, 8190, 16383, 32767] (by kernel_rfl) (by kernel_rfl) (by kernel_rfl) (by kernel_rfl) rfl (by kernel_rfl) ?_
  iterate 16
   (refine hwalk2_step (g := none) rfl rfl fun K' hK' => ?_; simp only [sH, ↓sP, sA, tyS, simprocAttr, m0, m3, q0, q3, q4, z0, z3, z4, hlen, Int.natCast_nonneg, Nat.mul_one, ws_gw, w_add, ws_setw, toCL_c]; (repeat refine AI ?_); refine hK' _ _ ?_; clear hK' K')
  simp only [sE, ↓reduceIte, simprocAttr]
  repeat refine AI ?_
  refine hK _ _ _ ?_
  clear hK K
  refine hw_region (by kernel_rfl) ?_
  simp (maxSteps := 4000000) only [↓sP, sA, tyS, simprocAttr, m4]
  refine ⟨⟨i + 1, hlt⟩, fits_fin (by omega) (by simp [FinOk, fin_at, finA_at, upd_at, HV.men, HV.menL, HV.norm, HV.toC, HV.toCL]) (by simp [FobOk, fob_at, upd_at, none0_at, gone, HO.men, HV.men, HV.menL, HV.norm, HV.toC, HV.toCL]; rfl), ?_⟩
  show 48 - (i + 1) < 48 - i
  omega
 refine hw_exit ?_
 simp (maxSteps := 4000000) only [↓sP, sA, tyS, simprocAttr]
 clear hK K
 repeat refine AI ?_
 refine hK _ _ _ ?_
 clear hK K
 have hei : i = 48 := by simp at hb; omega
 subst hei
 refine hw_seq fun K hK => hw_region (by kernel_rfl) ?_
 simp (maxSteps := 4000000) only [↓sP, sA, tyS, simprocAttr, hlen, ws_all, ws_setAll, wz_len]
 repeat refine AI ?_
 refine hK _ _ _ ?_
 clear hK K
 refine hw_ret ?_
 simp (maxSteps := 4000000) only [hpost, Tryz.results105, hresL, hres1, tupOf, ↓sP, sA, tyS, simprocAttr]
 rw [wsched_eq]
 simp only [ws_all (wsched_len b), Option.map_some]
 exact hret_pure [] (ws (wsched b)) (close_c (ws_denil _)) rfl

end Go.Proofs.YtenbfeemmpjdhaaGreat

namespace Go.Proofs.YtenbfeemmpjdhaaGreat
open Go Go.Hl Go.Pl
set_option maxRecDepth 10000
set_option maxHeartbeats 4000000
set_option linter.unusedSimpArgs false
set_option linter.unusedVariables false

theorem absorb_ok (s : St) (p : List UInt8) (hp : p.length = 64) : HBox0 Tryz.prog 79 116 (ws s.l) [.rp (ws K256), .slc (p.map u8)] (fun v => v = ws (comp s p).l) := by
 refine hfn_walk Tryz.func79 rfl (by kernel_rfl) (locOk_box _ _ _) (Nat.le_of_ble_eq_true rfl) ?_
 refine hw_seq fun K hK => hw_region (by kernel_rfl) ?_
 simp only [sR, simprocAttr]
 refine hlex_step (g := none) rfl rfl fun K' hK' => ?_
 simp (maxSteps := 4000000) only [sH, ↓sP, sA, tyS, simprocAttr, ws_setAll, wz_len, wsched_len, denilL_u8]
 repeat refine AI ?_
 refine hK' _ _ ?_
 clear hK' K'
 refine hlex_step (g := none) rfl rfl fun K' hK' => ?_
 simp (maxSteps := 4000000) only [sH, ↓sP, sA, tyS, simprocAttr, ws_setAll, wz_len, wsched_len, denilL_u8]
 refine call_pure (args := [_]) (schedule_ok p hp) ⟨rfl, rfl, rfl, rfl⟩ ?_
 rintro u rfl
 repeat refine AI ?_
 refine hK' _ _ ?_
 clear hK' K'
 iterate 2
  (refine hlex_step (g := none) rfl rfl fun K' hK' => ?_; simp only [sH, ↓sP, sA, tyS, simprocAttr, ws_setAll, wz_len, wsched_len, denilL_u8]; (repeat refine AI ?_); refine hK' _ _ ?_; clear hK' K')
 simp only [sE, ↓reduceIte, simprocAttr]
 repeat refine AI ?_
 refine hK _ _ _ ?_
 clear hK K
 refine hw_seq fun K hK => hw_quiet mixed (by kernel_rfl) (by kernel_rfl) (by kernel_rfl) ?_
 simp only [sR, simprocAttr]
 iterate 20
  (refine hlex_step (g := none) rfl rfl fun K' hK' => ?_; simp only [sH, ↓sP, sA, tyS, simprocAttr, ws_gw, St_len, gw_a, gw_b, gw_c, gw_d, gw_e, gw_f, gw_g, gw_h, ws_isAgg, Nat.mul_one, Int.natCast_nonneg]; (repeat refine AI ?_); refine hK' _ _ ?_; clear hK' K')
 simp only [sE, ↓reduceIte, simprocAttr]
 repeat refine AI ?_
 refine hK _ _ _ ?_
 clear hK K
 refine hw_seq fun K hK => hw_quiet mixed (by kernel_rfl) (by kernel_rfl) (by kernel_rfl) ?_
 simp only [sR, simprocAttr]
 iterate 20
  (refine hlex_step (g := none) rfl rfl fun K' hK' => ?_; simp only [sH, ↓sP, sA, tyS, simprocAttr, ws_gw, St_len, gw_a, gw_b, gw_c, gw_d, gw_e, gw_f, gw_g, gw_h, ws_isAgg, Nat.mul_one, Int.natCast_nonneg]; (repeat refine AI ?_); refine hK' _ _ ?_; clear hK' K')
 simp only [sE, ↓reduceIte, simprocAttr]
 repeat refine AI ?_
 refine hK _ _ _ ?_
 clear hK K
 refine hw_seq fun K hK => ?_
 refine hw_seq fun K hK => hw_region (by kernel_rfl) ?_
 simp (maxSteps := 4000000) only [↓sP, sA, tyS, simprocAttr]
 repeat refine AI ?_
 refine hK _ _ _ ?_
 clear hK K
 refine hw_block ?_
 refine hw_loop (α := {x : Nat × St // x.1 ≤ 64 ∧ x.2 = itN (rnd (wsched p)) x.1 s}) (fun x => (fin [(0, .ptr 0 0), (1, .c (.rp (ws K256))), (6, .ptr 9 0), (7, .c (.int .u32 (x.1.2.a.toNat : Int))), (8, .c (.int .u32 (x.1.2.b.toNat : Int))), (9, .c (.int .u32 (x.1.2.c.toNat : Int))), (10, .c (.int .u32 (x.1.2.d.toNat : Int))), (11, .c (.int .u32 (x.1.2.e.toNat : Int))), (12, .c (.int .u32 (x.1.2.f.toNat : Int))), (13, .c (.int .u32 (x.1.2.g.toNat : Int))), (14, .c (.int .u32 (x.1.2.h.toNat : Int))), (54, .c (.int .i64 x.1.1))], fob [(0, .box 116 (.c (ws s.l))), (9, .box 117 (.c (ws (wsched p))))])) 300 (fun x => 64 - x.1.1) ⟨(0, s), by omega, rfl⟩ (fits_fin (by omega) (by simp [FinOk, fin_at, finA_at, upd_at, HV.men, HV.menL, HV.norm, HV.toC, HV.toCL, w32]) (by simp [FobOk, fob_at, upd_at, none0_at, HO.men, HV.men, HV.menL, HV.norm, HV.toC, HV.toCL])) ?_
 rintro ⟨⟨i, S⟩, hi, hS⟩
 replace hi : i ≤ 64 := hi
 replace hS : S = itN (rnd (wsched p)) i s := hS
 refine hw_seq fun K hK => hw_region (by kernel_rfl) ?_
 simp (maxSteps := 4000000) only [↓sP, sA, tyS, simprocAttr]
 repeat refine AI ?_
 refine hK _ _ _ ?_
 clear hK K
 refine hw_seq fun K hK => ?_
 refine hw_cond (b := decide ((i : Int) < 64)) rfl (fun hb => ?_) (fun hb => ?_)
 ·
  have hlt : i < 64 := by simp at hb; omega
  have z : (i : Int) < 64 := by omega
  refine hw_skip ?_
  simp (maxSteps := 4000000) only [↓sP, sA, tyS, simprocAttr]
  repeat refine AI ?_
  refine hK _ _ _ ?_
  clear hK K
  refine hw_seq fun K hK => ?_
  refine hw_block ?_
  refine hw_seq fun K hK => hw_region (by kernel_rfl) ?_
  simp (maxSteps := 4000000) only [↓sP, sA, tyS, simprocAttr]
  repeat refine AI ?_
  refine hK _ _ _ ?_
  clear hK K
  refine hw_seq fun K hK => hw_quiet mixed (by kernel_rfl) (by kernel_rfl) (by kernel_rfl) ?_
  simp only [sR, simprocAttr]
  iterate 21
   (refine hlex_step (g := none) rfl rfl fun K' hK' => ?_; simp only [sH, ↓sP, sA, tyS, simprocAttr, z, hlt, K_len, wsched_len, ws_gw, Nat.mul_one, Int.natCast_nonneg, w_add, w_and, w_xor, w_not]; (repeat refine AI ?_); refine hK' _ _ ?_; clear hK' K')
  simp only [sE, ↓reduceIte, simprocAttr]
  repeat refine AI ?_
  refine hK _ _ _ ?_
  clear hK K
  refine hw_seq fun K hK => hw_region (by kernel_rfl) ?_
  simp only [sR, simprocAttr]
  iterate 2
   (refine hlex_step (g := none) rfl rfl fun K' hK' => ?_; simp only [sH, ↓sP, sA, tyS, simprocAttr, w_xor, w_add, t1_code]; (repeat refine AI ?_); refine hK' _ _ ?_; clear hK' K')
  refine hlex_step (g := none) rfl rfl fun K' hK' => ?_
  simp (maxSteps := 4000000) only [sH, ↓sP, sA, tyS, simprocAttr, w_xor, w_add, t1_code]
  refine call_pure (args := [_, _]) (rotl_ok _ 6 (by omega) (by omega)) ⟨rfl, rfl, rfl, rfl⟩ ?_
  rintro u rfl
  repeat refine AI ?_
  refine hK' _ _ ?_
  clear hK' K'
  refine hlex_step (g := none) rfl rfl fun K' hK' => ?_
  simp (maxSteps := 4000000) only [sH, ↓sP, sA, tyS, simprocAttr, w_xor, w_add, t1_code]
  repeat refine AI ?_
  refine hK' _ _ ?_
  clear hK' K'
  refine hlex_step (g := none) rfl rfl fun K' hK' => ?_
  simp (maxSteps := 4000000) only [sH, ↓sP, sA, tyS, simprocAttr, w_xor, w_add, t1_code]
  refine call_pure (args := [_, _]) (rotl_ok _ 11 (by omega) (by omega)) ⟨rfl, rfl, rfl, rfl⟩ ?_
  rintro u rfl
  repeat refine AI ?_
  refine hK' _ _ ?_
  clear hK' K'
  iterate 2
   (refine hlex_step (g := none) rfl rfl fun K' hK' => ?_; simp only [sH, ↓sP, sA, tyS, simprocAttr, w_xor, w_add, t1_code]; (repeat refine AI ?_); refine hK' _ _ ?_; clear hK' K')
  refine hlex_step (g := none) rfl rfl fun K' hK' => ?_
  simp (maxSteps := 4000000) only [sH, ↓sP, sA, tyS, simprocAttr, w_xor, w_add, t1_code]
  refine call_pure (args := [_, _]) (rotl_ok _ 25 (by omega) (by omega)) ⟨rfl, rfl, rfl, rfl⟩ ?_
  rintro u rfl
  repeat refine AI ?_
  refine hK' _ _ ?_
  clear hK' K'
  iterate 3
   (refine hlex_step (g := none) rfl rfl fun K' hK' => ?_; simp only [sH, ↓sP, sA, tyS, simprocAttr, w_xor, w_add, t1_code]; (repeat refine AI ?_); refine hK' _ _ ?_; clear hK' K')
  simp only [sE, ↓reduceIte, simprocAttr]
  repeat refine AI ?_
  refine hK _ _ _ ?_
  clear hK K
  refine hw_seq fun K hK => hw_region (by kernel_rfl) ?_
  simp only [sR, simprocAttr]
  iterate 12
   (refine hlex_step (g := none) rfl rfl fun K' hK' => ?_; simp only [sH, ↓sP, sA, tyS, simprocAttr, w_and, w_xor]; (repeat refine AI ?_); refine hK' _ _ ?_; clear hK' K')
  simp only [sE, ↓reduceIte, simprocAttr]
  repeat refine AI ?_
  refine hK _ _ _ ?_
  clear hK K
  refine hw_seq fun K hK => hw_region (by kernel_rfl) ?_
  simp only [sR, simprocAttr]
  iterate 2
   (refine hlex_step (g := none) rfl rfl fun K' hK' => ?_; simp only [sH, ↓sP, sA, tyS, simprocAttr, w_xor, w_add, t2_code]; (repeat refine AI ?_); refine hK' _ _ ?_; clear hK' K')
  refine hlex_step (g := none) rfl rfl fun K' hK' => ?_
  simp (maxSteps := 4000000) only [sH, ↓sP, sA, tyS, simprocAttr, w_xor, w_add, t2_code]
  refine call_pure (args := [_, _]) (rotl_ok _ 2 (by omega) (by omega)) ⟨rfl, rfl, rfl, rfl⟩ ?_
  rintro u rfl
  repeat refine AI ?_
  refine hK' _ _ ?_
  clear hK' K'
  refine hlex_step (g := none) rfl rfl fun K' hK' => ?_
  simp (maxSteps := 4000000) only [sH, ↓sP, sA, tyS, simprocAttr, w_xor, w_add, t2_code]
  repeat refine AI ?_
  refine hK' _ _ ?_
  clear hK' K'
  refine hlex_step (g := none) rfl rfl fun K' hK' => ?_
  simp (maxSteps := 4000000) only [sH, ↓sP, sA, tyS, simprocAttr, w_xor, w_add, t2_code]
  refine call_pure (args := [_, _]) (rotl_ok _ 13 (by omega) (by omega)) ⟨rfl, rfl, rfl, rfl⟩ ?_
  rintro u rfl
  repeat refine AI ?_
  refine hK' _ _ ?_
  clear hK' K'
  iterate 2
   (refine hlex_step (g := none) rfl rfl fun K' hK' => ?_; simp only [sH, ↓sP, sA, tyS, simprocAttr, w_xor, w_add, t2_code]; (repeat refine AI ?_); refine hK' _ _ ?_; clear hK' K')
  refine hlex_step (g := none) rfl rfl fun K' hK' => ?_
  simp (maxSteps := 4000000) only [sH, ↓sP, sA, tyS, simprocAttr, w_xor, w_add, t2_code]
  refine call_pure (args := [_, _]) (rotl_ok _ 22 (by omega) (by omega)) ⟨rfl, rfl, rfl, rfl⟩ ?_
  rintro u rfl
  repeat refine AI ?_
  refine hK' _ _ ?_
  clear hK' K'
  iterate 3
   (refine hlex_step (g := none) rfl rfl fun K' hK' => ?_; simp only [sH, ↓sP, sA, tyS, simprocAttr, w_xor, w_add, t2_code]; (repeat refine AI ?_); refine hK' _ _ ?_; clear hK' K')
  simp only [sE, ↓reduceIte, simprocAttr]
  repeat refine AI ?_
  refine hK _ _ _ ?_
  clear hK K
  refine hw_seq fun K hK => hw_region (by kernel_rfl) ?_
  simp only [sR, simprocAttr]
  iterate 10
   (refine hlex_step (g := none) rfl rfl fun K' hK' => ?_; simp only [sH, ↓sP, sA, tyS, simprocAttr, w_add]; (repeat refine AI ?_); refine hK' _ _ ?_; clear hK' K')
  simp only [sE, ↓reduceIte, simprocAttr]
  repeat refine AI ?_
  refine hK _ _ _ ?_
  clear hK K
  refine hw_region (by kernel_rfl) ?_
  simp only [sR, simprocAttr]
  iterate 10
   (refine hlex_step (g := none) rfl rfl fun K' hK' => ?_; simp only [sH, ↓sP, sA, tyS, simprocAttr, w_add]; (repeat refine AI ?_); refine hK' _ _ ?_; clear hK' K')
  simp only [sE, ↓reduceIte, simprocAttr]
  repeat refine AI ?_
  refine hK _ _ _ ?_
  clear hK K
  refine hw_region (by kernel_rfl) ?_
  simp (maxSteps := 4000000) only [↓sP, sA, tyS, simprocAttr, IntWalk.i64_in _ (show -9223372036854775808 ≤ (i : Int) + 1 ∧ (i : Int) + 1 ≤ 9223372036854775807 by omega)]
  refine ⟨⟨(i + 1, rnd (wsched p) i S), hlt, by rw [hS]; rfl⟩, fits_fin (by omega) (by simp [FinOk, fin_at, finA_at, upd_at, HV.men, HV.menL, HV.norm, HV.toC, HV.toCL, rnd]) (by simp [FobOk, fob_at, upd_at, none0_at, HO.men, HV.men, HV.menL, HV.norm, HV.toC, HV.toCL]), ?_⟩
  show 64 - (i + 1) < 64 - i
  omega
 refine hw_exit ?_
 simp (maxSteps := 4000000) only [↓sP, sA, tyS, simprocAttr]
 clear hK K
 repeat refine AI ?_
 refine hK _ _ _ ?_
 clear hK K
 refine hw_seq fun K hK => hw_region (by kernel_rfl) ?_
 simp only [sR, simprocAttr]
 iterate 8
  (refine hlex_step (g := none) rfl rfl fun K' hK' => ?_; simp only [sH, ↓sP, sA, tyS, simprocAttr]; (repeat refine AI ?_); refine hK' _ _ ?_; clear hK' K')
 refine hlex_step (g := none) rfl rfl fun K' hK' => ?_
 simp (maxSteps := 4000000) only [sH, ↓sP, sA, tyS, simprocAttr]
 rw [hbuild_ws (n := 8) S.l rfl rfl]
 repeat refine AI ?_
 refine hK' _ _ ?_
 clear hK' K'
 refine hlex_step (g := none) rfl rfl fun K' hK' => ?_
 simp (maxSteps := 4000000) only [sH, ↓sP, sA, tyS, simprocAttr]
 repeat refine AI ?_
 refine hK' _ _ ?_
 clear hK' K'
 simp only [sE, ↓reduceIte, simprocAttr]
 repeat refine AI ?_
 refine hK _ _ _ ?_
 clear hK K
 refine hw_block ?_
 have hei : i = 64 := by simp at hb; omega
 subst hei
 clear hb
 have e8 : addL s S 8 = (comp s p).l := by rw [hS]; rfl
 clear hS
 refine hw_loop (α := {j : Nat // j ≤ 8}) (fun j => (fin [(0, .ptr 0 0), (129, .c (ws S.l)), (130, .c (.int .i64 j.1))], fob [(0, .box 116 (.c (ws (addL s S j.1))))])) 300 (fun j => 8 - j.1) ⟨0, by omega⟩ (fits_fin (by omega) (by simp [FinOk, fin_at, finA_at, upd_at, HV.men, HV.menL, HV.norm, HV.toC, HV.toCL]) (by simp [FobOk, fob_at, upd_at, none0_at, gone, HO.men, HV.men, HV.menL, HV.norm, HV.toC, HV.toCL])) ?_
 rintro ⟨j, hj⟩
 have hlen := addL_len s S j (by omega)
 refine hw_seq fun K hK => hw_region (by kernel_rfl) ?_
 simp (maxSteps := 4000000) only [↓sP, sA, tyS, simprocAttr]
 repeat refine AI ?_
 refine hK _ _ _ ?_
 clear hK K
 refine hw_seq fun K hK => ?_
 refine hw_cond (b := decide ((j : Int) < 8)) rfl (fun hb => ?_) (fun hb => ?_)
 ·
  have hlt : j < 8 := by simp at hb; omega
  have z : (j : Int) < 8 := by omega
  have hg := addL_gw s S j hlt
  refine hw_skip ?_
  simp (maxSteps := 4000000) only [↓sP, sA, tyS, simprocAttr]
  repeat refine AI ?_
  refine hK _ _ _ ?_
  clear hK K
  refine hw_seq fun K hK => ?_
  refine hw_block ?_
  refine hw_seq fun K hK => hw_region (by kernel_rfl) ?_
  simp only [sR, simprocAttr]
  iterate 4
   (refine hlex_step (g := none) rfl rfl fun K' hK' => ?_; simp only [sH, ↓sP, sA, tyS, simprocAttr, z, hlt, hlen, hg, ws_gw, St_len, gw_a, gw_b, gw_c, gw_d, gw_e, gw_f, gw_g, gw_h, ws_isAgg, Nat.mul_one, Int.natCast_nonneg]; (repeat refine AI ?_); refine hK' _ _ ?_; clear hK' K')
  simp only [sE, ↓reduceIte, simprocAttr]
  repeat refine AI ?_
  refine hK _ _ _ ?_
  clear hK K
  refine hw_draw2 mixed [(0, [], []), (1, [], []), (2, [], []), (3, [], []), (4, [], []), (5, [], []), (6, [], []), (7, [], []), (8, [], []), (9, [], [])] [0, 0, 1, 7, 15, 0, 63, 1, 255, 511] (by kernel_rfl) (by kernel_rfl) (by kernel_rfl) (by kernel_rfl) rfl (by kernel_rfl) ?_
  iterate 10
   (refine hwalk2_step (g := none) rfl rfl fun K' hK' => ?_; simp only [sH, ↓sP, sA, tyS, simprocAttr, z, hlt, hlen, hg, ws_gw, Nat.mul_one, Int.natCast_nonneg, w_add, ws_setw, toCL_c]; (repeat refine AI ?_); refine hK' _ _ ?_; clear hK' K')
  simp only [sE, ↓reduceIte, simprocAttr]
  repeat refine AI ?_
  refine hK _ _ _ ?_
  clear hK K
  refine hw_region (by kernel_rfl) ?_
  simp (maxSteps := 4000000) only [↓sP, sA, tyS, simprocAttr, IntWalk.i64_in _ (show -9223372036854775808 ≤ (j : Int) + 1 ∧ (j : Int) + 1 ≤ 9223372036854775807 by omega)]
  refine ⟨⟨j + 1, hlt⟩, fits_fin (by omega) (by simp [FinOk, fin_at, finA_at, upd_at, HV.men, HV.menL, HV.norm, HV.toC, HV.toCL]) (by simp [FobOk, fob_at, upd_at, none0_at, HO.men, HV.men, HV.menL, HV.norm, HV.toC, HV.toCL]; rw [addL_step s S j hlt]), ?_⟩
  show 8 - (j + 1) < 8 - j
  omega
 refine hw_exit ?_
 simp (maxSteps := 4000000) only [↓sP, sA, tyS, simprocAttr]
 clear hK K
 simp (maxSteps := 4000000) only [hpost, Tryz.results79, hresL, hres1, tupOf, ↓sP, sA, tyS, simprocAttr]
 have hej : j = 8 := by simp at hb; omega
 subst hej
 exact hret_box0 [] (ws (addL s S 8)) rfl rfl (close_c (ws_denil _)) (by simp) (by rw [e8])

end Go.Proofs.YtenbfeemmpjdhaaGreat

namespace Go.Proofs.YtenbfeemmpjdhaaGreat
open Go Go.Hl Go.Pl
set_option maxRecDepth 10000
set_option maxHeartbeats 4000000
set_option linter.unusedSimpArgs false
set_option linter.unusedVariables false

theorem block_ok (s : St) (p : List UInt8) (hp : p.length = 64) : HPure Tryz.prog 102 [ws s.l, .slc (p.map u8)] (fun v => v = ws (comp s p).l) := by
 refine hfn_walk Tryz.func102 rfl (by kernel_rfl) (locOk_nil _) (Nat.le_of_ble_eq_true rfl) ?_
 refine hw_seq fun K hK => hw_region (by kernel_rfl) ?_
 simp (maxSteps := 4000000) only [↓sP, sA, tyS, simprocAttr]
 repeat refine AI ?_
 refine hK _ _ _ ?_
 clear hK K
 refine hw_seq fun K hK => hw_region (by kernel_rfl) ?_
 simp (maxSteps := 4000000) only [↓sP, sA, tyS, simprocAttr]
 repeat refine AI ?_
 refine hK _ _ _ ?_
 clear hK K
 refine hw_seq fun K hK => ?_
 refine hw_seq fun K hK => hw_region (by kernel_rfl) ?_
 simp (maxSteps := 4000000) only [↓sP, sA, tyS, simprocAttr]
 repeat refine AI ?_
 refine hK _ _ _ ?_
 clear hK K
 refine hw_block ?_
 refine hw_loop (α := {i : Nat // i ≤ 16}) (fun i => (fin [(1, .c (.slc (p.map u8))), (2, .ptr 0 0), (4, .ptr 4 0), (5, .ptr 8 0), (6, .c (.int .i64 i.1))], fob [(0, .box 116 (.c (ws s.l))), (4, .box 116 (.c (ws (wz 8)))), (8, .box 117 (.c (ws (wA p i.1))))])) 100 (fun i => 16 - i.1) ⟨0, by omega⟩ (fits_fin (by omega) (by simp [FinOk, fin_at, finA_at, upd_at, HV.men, HV.menL, HV.norm, HV.toC, HV.toCL]) (by simp [FobOk, fob_at, upd_at, none0_at, gone, HO.men, HV.men, HV.menL, HV.norm, HV.toC, HV.toCL])) ?_
 rintro ⟨i, hi⟩
 have hlen := wA_len p i
 refine hw_seq fun K hK => ?_
 refine hw_seq fun K hK => hw_region (by kernel_rfl) ?_
 simp (maxSteps := 4000000) only [↓sP, sA, tyS, simprocAttr]
 repeat refine AI ?_
 refine hK _ _ _ ?_
 clear hK K
 refine hw_cond (b := decide ((i : Int) < 16)) rfl (fun hb => ?_) (fun hb => ?_)
 ·
  have hlt : i < 16 := by simp at hb; omega
  have z : (i : Int) < 64 := by omega
  have q : i < 64 := by omega
  have q0 : 4 * i < 64 := by omega
  have q1 : 4 * i + 1 < 64 := by omega
  have q2 : 4 * i + 2 < 64 := by omega
  have q3 : 4 * i + 3 < 64 := by omega
  have z0 : ((4 * i : Nat) : Int) < 64 := by omega
  have z1 : ((4 * i + 1 : Nat) : Int) < 64 := by omega
  have z2 : ((4 * i + 2 : Nat) : Int) < 64 := by omega
  have z3 : ((4 * i + 3 : Nat) : Int) < 64 := by omega
  have m0 : IntKind.i64.wrap (4 * (i : Int)) = ((4 * i : Nat) : Int) := by rw [IntWalk.i64_in _ (by omega)]; omega
  have m1 : IntKind.i64.wrap (((4 * i : Nat) : Int) + 1) = ((4 * i + 1 : Nat) : Int) := by rw [IntWalk.i64_in _ (by omega)]; omega
  have m2 : IntKind.i64.wrap (((4 * i : Nat) : Int) + 2) = ((4 * i + 2 : Nat) : Int) := by rw [IntWalk.i64_in _ (by omega)]; omega
  have m3 : IntKind.i64.wrap (((4 * i : Nat) : Int) + 3) = ((4 * i + 3 : Nat) : Int) := by rw [IntWalk.i64_in _ (by omega)]; omega
  refine hw_skip ?_
  simp (maxSteps := 4000000) only [↓sP, sA, tyS, simprocAttr]
  repeat refine AI ?_
  refine hK _ _ _ ?_
  clear hK K
  refine hw_seq fun K hK => ?_
  refine hw_block ?_
  refine hw_draw2 mixed [(0, [], []), (1, [], []), (2, [], []), (3, [], []), (4, [], []), (5, [], []), (6, [], []), (7, [], []), (8, [], []), (9, [], []), (10, [], []), (11, [], []), (12, [], []), (13, [], []), (14, [], []), (15, [], []), (16, [], []), (17, [], []), (18, [], []), (19, [], []), (20, [], []), (21, [], []), (22, [], []), (23, [], []), (24, [], []), (25, [], []), (26, [], []), (27, [], []), (28, [], []), (29, [], []), (30, [], []), (31, [], []), (32, [], []), (33, [], []), (34, [], []), (35, [], [])] [0, 0, 0, 4, 14, 30, 62, 126, 0, 0, 512, 1536, 3840, 7936, 16128, 32512, 65534, 0, 0, 262144, 786432, 1966080, 4063232, 8257536, 16646144, 33554430, 0, 0, 134217728, 402653184, 1006632960, 2080374784, 4227858432, 8589934590, 17179869183, 34359738367] (by kernel_rfl) (by kernel_rfl) (by kernel_rfl) (by kernel_rfl) rfl (by kernel_rfl) ?_
  iterate 36
   (refine hwalk2_step (g := none) rfl rfl fun K' hK' => ?_; simp only [sH, ↓sP, sA, tyS, simprocAttr, m0, m1, m2, m3, q, q0, q1, q2, q3, z, z0, z1, z2, z3, hp, hlen, Int.natCast_nonneg, nth_u8, Nat.mul_one, w_byte, w_shl, w_or, ws_setw, toCL_c]; (repeat refine AI ?_); refine hK' _ _ ?_; clear hK' K')
  simp only [sE, ↓reduceIte, simprocAttr]
  repeat refine AI ?_
  refine hK _ _ _ ?_
  clear hK K
  refine hw_region (by kernel_rfl) ?_
  simp (maxSteps := 4000000) only [↓sP, sA, tyS, simprocAttr, IntWalk.i64_in _ (show -9223372036854775808 ≤ (i : Int) + 1 ∧ (i : Int) + 1 ≤ 9223372036854775807 by omega)]
  refine ⟨⟨i + 1, hlt⟩, fits_fin (by omega) (by simp [FinOk, fin_at, finA_at, upd_at, HV.men, HV.menL, HV.norm, HV.toC, HV.toCL]) (by simp [FobOk, fob_at, upd_at, none0_at, gone, HO.men, HV.men, HV.menL, HV.norm, HV.toC, HV.toCL]; rfl), ?_⟩
  show 16 - (i + 1) < 16 - i
  omega
 refine hw_exit ?_
 simp (maxSteps := 4000000) only [↓sP, sA, tyS, simprocAttr]
 clear hK K
 repeat refine AI ?_
 refine hK _ _ _ ?_
 clear hK K
 refine hw_seq fun K hK => ?_
 refine hw_seq fun K hK => hw_region (by kernel_rfl) ?_
 simp (maxSteps := 4000000) only [↓sP, sA, tyS, simprocAttr]
 repeat refine AI ?_
 refine hK _ _ _ ?_
 clear hK K
 refine hw_block ?_
 have hei : i = 16 := by simp at hb; omega
 subst hei
 clear hb hlen
 refine hw_loop (α := {i : Nat // i ≤ 48}) (fun i => (fin [(2, .ptr 0 0), (4, .ptr 4 0), (5, .ptr 8 0), (7, .c (.int .i64 ((i.1 + 16 : Nat) : Int)))], fob [(0, .box 116 (.c (ws s.l))), (4, .box 116 (.c (ws (wz 8)))), (8, .box 117 (.c (ws (wB (wA p 16) i.1))))])) 100 (fun i => 48 - i.1) ⟨0, by omega⟩ (fits_fin (by omega) (by simp [FinOk, fin_at, finA_at, upd_at, HV.men, HV.menL, HV.norm, HV.toC, HV.toCL]) (by simp [FobOk, fob_at, upd_at, none0_at, gone, HO.men, HV.men, HV.menL, HV.norm, HV.toC, HV.toCL])) ?_
 rintro ⟨i, hi⟩
 have hlen : (wB (wA p 16) i).length = 64 := by rw [wB_len, wA_len]
 refine hw_seq fun K hK => ?_
 refine hw_seq fun K hK => hw_region (by kernel_rfl) ?_
 simp (maxSteps := 4000000) only [↓sP, sA, tyS, simprocAttr]
 repeat refine AI ?_
 refine hK _ _ _ ?_
 clear hK K
 refine hw_cond (b := decide (((i + 16 : Nat) : Int) < 64)) rfl (fun hb => ?_) (fun hb => ?_)
 ·
  have hlt : i < 48 := by simp at hb; omega
  have q0 : i < 64 := by omega
  have q1 : i + 1 < 64 := by omega
  have q2 : i + 14 < 64 := by omega
  have q3 : i + 9 < 64 := by omega
  have q4 : i + 16 < 64 := by omega
  have z0 : (i : Int) < 64 := by omega
  have z1 : ((i + 1 : Nat) : Int) < 64 := by omega
  have z2 : ((i + 14 : Nat) : Int) < 64 := by omega
  have z3 : ((i + 9 : Nat) : Int) < 64 := by omega
  have z4 : ((i + 16 : Nat) : Int) < 64 := by omega
  have m0 : IntKind.i64.wrap (((i + 16 : Nat) : Int) - 16) = (i : Int) := by rw [IntWalk.i64_in _ (by omega)]; omega
  have m1 : IntKind.i64.wrap (((i + 16 : Nat) : Int) - 15) = ((i + 1 : Nat) : Int) := by rw [IntWalk.i64_in _ (by omega)]; omega
  have m2 : IntKind.i64.wrap (((i + 16 : Nat) : Int) - 2) = ((i + 14 : Nat) : Int) := by rw [IntWalk.i64_in _ (by omega)]; omega
  have m3 : IntKind.i64.wrap (((i + 16 : Nat) : Int) - 7) = ((i + 9 : Nat) : Int) := by rw [IntWalk.i64_in _ (by omega)]; omega
  have m4 : IntKind.i64.wrap (((i + 16 : Nat) : Int) + 1) = ((i + 1 + 16 : Nat) : Int) := by rw [IntWalk.i64_in _ (by omega)]; omega
  refine hw_skip ?_
  simp (maxSteps := 4000000) only [↓sP, sA, tyS, simprocAttr]
  repeat refine AI ?_
  refine hK _ _ _ ?_
  clear hK K
  refine hw_seq fun K hK => ?_
  refine hw_block ?_
  refine hw_seq fun K hK => hw_draw2 mixed [(0, [], []), (1, [], []), (2, [], []), (3, [], []), (5, [], []), (6, [], []), (7, [], []), (8, [], []), (11, [], []), (12, [], []), (13, [], []), (14, [], []), (15, [], []), (4, [], [5, 6, 7, 8, 11, 12, 13, 14, 15]), (9, [], [11, 12, 13, 14, 15]), (10, [], []), (16, [], []), (17, [], [])] [0, 1, 3, 7, 15, 0, 32, 96, 224, 511, 1023, 0, 2048, 6144, 14336, 30720, 65535, 131071] (by kernel_rfl) (by kernel_rfl) (by kernel_rfl) (by kernel_rfl) rfl (by kernel_rfl) ?_
  iterate 13
   (refine hwalk2_step (g := none) rfl rfl fun K' hK' => ?_; simp only [sH, ↓sP, sA, tyS, simprocAttr, m1, q1, z1, hlen, Int.natCast_nonneg, Nat.mul_one, ws_gw, w_xor, w_shr]; (repeat refine AI ?_); refine hK' _ _ ?_; clear hK' K')
  refine hwalk2_step (g := none) rfl rfl fun K' hK' => ?_
  simp (maxSteps := 4000000) only [sH, ↓sP, sA, tyS, simprocAttr, m1, q1, z1, hlen, Int.natCast_nonneg, Nat.mul_one, ws_gw, w_xor, w_shr]
  refine call_pure (args := [_, _]) (rot_ok _ 7 (by omega) (by omega)) ⟨rfl, rfl, rfl, rfl⟩ ?_
  rintro u rfl
  repeat refine AI ?_
  refine hK' _ _ ?_
  clear hK' K'
  refine hwalk2_step (g := none) rfl rfl fun K' hK' => ?_
  simp (maxSteps := 4000000) only [sH, ↓sP, sA, tyS, simprocAttr, m1, q1, z1, hlen, Int.natCast_nonneg, Nat.mul_one, ws_gw, w_xor, w_shr]
  refine call_pure (args := [_, _]) (rot_ok _ 18 (by omega) (by omega)) ⟨rfl, rfl, rfl, rfl⟩ ?_
  rintro u rfl
  repeat refine AI ?_
  refine hK' _ _ ?_
  clear hK' K'
  iterate 3
   (refine hwalk2_step (g := none) rfl rfl fun K' hK' => ?_; simp only [sH, ↓sP, sA, tyS, simprocAttr, m1, q1, z1, hlen, Int.natCast_nonneg, Nat.mul_one, ws_gw, w_xor, w_shr]; (repeat refine AI ?_); refine hK' _ _ ?_; clear hK' K')
  simp only [sE, ↓reduceIte, simprocAttr]
  repeat refine AI ?_
  refine hK _ _ _ ?_
  clear hK K
  refine hw_seq fun K hK => hw_draw2 mixed [(0, [], []), (1, [], []), (2, [], []), (3, [], []), (5, [], []), (6, [], []), (7, [], []), (8, [], []), (11, [], []), (12, [], []), (13, [], []), (14, [], []), (15, [], []), (4, [], [5, 6, 7, 8, 11, 12, 13, 14, 15]), (9, [], [11, 12, 13, 14, 15]), (10, [], []), (16, [], []), (17, [], [])] [0, 1, 3, 7, 15, 0, 32, 96, 224, 511, 1023, 0, 2048, 6144, 14336, 30720, 65535, 131071] (by kernel_rfl) (by kernel_rfl) (by kernel_rfl) (by kernel_rfl) rfl (by kernel_rfl) ?_
  iterate 13
   (refine hwalk2_step (g := none) rfl rfl fun K' hK' => ?_; simp only [sH, ↓sP, sA, tyS, simprocAttr, m2, q2, z2, hlen, Int.natCast_nonneg, Nat.mul_one, ws_gw, w_xor, w_shr]; (repeat refine AI ?_); refine hK' _ _ ?_; clear hK' K')
  refine hwalk2_step (g := none) rfl rfl fun K' hK' => ?_
  simp (maxSteps := 4000000) only [sH, ↓sP, sA, tyS, simprocAttr, m2, q2, z2, hlen, Int.natCast_nonneg, Nat.mul_one, ws_gw, w_xor, w_shr]
  refine call_pure (args := [_, _]) (rot_ok _ 17 (by omega) (by omega)) ⟨rfl, rfl, rfl, rfl⟩ ?_
  rintro u rfl
  repeat refine AI ?_
  refine hK' _ _ ?_
  clear hK' K'
  refine hwalk2_step (g := none) rfl rfl fun K' hK' => ?_
  simp (maxSteps := 4000000) only [sH, ↓sP, sA, tyS, simprocAttr, m2, q2, z2, hlen, Int.natCast_nonneg, Nat.mul_one, ws_gw, w_xor, w_shr]
  refine call_pure (args := [_, _]) (rot_ok _ 19 (by omega) (by omega)) ⟨rfl, rfl, rfl, rfl⟩ ?_
  rintro u rfl
  repeat refine AI ?_
  refine hK' _ _ ?_
  clear hK' K'
  iterate 3
   (refine hwalk2_step (g := none) rfl rfl fun K' hK' => ?_; simp only [sH, ↓sP, sA, tyS, simprocAttr, m2, q2, z2, hlen, Int.natCast_nonneg, Nat.mul_one, ws_gw, w_xor, w_shr]; (repeat refine AI ?_); refine hK' _ _ ?_; clear hK' K')
  simp only [sE, ↓reduceIte, simprocAttr]
  repeat refine AI ?_
  refine hK _ _ _ ?_
  clear hK K
  refine hw_draw2 mixed [(0, [], []), (1, [], []), (2, [], []), (3, [], []), (4, [], []), (5, [], []), (6, [], []), (7, [], []), (8, [], []), (9, [], []), (10, [], []), (11, [], []), (12, [], []), (13, [], []), (14, [], []), (15, [], [])] [0, 0, 2, 6, 14, 0, 62, 0, 128, 384, 896, 2046, 0, 8190, 16383, 32767] (by kernel_rfl) (by kernel_rfl) (by kernel_rfl) (by kernel_rfl) rfl (by kernel_rfl) ?_
  iterate 16
   (refine hwalk2_step (g := none) rfl rfl fun K' hK' => ?_; simp only [sH, ↓sP, sA, tyS, simprocAttr, m0, m3, q0, q3, q4, z0, z3, z4, hlen, Int.natCast_nonneg, Nat.mul_one, ws_gw, w_add, ws_setw, toCL_c]; (repeat refine AI ?_); refine hK' _ _ ?_; clear hK' K')
  simp only [sE, ↓reduceIte, simprocAttr]
  repeat refine AI ?_
  refine hK _ _ _ ?_
  clear hK K
  refine hw_region (by kernel_rfl) ?_
  simp (maxSteps := 4000000) only [↓sP, sA, tyS, simprocAttr, m4]
  refine ⟨⟨i + 1, hlt⟩, fits_fin (by omega) (by simp [FinOk, fin_at, finA_at, upd_at, HV.men, HV.menL, HV.norm, HV.toC, HV.toCL]) (by simp [FobOk, fob_at, upd_at, none0_at, gone, HO.men, HV.men, HV.menL, HV.norm, HV.toC, HV.toCL]; rfl), ?_⟩
  show 48 - (i + 1) < 48 - i
  omega
 refine hw_exit ?_
 simp (maxSteps := 4000000) only [↓sP, sA, tyS, simprocAttr]
 clear hK K
 repeat refine AI ?_
 refine hK _ _ _ ?_
 clear hK K
 have hei : i = 48 := by simp at hb; omega
 subst hei
 clear hb hlen
 rw [wsched_eq]
 refine hw_seq fun K hK => hw_region (by kernel_rfl) ?_
 simp only [sR, simprocAttr]
 refine hlex_step (g := none) rfl rfl fun K' hK' => ?_
 simp (maxSteps := 4000000) only [sH, ↓sP, sA, tyS, simprocAttr, ws_setAll, wz_len, K_len]
 refine call_pure (args := []) constants_ok ⟨rfl, rfl, rfl, rfl⟩ ?_
 rintro u rfl
 repeat refine AI ?_
 refine hK' _ _ ?_
 clear hK' K'
 iterate 2
  (refine hlex_step (g := none) rfl rfl fun K' hK' => ?_; simp only [sH, ↓sP, sA, tyS, simprocAttr, ws_setAll, wz_len, K_len]; (repeat refine AI ?_); refine hK' _ _ ?_; clear hK' K')
 simp only [sE, ↓reduceIte, simprocAttr]
 repeat refine AI ?_
 refine hK _ _ _ ?_
 clear hK K
 refine hw_seq fun K hK => hw_region (by kernel_rfl) ?_
 simp (maxSteps := 4000000) only [↓sP, sA, tyS, simprocAttr, ws_all, ws_setAll, wz_len, St_len]
 repeat refine AI ?_
 refine hK _ _ _ ?_
 clear hK K
 refine hw_seq fun K hK => ?_
 refine hw_seq fun K hK => hw_region (by kernel_rfl) ?_
 simp (maxSteps := 4000000) only [↓sP, sA, tyS, simprocAttr]
 repeat refine AI ?_
 refine hK _ _ _ ?_
 clear hK K
 refine hw_block ?_
 refine hw_loop (α := {x : Nat × St // x.1 ≤ 64 ∧ x.2 = itN (rnd (wsched p)) x.1 s}) (fun x => (fin [(2, .ptr 0 0), (4, .ptr 4 0), (5, .ptr 8 0), (10, .ptr 112 0), (11, .ptr 124 0), (12, .c (.int .i64 x.1.1))], fob [(0, .box 116 (.c (ws s.l))), (4, .box 116 (.c (ws (wz 8)))), (8, .box 117 (.c (ws (wsched p)))), (112, .box 117 (.c (ws K256))), (124, .box 116 (.c (ws x.1.2.l)))])) 300 (fun x => 64 - x.1.1) ⟨(0, s), by omega, rfl⟩ (fits_fin (by omega) (by simp [FinOk, fin_at, finA_at, upd_at, HV.men, HV.menL, HV.norm, HV.toC, HV.toCL]) (by simp [FobOk, fob_at, upd_at, none0_at, gone, HO.men, HV.men, HV.menL, HV.norm, HV.toC, HV.toCL])) ?_
 rintro ⟨⟨i, S⟩, hi, hS⟩
 replace hi : i ≤ 64 := hi
 replace hS : S = itN (rnd (wsched p)) i s := hS
 refine hw_seq fun K hK => ?_
 refine hw_seq fun K hK => hw_region (by kernel_rfl) ?_
 simp (maxSteps := 4000000) only [↓sP, sA, tyS, simprocAttr]
 repeat refine AI ?_
 refine hK _ _ _ ?_
 clear hK K
 refine hw_cond (b := decide ((i : Int) < 64)) rfl (fun hb => ?_) (fun hb => ?_)
 ·
  have hlt : i < 64 := by simp at hb; omega
  have z : (i : Int) < 64 := by omega
  refine hw_skip ?_
  simp (maxSteps := 4000000) only [↓sP, sA, tyS, simprocAttr]
  repeat refine AI ?_
  refine hK _ _ _ ?_
  clear hK K
  refine hw_seq fun K hK => ?_
  refine hw_block ?_
  refine hw_seq fun K hK => hw_draw2 mixed [(0, [], []), (1, [], []), (3, [], []), (4, [], []), (7, [], []), (8, [], []), (2, [], [3, 4, 7, 8]), (5, [], [7, 8]), (6, [], []), (9, [], [6]), (10, [], []), (11, [], [])] [0, 1, 3, 0, 8, 31, 63, 0, 128, 447, 1023, 2047] (by kernel_rfl) (by kernel_rfl) (by kernel_rfl) (by kernel_rfl) rfl (by kernel_rfl) ?_
  iterate 6
   (refine hwalk2_step (g := none) rfl rfl fun K' hK' => ?_; simp only [sH, ↓sP, sA, tyS, simprocAttr, ws_gw, St_len, gw_a, gw_b, gw_c, gw_d, gw_e, gw_f, gw_g, gw_h, ws_isAgg, Nat.mul_one, Int.natCast_nonneg, w_xor]; (repeat refine AI ?_); refine hK' _ _ ?_; clear hK' K')
  refine hwalk2_step (g := none) rfl rfl fun K' hK' => ?_
  simp (maxSteps := 4000000) only [sH, ↓sP, sA, tyS, simprocAttr, ws_gw, St_len, gw_a, gw_b, gw_c, gw_d, gw_e, gw_f, gw_g, gw_h, ws_isAgg, Nat.mul_one, Int.natCast_nonneg, w_xor]
  refine call_pure (args := [_, _]) (rot_ok _ 6 (by omega) (by omega)) ⟨rfl, rfl, rfl, rfl⟩ ?_
  rintro u rfl
  repeat refine AI ?_
  refine hK' _ _ ?_
  clear hK' K'
  refine hwalk2_step (g := none) rfl rfl fun K' hK' => ?_
  simp (maxSteps := 4000000) only [sH, ↓sP, sA, tyS, simprocAttr, ws_gw, St_len, gw_a, gw_b, gw_c, gw_d, gw_e, gw_f, gw_g, gw_h, ws_isAgg, Nat.mul_one, Int.natCast_nonneg, w_xor]
  refine call_pure (args := [_, _]) (rot_ok _ 11 (by omega) (by omega)) ⟨rfl, rfl, rfl, rfl⟩ ?_
  rintro u rfl
  repeat refine AI ?_
  refine hK' _ _ ?_
  clear hK' K'
  refine hwalk2_step (g := none) rfl rfl fun K' hK' => ?_
  simp (maxSteps := 4000000) only [sH, ↓sP, sA, tyS, simprocAttr, ws_gw, St_len, gw_a, gw_b, gw_c, gw_d, gw_e, gw_f, gw_g, gw_h, ws_isAgg, Nat.mul_one, Int.natCast_nonneg, w_xor]
  repeat refine AI ?_
  refine hK' _ _ ?_
  clear hK' K'
  refine hwalk2_step (g := none) rfl rfl fun K' hK' => ?_
  simp (maxSteps := 4000000) only [sH, ↓sP, sA, tyS, simprocAttr, ws_gw, St_len, gw_a, gw_b, gw_c, gw_d, gw_e, gw_f, gw_g, gw_h, ws_isAgg, Nat.mul_one, Int.natCast_nonneg, w_xor]
  refine call_pure (args := [_, _]) (rot_ok _ 25 (by omega) (by omega)) ⟨rfl, rfl, rfl, rfl⟩ ?_
  rintro u rfl
  repeat refine AI ?_
  refine hK' _ _ ?_
  clear hK' K'
  iterate 2
   (refine hwalk2_step (g := none) rfl rfl fun K' hK' => ?_; simp only [sH, ↓sP, sA, tyS, simprocAttr, ws_gw, St_len, gw_a, gw_b, gw_c, gw_d, gw_e, gw_f, gw_g, gw_h, ws_isAgg, Nat.mul_one, Int.natCast_nonneg, w_xor]; (repeat refine AI ?_); refine hK' _ _ ?_; clear hK' K')
  simp only [sE, ↓reduceIte, simprocAttr]
  repeat refine AI ?_
  refine hK _ _ _ ?_
  clear hK K
  refine hw_seq fun K hK => hw_quiet mixed (by kernel_rfl) (by kernel_rfl) (by kernel_rfl) ?_
  simp only [sR, simprocAttr]
  iterate 26
   (refine hlex_step (g := none) rfl rfl fun K' hK' => ?_; simp only [sH, ↓sP, sA, tyS, simprocAttr, ws_gw, St_len, gw_a, gw_b, gw_c, gw_d, gw_e, gw_f, gw_g, gw_h, ws_isAgg, Nat.mul_one, Int.natCast_nonneg, z, hlt, K_len, wsched_len, w_add, w_and, w_xor, w_not, t1_ref]; (repeat refine AI ?_); refine hK' _ _ ?_; clear hK' K')
  simp only [sE, ↓reduceIte, simprocAttr]
  repeat refine AI ?_
  refine hK _ _ _ ?_
  clear hK K
  refine hw_seq fun K hK => hw_draw2 mixed [(0, [], []), (1, [], []), (3, [], []), (4, [], []), (7, [], []), (8, [], []), (2, [], [3, 4, 7, 8]), (5, [], [7, 8]), (6, [], []), (9, [], [6]), (10, [], []), (11, [], [])] [0, 1, 3, 0, 8, 31, 63, 0, 128, 447, 1023, 2047] (by kernel_rfl) (by kernel_rfl) (by kernel_rfl) (by kernel_rfl) rfl (by kernel_rfl) ?_
  iterate 6
   (refine hwalk2_step (g := none) rfl rfl fun K' hK' => ?_; simp only [sH, ↓sP, sA, tyS, simprocAttr, ws_gw, St_len, gw_a, gw_b, gw_c, gw_d, gw_e, gw_f, gw_g, gw_h, ws_isAgg, Nat.mul_one, Int.natCast_nonneg, w_xor]; (repeat refine AI ?_); refine hK' _ _ ?_; clear hK' K')
  refine hwalk2_step (g := none) rfl rfl fun K' hK' => ?_
  simp (maxSteps := 4000000) only [sH, ↓sP, sA, tyS, simprocAttr, ws_gw, St_len, gw_a, gw_b, gw_c, gw_d, gw_e, gw_f, gw_g, gw_h, ws_isAgg, Nat.mul_one, Int.natCast_nonneg, w_xor]
  refine call_pure (args := [_, _]) (rot_ok _ 2 (by omega) (by omega)) ⟨rfl, rfl, rfl, rfl⟩ ?_
  rintro u rfl
  repeat refine AI ?_
  refine hK' _ _ ?_
  clear hK' K'
  refine hwalk2_step (g := none) rfl rfl fun K' hK' => ?_
  simp (maxSteps := 4000000) only [sH, ↓sP, sA, tyS, simprocAttr, ws_gw, St_len, gw_a, gw_b, gw_c, gw_d, gw_e, gw_f, gw_g, gw_h, ws_isAgg, Nat.mul_one, Int.natCast_nonneg, w_xor]
  refine call_pure (args := [_, _]) (rot_ok _ 13 (by omega) (by omega)) ⟨rfl, rfl, rfl, rfl⟩ ?_
  rintro u rfl
  repeat refine AI ?_
  refine hK' _ _ ?_
  clear hK' K'
  refine hwalk2_step (g := none) rfl rfl fun K' hK' => ?_
  simp (maxSteps := 4000000) only [sH, ↓sP, sA, tyS, simprocAttr, ws_gw, St_len, gw_a, gw_b, gw_c, gw_d, gw_e, gw_f, gw_g, gw_h, ws_isAgg, Nat.mul_one, Int.natCast_nonneg, w_xor]
  repeat refine AI ?_
  refine hK' _ _ ?_
  clear hK' K'
  refine hwalk2_step (g := none) rfl rfl fun K' hK' => ?_
  simp (maxSteps := 4000000) only [sH, ↓sP, sA, tyS, simprocAttr, ws_gw, St_len, gw_a, gw_b, gw_c, gw_d, gw_e, gw_f, gw_g, gw_h, ws_isAgg, Nat.mul_one, Int.natCast_nonneg, w_xor]
  refine call_pure (args := [_, _]) (rot_ok _ 22 (by omega) (by omega)) ⟨rfl, rfl, rfl, rfl⟩ ?_
  rintro u rfl
  repeat refine AI ?_
  refine hK' _ _ ?_
  clear hK' K'
  iterate 2
   (refine hwalk2_step (g := none) rfl rfl fun K' hK' => ?_; simp only [sH, ↓sP, sA, tyS, simprocAttr, ws_gw, St_len, gw_a, gw_b, gw_c, gw_d, gw_e, gw_f, gw_g, gw_h, ws_isAgg, Nat.mul_one, Int.natCast_nonneg, w_xor]; (repeat refine AI ?_); refine hK' _ _ ?_; clear hK' K')
  simp only [sE, ↓reduceIte, simprocAttr]
  repeat refine AI ?_
  refine hK _ _ _ ?_
  clear hK K
  refine hw_seq fun K hK => hw_region (by kernel_rfl) ?_
  simp only [sR, simprocAttr]
  iterate 20
   (refine hlex_step (g := none) rfl rfl fun K' hK' => ?_; simp only [sH, ↓sP, sA, tyS, simprocAttr, ws_gw, St_len, gw_a, gw_b, gw_c, gw_d, gw_e, gw_f, gw_g, gw_h, ws_isAgg, Nat.mul_one, Int.natCast_nonneg, w_add, w_and, w_xor, t2_ref]; (repeat refine AI ?_); refine hK' _ _ ?_; clear hK' K')
  simp only [sE, ↓reduceIte, simprocAttr]
  repeat refine AI ?_
  refine hK _ _ _ ?_
  clear hK K
  refine hw_region (by kernel_rfl) ?_
  simp only [sR, simprocAttr]
  iterate 19
   (refine hlex_step (g := none) rfl rfl fun K' hK' => ?_; simp only [sH, ↓sP, sA, tyS, simprocAttr, ws_gw, St_len, gw_a, gw_b, gw_c, gw_d, gw_e, gw_f, gw_g, gw_h, ws_isAgg, Nat.mul_one, Int.natCast_nonneg, w_add, ws_setAll]; (repeat refine AI ?_); refine hK' _ _ ?_; clear hK' K')
  refine hlex_step (g := none) rfl rfl fun K' hK' => ?_
  simp (maxSteps := 4000000) only [sH, ↓sP, sA, tyS, simprocAttr, ws_gw, St_len, gw_a, gw_b, gw_c, gw_d, gw_e, gw_f, gw_g, gw_h, ws_isAgg, Nat.mul_one, Int.natCast_nonneg, w_add, ws_setAll]
  rw [hbuild_ws (n := 8) (rnd (wsched p) i S).l rfl rfl]
  repeat refine AI ?_
  refine hK' _ _ ?_
  clear hK' K'
  refine hlex_step (g := none) rfl rfl fun K' hK' => ?_
  simp (maxSteps := 4000000) only [sH, ↓sP, sA, tyS, simprocAttr, ws_gw, St_len, gw_a, gw_b, gw_c, gw_d, gw_e, gw_f, gw_g, gw_h, ws_isAgg, Nat.mul_one, Int.natCast_nonneg, w_add, ws_setAll]
  repeat refine AI ?_
  refine hK' _ _ ?_
  clear hK' K'
  simp only [sE, ↓reduceIte, simprocAttr]
  repeat refine AI ?_
  refine hK _ _ _ ?_
  clear hK K
  refine hw_region (by kernel_rfl) ?_
  simp (maxSteps := 4000000) only [↓sP, sA, tyS, simprocAttr, IntWalk.i64_in _ (show -9223372036854775808 ≤ (i : Int) + 1 ∧ (i : Int) + 1 ≤ 9223372036854775807 by omega)]
  refine ⟨⟨(i + 1, rnd (wsched p) i S), hlt, by rw [hS]; rfl⟩, fits_fin (by omega) (by simp [FinOk, fin_at, finA_at, upd_at, HV.men, HV.menL, HV.norm, HV.toC, HV.toCL]) (by simp [FobOk, fob_at, upd_at, none0_at, gone, HO.men, HV.men, HV.menL, HV.norm, HV.toC, HV.toCL]), ?_⟩
  show 64 - (i + 1) < 64 - i
  omega
 refine hw_exit ?_
 simp (maxSteps := 4000000) only [↓sP, sA, tyS, simprocAttr]
 clear hK K
 repeat refine AI ?_
 refine hK _ _ _ ?_
 clear hK K
 refine hw_seq fun K hK => ?_
 refine hw_seq fun K hK => hw_region (by kernel_rfl) ?_
 simp (maxSteps := 4000000) only [↓sP, sA, tyS, simprocAttr]
 repeat refine AI ?_
 refine hK _ _ _ ?_
 clear hK K
 refine hw_block ?_
 have hei : i = 64 := by simp at hb; omega
 subst hei
 clear hb
 have e8 : addL s S 8 = (comp s p).l := by rw [hS]; rfl
 clear hS
 refine hw_loop (α := {j : Nat // j ≤ 8}) (fun j => (fin [(2, .ptr 0 0), (4, .ptr 4 0), (11, .ptr 124 0), (17, .c (.int .i64 j.1))], fob [(0, .box 116 (.c (ws (addL s S j.1)))), (4, .box 116 (.c (ws (wz 8)))), (124, .box 116 (.c (ws S.l)))])) 300 (fun j => 8 - j.1) ⟨0, by omega⟩ (fits_fin (by omega) (by simp [FinOk, fin_at, finA_at, upd_at, HV.men, HV.menL, HV.norm, HV.toC, HV.toCL]) (by simp [FobOk, fob_at, upd_at, none0_at, gone, HO.men, HV.men, HV.menL, HV.norm, HV.toC, HV.toCL])) ?_
 rintro ⟨j, hj⟩
 have hlen := addL_len s S j (by omega)
 refine hw_seq fun K hK => ?_
 refine hw_seq fun K hK => hw_region (by kernel_rfl) ?_
 simp (maxSteps := 4000000) only [↓sP, sA, tyS, simprocAttr]
 repeat refine AI ?_
 refine hK _ _ _ ?_
 clear hK K
 refine hw_cond (b := decide ((j : Int) < 8)) rfl (fun hb => ?_) (fun hb => ?_)
 ·
  have hlt : j < 8 := by simp at hb; omega
  have z : (j : Int) < 8 := by omega
  have hg := addL_gw s S j hlt
  refine hw_skip ?_
  simp (maxSteps := 4000000) only [↓sP, sA, tyS, simprocAttr]
  repeat refine AI ?_
  refine hK _ _ _ ?_
  clear hK K
  refine hw_seq fun K hK => ?_
  refine hw_block ?_
  refine hw_draw2 mixed [(0, [], []), (1, [], []), (2, [], []), (3, [], []), (4, [], []), (5, [], []), (6, [], []), (7, [], []), (8, [], []), (9, [], [])] [0, 0, 2, 6, 0, 16, 48, 126, 255, 511] (by kernel_rfl) (by kernel_rfl) (by kernel_rfl) (by kernel_rfl) rfl (by kernel_rfl) ?_
  iterate 10
   (refine hwalk2_step (g := none) rfl rfl fun K' hK' => ?_; simp only [sH, ↓sP, sA, tyS, simprocAttr, z, hlt, hlen, hg, ws_gw, St_len, Nat.mul_one, Int.natCast_nonneg, w_add, ws_setw, toCL_c]; (repeat refine AI ?_); refine hK' _ _ ?_; clear hK' K')
  simp only [sE, ↓reduceIte, simprocAttr]
  repeat refine AI ?_
  refine hK _ _ _ ?_
  clear hK K
  refine hw_region (by kernel_rfl) ?_
  simp (maxSteps := 4000000) only [↓sP, sA, tyS, simprocAttr, IntWalk.i64_in _ (show -9223372036854775808 ≤ (j : Int) + 1 ∧ (j : Int) + 1 ≤ 9223372036854775807 by omega)]
  refine ⟨⟨j + 1, hlt⟩, fits_fin (by omega) (by simp [FinOk, fin_at, finA_at, upd_at, HV.men, HV.menL, HV.norm, HV.toC, HV.toCL]) (by simp [FobOk, fob_at, upd_at, none0_at, HO.men, HV.men, HV.menL, HV.norm, HV.toC, HV.toCL]; rw [addL_step s S j hlt]), ?_⟩
  show 8 - (j + 1) < 8 - j
  omega
 refine hw_exit ?_
 simp (maxSteps := 4000000) only [↓sP, sA, tyS, simprocAttr]
 clear hK K
 repeat refine AI ?_
 refine hK _ _ _ ?_
 clear hK K
 have hej : j = 8 := by simp at hb; omega
 subst hej
 clear hb
 refine hw_seq fun K hK => hw_region (by kernel_rfl) ?_
 simp (maxSteps := 4000000) only [↓sP, sA, tyS, simprocAttr, ws_all, ws_setAll, wz_len, hlen]
 repeat refine AI ?_
 refine hK _ _ _ ?_
 clear hK K
 refine hw_ret ?_
 simp (maxSteps := 4000000) only [hpost, Tryz.results102, hresL, hres1, tupOf, ↓sP, sA, tyS, simprocAttr]
 simp only [ws_all hlen, Option.map_some]
 exact hret_pure [] (ws (addL s S 8)) (close_c (ws_denil _)) (by rw [e8])

end Go.Proofs.YtenbfeemmpjdhaaGreat
