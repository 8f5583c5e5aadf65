/- Contracts of admissionref02's small functions. By an AI agent. -/
import Derived.Test.YtackchmdajdlaaaGreatPlShb
import Derived.Sort.Grow
import Derived.Sort.EncStr
import Derived.Test.YtackchmdajdlaaaGreatHwSb
import Derived.Test.YtackchmdajdlaaaGreatRows
set_option linter.unusedSimpArgs false
set_option linter.unusedVariables false
set_option linter.defProp false
namespace Go.Pl
open Go Go.Hl

theorem blk_succ (p : List UInt8) (n : Nat) (s : St) : blk p (n + 1) s = comp (blk p n s) ((p.drop (64 * n)).take 64) := rfl
theorem len8_len (n : Nat) : (len8 n).length = 8 := by simp [len8]
theorem pad_len (b : List UInt8) : (pad b).length = b.length + 1 + zs b.length + 8 := by simp [pad, len8_len]; omega
theorem pad_mod (b : List UInt8) : (pad b).length % 64 = 0 := by
  rw [pad_len]; unfold zs; omega
theorem pad_blk {b : List UInt8} {j : Nat} (h : 64 * (j + 1) ≤ b.length) : ((pad b).drop (64 * j)).take 64 = (b.drop (64 * j)).take 64 := by
  unfold pad
  rw [List.append_assoc, List.append_assoc, List.drop_append_of_le_length (by omega), List.take_append_of_le_length (by rw [List.length_drop]; omega)]
def padP (b : List UInt8) (j : Nat) : List UInt8 := b.drop (64 * j) ++ [0x80] ++ List.replicate (zs b.length) 0
theorem pad_tail {b : List UInt8} {j : Nat} (h : 64 * j ≤ b.length) : (pad b).drop (64 * j) = padP b j ++ len8 b.length := by
  unfold pad padP
  rw [List.append_assoc, List.append_assoc, List.drop_append_of_le_length h]
  simp
def lastM (b : List UInt8) (j : Nat) : Nat := if b.length - 64 * j < 56 then 64 else 128
section
variable {b : List UInt8} {j : Nat} (h0 : 64 * j ≤ b.length) (h1 : b.length < 64 * j + 64)
include h0 h1
theorem padP_len : (padP b j).length + 8 = lastM b j := by
  simp only [padP, lastM, List.length_append, List.length_drop, List.length_singleton, List.length_replicate]
  unfold zs
  split <;> omega
theorem pad_blocks : (pad b).length = 64 * j + lastM b j := by
  have e := congrArg List.length (pad_tail h0)
  rw [List.length_drop, List.length_append, len8_len, padP_len h0 h1] at e
  have : 64 * j ≤ (pad b).length := by rw [pad_len]; omega
  omega
theorem arr0 : ((b.drop (64 * j) ++ (uz 128).drop (b.length - 64 * j)).set (b.length - 64 * j) 0x80) = padP b j ++ (List.replicate 8 0 ++ List.replicate (128 - lastM b j) 0) := by
  have hl : (b.drop (64 * j)).length = b.length - 64 * j := List.length_drop
  have e : (uz 128).drop (b.length - 64 * j) = 0 :: List.replicate (127 - (b.length - 64 * j)) 0 := by
    unfold uz
    rw [List.drop_replicate, ← List.replicate_succ]
    congr 1; omega
  rw [List.set_append_right _ _ (by omega), hl, Nat.sub_self, e, List.set_cons_zero, List.replicate_append_replicate]
  have e2 : 127 - (b.length - 64 * j) = zs b.length + (8 + (128 - lastM b j)) := by
    unfold zs lastM; split <;> omega
  rw [e2, ← List.replicate_append_replicate, ← List.replicate_append_replicate]
  simp only [padP, List.append_assoc, List.singleton_append, List.cons_append, List.nil_append, List.replicate_append_replicate]
end
def midB (n i : Nat) : List UInt8 := (List.range 8).map fun q => if 7 - q < i then UInt8.ofNat (8 * n / 2 ^ (8 * (7 - q))) else 0
theorem midB_zero (n : Nat) : List.replicate 8 0 = midB n 0 := rfl
theorem midB_step (n : Nat) : ∀ i, i < 8 → (midB n i).set (7 - i) (UInt8.ofNat (8 * n / 2 ^ (8 * i))) = midB n (i + 1)
  | 0, _ => rfl | 1, _ => rfl | 2, _ => rfl | 3, _ => rfl | 4, _ => rfl | 5, _ => rfl | 6, _ => rfl | 7, _ => rfl
  | j + 8, h => by omega
theorem midB_all (n : Nat) : midB n 8 = len8 n := rfl
theorem midB_len (n i : Nat) : (midB n i).length = 8 := by simp [midB]
def arrB (b : List UInt8) (j i : Nat) : List UInt8 := padP b j ++ (midB b.length i ++ List.replicate (128 - lastM b j) 0)
section
variable {b : List UInt8} {j : Nat} (h0 : 64 * j ≤ b.length) (h1 : b.length < 64 * j + 64)
include h0 h1
theorem arrB_zero : ((b.drop (64 * j) ++ (uz 128).drop (b.length - 64 * j)).set (b.length - 64 * j) 0x80) = arrB b j 0 := by rw [arr0 h0 h1, midB_zero b.length]; rfl
theorem arrB_len (i : Nat) : (arrB b j i).length = 128 := by
  have := padP_len h0 h1
  simp only [arrB, List.length_append, midB_len, List.length_replicate]
  have : lastM b j ≤ 128 := by unfold lastM; split <;> omega
  omega
theorem arrB_step {i : Nat} (hi : i < 8) : (arrB b j i).set (lastM b j - 1 - i) (UInt8.ofNat (8 * b.length / 2 ^ (8 * i))) = arrB b j (i + 1) := by
  have hp := padP_len h0 h1
  unfold arrB
  rw [List.set_append_right _ _ (by omega), List.set_append_left _ _ (by rw [midB_len]; omega)]
  have : lastM b j - 1 - i - (padP b j).length = 7 - i := by omega
  rw [this, midB_step _ _ hi]
theorem arrB_blk {q : Nat} (hq : 64 * (q + 1) ≤ lastM b j) : ((arrB b j 8).drop (64 * q)).take 64 = ((pad b).drop (64 * (j + q))).take 64 := by
  have hp := padP_len h0 h1
  have e : (arrB b j 8) = (pad b).drop (64 * j) ++ List.replicate (128 - lastM b j) 0 := by rw [pad_tail h0]; unfold arrB; rw [midB_all]; simp
  have hl : ((pad b).drop (64 * j)).length = lastM b j := by rw [List.length_drop, pad_blocks h0 h1]; omega
  rw [e, List.drop_append_of_le_length (by omega), List.take_append_of_le_length (by rw [List.length_drop]; omega), List.drop_drop]
  congr 2; omega
end
theorem over_u8 {r : List UInt8} {n : Nat} (h : r.length ≤ n) : over ((uz n).map u8) ((r.map u8).take n) 0 = (r ++ (uz n).drop r.length).map u8 := by
  have e : (r.map u8).take n = r.map u8 := List.take_of_length_le (by rw [List.length_map]; exact h)
  simp [over, e]
@[simp] theorem us_fold (l : List UInt8) : CV.agg (l.map u8) = us l := rfl
theorem byte_shr (v i : Nat) (h : 8 * i ≤ 64) : IntKind.u8.wrap (Int.fdiv (v : Int) (2 ^ (min (8 * i) IntKind.u64.bits))) = ((UInt8.ofNat (v / 2 ^ (8 * i))).toNat : Int) := by
  have : min (8 * i) IntKind.u64.bits = 8 * i := Nat.min_eq_left h
  rw [this, Int.fdiv_eq_ediv_of_nonneg _ (Int.pow_nonneg (by omega))]
  have e : (v : Int) / 2 ^ (8 * i) = ((v / 2 ^ (8 * i) : Nat) : Int) := by norm_cast
  rw [e, IntKind.wrap_u8, UInt8.toNat_ofNat']
  omega
def ob8 (s : St) (i : Nat) : UInt8 := UInt8.ofNat ((gw s.l (i / 4)) >>> (24 - 8 * (i % 4))).toNat
def outL (s : St) (n : Nat) : List UInt8 := itN (fun i l => l.set i (ob8 s i)) n (uz 32)
@[simp] theorem outL_zero (s : St) : outL s 0 = uz 32 := rfl
theorem outL_len (s : St) (n : Nat) : (outL s n).length = 32 := by unfold outL; rw [itN_len (fun i l => by simp)]; simp [uz]
theorem outL_all (s : St) : outL s 32 = outB s := by
  unfold outL
  rw [itN_set _ _ _ (by simp [uz])]
  simp [uz, outB, ob8]
theorem len8_take {n i : Nat} (h : i < 8) : (len8 n).take (i + 1) = (len8 n).take i ++ [UInt8.ofNat (8 * n / 2 ^ (8 * (7 - i)))] := by
  rw [List.take_succ_eq_append_getElem (by rw [len8_len]; exact h)]
  simp [len8]
theorem padded {b : List UInt8} : b ++ [0x80] ++ List.replicate (zs b.length) 0 ++ (len8 b.length).take 8 = pad b := by
  rw [List.take_of_length_le (by rw [len8_len]; exact Nat.le_refl _)]; rfl
theorem hf_take (h : Half) : (h.1.map u8).take 16 = h.1.map u8 := List.take_of_length_le (by rw [List.length_map, h.2]; exact Nat.le_refl _)
theorem sha_out (b : List UInt8) : us (outB (blk (pad b) ((pad b).length / 64) St0)) = dg (sha b) := rfl
end Go.Pl

namespace Go.Pl
open Go Go.Hl

theorem insK_eq {l : List Ky} {k : Ky} {i : Nat} (hi : i ≤ l.length) (h0 : ∀ x ∈ l.take i, dlt (kid x) (kid k) = true) (h1 : ∀ h : i < l.length, dlt (kid l[i]) (kid k) = false) : l.take i ++ k :: l.drop i = insK l k := by
  have key : ∀ (l : List Ky) (i : Nat), i ≤ l.length → (∀ x ∈ l.take i, dlt (kid x) (kid k) = true) → (∀ h : i < l.length, dlt (kid l[i]) (kid k) = false) → (l.takeWhile fun x => dlt (kid x) (kid k)) = l.take i ∧ (l.dropWhile fun x => dlt (kid x) (kid k)) = l.drop i := by
    intro l
    induction l with
    | nil => intro i hi _ _; simp at hi; subst hi; exact ⟨rfl, rfl⟩
    | cons a l ih =>
      intro i hi h0 h1
      cases i with
      | zero =>
        have := h1 (by simp)
        simp only [List.getElem_cons_zero] at this
        simp [List.takeWhile_cons, List.dropWhile_cons, this]
      | succ i =>
        have ha := h0 a (by simp)
        obtain ⟨e1, e2⟩ := ih i (by simpa using hi) (fun x hx => h0 x (by simp [hx])) (fun h => h1 (by simpa using h))
        simp [List.takeWhile_cons, List.dropWhile_cons, ha, e1, e2]
  obtain ⟨e1, e2⟩ := key l i hi h0 h1
  unfold insK
  rw [e1, e2]
theorem insK_len (l : List Ky) (k : Ky) : (insK l k).length = l.length + 1 := by
  unfold insK
  have := congrArg List.length (List.takeWhile_append_dropWhile (p := fun x => dlt (kid x) (kid k)) (l := l))
  simp only [List.length_append, List.length_cons] at this ⊢
  omega
theorem insK_mem {l : List Ky} {k x : Ky} (h : x ∈ insK l k) : x ∈ l ∨ x = k := by
  unfold insK at h
  simp only [List.mem_append, List.mem_cons] at h
  rcases h with h | h | h
  · exact .inl ((List.takeWhile_sublist _).subset h)
  · exact .inr h
  · exact .inl ((List.dropWhile_sublist _).subset h)
theorem u8_nat (n : Nat) : IntKind.u8.wrap (n : Int) = ((UInt8.ofNat n).toNat : Int) := by
  rw [IntKind.wrap_u8, UInt8.toNat_ofNat']; omega
theorem hbuild_hf2 {n bytes : Nat} {d : TyD} {a b : Operand} {e : Operand → HV} {K : HV → Prop} (x y : UInt8) (ha : e a = .c (.int .u8 (x.toNat : Int))) (hb : e b = .c (.int .u8 (y.toNat : Int))) : hbuild ⟨n, bytes, d, hf zh⟩ [(0, a), (1, b)] e K = K (.c (hf ⟨[x, y] ++ List.replicate 14 0, by simp⟩)) := by
  have e1 : hfill e [(0, a), (1, b)] (((List.replicate 16 (0 : UInt8)).map u8).map .c) = some ((([x, y] ++ List.replicate 14 0).map u8).map .c) := by
    simp only [hfill, ha, hb]
    rfl
  simp only [hbuild, hf, zh, e1, hlift_some]
  rw [norm_cs]
theorem hbuild_pk {n bytes : Nat} {d : TyD} {a b : Operand} {e : Operand → HV} {K : HV → Prop} (h : Int) (r : Half) (ha : e a = .c (.int .i64 h)) (hb : e b = .c (hf r)) : hbuild ⟨n, bytes, d, Pk.cv ⟨0, zh⟩⟩ [(0, a), (1, b)] e K = K (.c (Pk.cv ⟨h, r⟩)) := by
  have e1 : hfill e [(0, a), (1, b)] ([CV.int .i64 0, hf zh].map .c) = some [.c (.int .i64 h), .c (hf r)] := by
    simp [hfill, ha, hb, HV.sto, HV.cells, CV.cells, hf_cells]
  simp only [hbuild, Pk.cv, e1, hlift_some]
  rfl
theorem hbuild_qt {n bytes : Nat} {d : TyD} {a b : Operand} {e : Operand → HV} {K : HV → Prop} (w : Word) (k : Int) (ha : e a = .c (.str w)) (hb : e b = .c (.int .i64 k)) : hbuild ⟨n, bytes, d, Qt.cv ⟨[], 0⟩⟩ [(0, a), (1, b)] e K = K (.c (Qt.cv ⟨w, k⟩)) := by
  have e1 : hfill e [(0, a), (1, b)] ([CV.str [], CV.int .i64 0].map .c) = some [.c (.str w), .c (.int .i64 k)] := by
    simp [hfill, ha, hb, HV.sto, HV.cells, CV.cells]
  simp only [hbuild, Qt.cv, e1, hlift_some]
  rfl
theorem cells_ky {l : List Ky} : (∀ v ∈ l.map Ky.cv, v.cells = 21) ↔ True := iff_true_intro fun v h => by obtain ⟨d, _, rfl⟩ := List.mem_map.1 h; exact Ky.cells d
theorem cells_rv {l : List Rv} : (∀ v ∈ l.map Rv.cv, v.cells = 33) ↔ True := iff_true_intro fun v h => by obtain ⟨d, _, rfl⟩ := List.mem_map.1 h; exact Rv.cells d
theorem cells_qt {l : List Qt} : (∀ v ∈ l.map Qt.cv, v.cells = 2) ↔ True := iff_true_intro fun v h => by obtain ⟨d, _, rfl⟩ := List.mem_map.1 h; exact Qt.cells d
theorem roles_short : ∀ w ∈ roles10, w.length ≤ 20 := by decide
theorem owners_short : ∀ w ∈ owners4, w.length ≤ 20 := by decide
theorem mOwner_mem (i : Nat) : mOwner i ∈ owners4 := by
  unfold mOwner
  have : i % 4 < 4 := Nat.mod_lt _ (by omega)
  rw [List.getD_eq_getElem?_getD, List.getElem?_eq_getElem (show i % 4 < owners4.length from this)]
  exact List.getElem_mem _
theorem step_mem : wStep ∈ roles10 := by decide
end Go.Pl

namespace Go.Pl
open Go Go.Hl

def zR : CV := .agg [.int .i64 0, .int .i64 0, .nils, .nils, .nils]
def kOk (k : Ky) : Prop := kSz k ∧ k.o ∈ owners4
def rOk (r : Rt) : Prop := rSz r ∧ ∀ k ∈ r.k, k.o ∈ owners4
theorem mKey_ok (i : Nat) (ws : List Word) (a b : Int) (hl : ws.length ≤ 11) (hm : ∀ w ∈ ws, w ∈ roles10) : kOk ⟨mPub i, mOwner i, ws, a, b⟩ := by
  have ho := mOwner_mem i
  refine ⟨⟨?_, by show ws.length < _; omega, fun w hw => ?_⟩, ho⟩
  · have := owners_short _ ho
    show (mOwner i).length < _
    omega
  · have := roles_short _ (hm w hw)
    omega
def qz (i : Nat) : List Qt := (roles10.take i).map fun w => ⟨w, 1⟩
theorem qz_succ {i : Nat} (h : i < roles10.length) : qz (i + 1) = qz i ++ [⟨roles10[i], 1⟩] := by
  unfold qz; rw [List.take_succ_eq_append_getElem h, List.map_append]; rfl
theorem qz_len {i : Nat} (h : i ≤ 10) : (qz i).length = i := by
  unfold qz
  rw [List.length_map, List.length_take, show roles10.length = 10 from rfl]; omega
theorem qz_all : qz 10 = full.q := rfl
def kz (i : Nat) : List Ky := (List.range i).foldl (fun l i => insK l (mKey i)) []
theorem kz_succ (i : Nat) : kz (i + 1) = insK (kz i) (mKey i) := by unfold kz; rw [List.range_succ, List.foldl_append]; rfl
theorem kz_len : ∀ i, (kz i).length = i
  | 0 => rfl
  | i + 1 => by rw [kz_succ, insK_len, kz_len i]
theorem kz_ok : ∀ i, ∀ k ∈ kz i, kOk k
  | 0, k, h => by simp [kz] at h
  | i + 1, k, h => by
    rw [kz_succ] at h
    rcases insK_mem h with h | rfl
    · exact kz_ok i k h
    · exact mKey_ok i roles10 0 maxN (by decide) (fun w hw => hw)
theorem kz_all : kz 5 = full.k := rfl
theorem full_ok (v : Int) : rOk ⟨v, full.e, full.q, full.k, full.x⟩ := by
  have hk := kz_ok 5
  rw [kz_all] at hk
  refine ⟨⟨⟨by rw [← qz_all, qz_len (by omega)]; omega, fun q hq => ?_⟩, ⟨by show full.k.length < _; rw [← kz_all, kz_len]; omega, fun k h => (hk k h).1⟩, by show (0 : Nat) < 2 ^ 40; omega⟩, fun k h => (hk k h).2⟩
  have : q ∈ roles10.map fun w => (⟨w, 1⟩ : Qt) := hq
  obtain ⟨w, hw, rfl⟩ := List.mem_map.1 this
  have := roles_short w hw
  show w.length < _
  omega
theorem rOk_of {v e : Int} {qs : List Qt} {ks : List Ky} {xs : List Rv} (hq : qs.length ≤ 10) (hqr : ∀ q ∈ qs, q.r ∈ roles10) (hk : ks.length ≤ 6) (hkk : ∀ k ∈ ks, kOk k) (hx : xs.length ≤ 1) : rOk ⟨v, e, qs, ks, xs⟩ := by
  refine ⟨⟨⟨by show qs.length < _; omega, fun q h => ?_⟩, ⟨by show ks.length < _; omega, fun k h => (hkk k h).1⟩, by show xs.length < _; omega⟩, fun k h => (hkk k h).2⟩
  have := roles_short _ (hqr q h)
  omega
end Go.Pl

namespace Go.Hl
open Go Go.RowKit Go.Sort Go.Proofs

def HSort (P : Program) (f : FuncId) (e : TypeId) (ss : List (List UInt8)) : Prop :=
  HFn P f [.own 0 ss.length] 1 (fob [(0, .row e 1 (ss.map .str))]) (fun r ob' => r = .tup [] ∧ ob' = fob [(0, .row e 1 ((ss.mergeSort leW).map .str))])

theorem repL_strs_inv {w : World} {O : Nat → Prop} : ∀ {ss : List (List UInt8)} {xs : List Value}, RepL w O (ss.map CV.str) xs → xs = ss.map skey
  | [], xs, h => by simpa [RepL] using h
  | s :: ss, xs, h => by
    simp only [List.map_cons, RepL, RepC] at h
    obtain ⟨c1, c2, rfl, rfl, h2⟩ := h
    rw [repL_strs_inv h2]
    rfl
theorem putCells_take (S : List (List UInt8)) (cur : Array Value) (h : S.length ≤ cur.size) : (putCells encStr 0 S.toArray cur).toList.take S.length = S.map skey := by
  apply List.ext_getElem?
  intro i
  by_cases hi : i < S.length
  · rw [List.getElem?_take, if_pos hi, List.getElem?_map]
    have hc : i < cur.size := by omega
    simp only [putCells, Array.getElem?_toList, Array.getElem?_mapIdx, Array.getElem?_eq_getElem hc, Option.map_some, List.getElem?_eq_getElem hi]
    rw [if_pos ⟨by omega, by simpa using hi⟩]
    simp [hi]
    rfl
  · rw [List.getElem?_take, if_neg hi, List.getElem?_eq_none (by simpa using hi)]

theorem hfn_sort {P : Program} {f : FuncId} {e : TypeId} {ss : List (List UInt8)} (hok : callOk P f = true)
    (hc : ∀ (blk cap : Nat) (w : World), Holds encStr w blk 0 ss.toArray → blk < w.heap.size → Calls P f #[.slice (some ⟨blk, 0, none⟩) ss.length cap] w fun x w' => x = .returned (.tuple #[]) ∧ ∃ n os, w' = grow (putRow encStr (Sort.ahead w n) blk 0 (ss.mergeSort leW).toArray) os)
    (hc0 : ∀ (cap : Nat) (w : World), Calls P f #[.slice none 0 cap] w fun x w' => x = .returned (.tuple #[]) ∧ w' = w) : HSort P f e ss := by
  refine ⟨fnOk_of hok, fun w ρ X xs hS hA hX => Does.of hok ?_⟩
  obtain ⟨h, ys, hρ, hL, hcs, how⟩ := hS.objs 0 (.row e 1 (ss.map .str)) rfl
  have hys := repL_strs_inv hL
  subst hys
  have hlen : hlen h = ss.length := by have := ownsRow_size how; simpa using this
  have hargs : xs = [h] := by
    rw [repHV_cons] at hA
    obtain ⟨y, zs, rfl, hy, hz⟩ := hA
    simp only [RepHV] at hz
    subst hz
    obtain ⟨hy1, hy2⟩ := hy
    have hag : Value.isAgg' y = false := by rw [← hy2]; rfl
    rw [cells_single hag] at hy1
    simp only [RepH, List.cons.injEq, and_true] at hy1
    obtain ⟨x, rfl, _, hx⟩ := hy1
    rw [(hx h hρ).2 hlen]
  subst hargs
  have hrt : ∀ w' : World, RepV w' ρ (Owned ρ X) (.tup []) (.tuple #[]) := fun w' => by
    refine ⟨?_, rfl⟩
    simp only [RepH]
    exact ⟨[], rfl, by simp [RepHV]⟩
  rcases how.2 with ⟨rfl, hz⟩ | ⟨g, cap, cur, rfl, hg0, hg, hcap, hmax, hcsz, htake⟩
  · have : ss = [] := List.eq_nil_of_length_eq_zero (by simpa using hz)
    subst this
    refine (hc0 0 w).mono ?_
    rintro ex w' ⟨rfl, rfl⟩
    refine ⟨.tup [], _, ρ, .tuple #[], rfl, ⟨rfl, rfl⟩, ⟨hrt _, by simpa using hS, by simp [HV.men, HV.menL], fun i o ho => ?_, Stay2.refl _ _, Moves.refl _ _⟩⟩
    simp only [fob_at, fob_nil] at ho
    split at ho
    · rename_i e0; subst e0; cases ho; exact ⟨by omega, trivial⟩
    · cases ho
  · simp only [List.length_map, Nat.mul_one] at hcap hcsz htake
    have hgs : g < w.heap.size := (Array.getElem?_eq_some_iff.1 hg).1
    have hH : Holds encStr w g 0 ss.toArray := fun j hj => by
      have hj' : j < ss.length := by simpa using hj
      refine ⟨?_, by simp [World.frozen?, hg]⟩
      have e1 : cur.toList[j]? = some (skey ss[j]) := by
        have : (cur.toList.take ss.length)[j]? = (ss.map skey)[j]? := by rw [htake]
        rw [List.getElem?_take, if_pos hj', List.getElem?_map, List.getElem?_eq_getElem hj'] at this
        simpa using this
      rw [Array.getElem?_toList] at e1
      simp only [World.cell?, hg, Nat.zero_add, e1]
      simp [hj']
      rfl
    simp only [List.length_map]
    refine (hc g cap w hH hgs).mono ?_
    rintro ex w' ⟨rfl, n, os, rfl⟩
    obtain ⟨S, hSd⟩ : ∃ S, S = ss.mergeSort leW := ⟨_, rfl⟩
    rw [← hSd]
    have hSl : S.length = ss.length := by rw [hSd]; exact (List.mergeSort_perm ss _).length_eq
    have hother : ∀ b, b < w.heap.size → b ≠ g → (grow (putRow encStr (Sort.ahead w n) g 0 S.toArray) os).heap[b]? = w.heap[b]? := fun b hb hne => by
      simp only [grow, putRow, mapBlock, Sort.ahead]
      rw [Array.getElem?_append_left (by simpa using hb), Array.getElem?_modify, if_neg (fun h => hne h.symm)]
    have hthis : (grow (putRow encStr (Sort.ahead w n) g 0 S.toArray) os).heap[g]? = some (.cells (putCells encStr 0 S.toArray cur) e (0, 0)) := by
      simp only [grow, putRow, mapBlock, Sort.ahead]
      rw [Array.getElem?_append_left (by simpa using hgs), Array.getElem?_modify, if_pos rfl, hg]
      rfl
    have hs2 : Stay2 w (Own ρ) (grow (putRow encStr (Sort.ahead w n) g 0 S.toArray) os) (Own ρ) := ⟨fun b hb hno => hother b hb (fun e' => hno ⟨0, _, hρ, by rw [e']; rfl⟩), fun _ h => .inl h, by simp [grow, putRow, mapBlock, Sort.ahead], rfl, rfl, rfl⟩
    refine ⟨.tup [], _, ρ, .tuple #[], rfl, ⟨rfl, rfl⟩, ⟨hrt _, ⟨fun i o ho => ?_, fun i hi => hS.none i ?_, hS.apart, hS.xb⟩, by simp [HV.men, HV.menL], fun i o ho => ?_, hs2, Moves.refl _ _⟩⟩
    · simp only [fob_at, fob_nil] at ho
      split at ho
      · rename_i e0; subst e0; cases ho
        refine ⟨_, S.map skey, hρ, repL_strs S, fun v hv => ?_, by simp, .inr ⟨g, cap, putCells encStr 0 S.toArray cur, by simp [hSl], Nat.zero_le _, hthis, by simp [hSl]; exact hcap, hmax, ?_, ?_⟩⟩
        · obtain ⟨s, _, rfl⟩ := List.mem_map.1 hv; rfl
        · rw [← hcsz]; simp [putCells]
        · simp only [List.length_map, Nat.mul_one]
          exact putCells_take S cur (by omega)
      · cases ho
    · simp only [fob_at, fob_nil] at hi ⊢
      split at hi
      · cases hi
      · rename_i hne; rw [if_neg hne]
    · simp only [fob_at, fob_nil] at ho
      split at ho
      · rename_i e0; subst e0; cases ho; exact ⟨by omega, trivial⟩
      · cases ho

theorem call_sort {P : Program} {av : List Nat} {f : FuncId} {ob : Ob} {nid id n : Nat} {K : HV → Ob → Prop} {e : TypeId} {ss : List (List UInt8)} (h : HSort P f e ss) (hid : ob id = some (.row e 1 (ss.map .str))) (hn : n = ss.length) (hav : id ∉ av)
    (hfree : Free4 ob nid) (hK : K (.tup []) (upd ob id (some (.row e 1 ((ss.mergeSort leW).map .str))))) : HCall P av f [.own id n] ob nid K := by
  have h0 : sub [id] nid 0 = id := rfl
  subst hn
  refine ⟨[id], _, _, _, h, by simpa using locOk_take e 1 ss.length (ss.map .str), ⟨by simp, by simpa using hav⟩, by simp only [HV.renL, HV.ren, h0], fun j o hj => ?_, fun r lob' hR _ => ?_⟩
  · simp only [fob_at, fob_nil] at hj
    split at hj
    · rename_i e0; subst e0; cases hj; simpa [HO.ren] using hid
    · cases hj
  · obtain ⟨rfl, rfl⟩ := hR
    have e : obAfter ob [id] nid (fob [(0, .row e 1 ((ss.mergeSort leW).map .str))]) = upd ob id (some (.row e 1 ((ss.mergeSort leW).map .str))) := by
      funext i
      by_cases e : i = id
      · subst e
        simp only [obAfter, upd_same, List.findIdx?_cons, beq_self_eq_true, if_true, fob_at, Option.map_some]
        rfl
      · have e' : (id == i) = false := by simp; exact fun h => e h.symm
        simp only [obAfter, List.findIdx?_cons, e', List.findIdx?_nil, Option.map_none, upd_ne _ _ e]
        simp only [Bool.false_eq_true, if_false]
        split
        · rename_i hr
          have h1 : [id].length + (i - nid) ≠ 0 := by simp
          rw [fob_at, if_neg h1, fob_nil]
          have : i = nid ∨ i = nid + 1 ∨ i = nid + 2 ∨ i = nid + 3 := by omega
          rcases this with rfl | rfl | rfl | rfl
          · exact hfree.1.symm
          · exact hfree.2.1.symm
          · exact hfree.2.2.1.symm
          · exact hfree.2.2.2.symm
        · rfl
    rw [e]
    exact hK
end Go.Hl

namespace Go.Hl
open Go Go.RowKit Go.Sort Go.Proofs

def leZ (x y : Int) : Bool := decide (x ≤ y)
theorem repL_ints {w : World} {O : Nat → Prop} : ∀ (l : List Int), RepL w O (l.map (CV.int .i64)) (l.map (Value.int .i64))
  | [] => by simp [RepL]
  | x :: l => by simp only [List.map_cons, RepL]; exact ⟨[Value.int .i64 x], _, rfl, by simp [RepC], repL_ints l⟩
def HSortI (P : Program) (f : FuncId) (e : TypeId) (ss : List Int) : Prop :=
  HFn P f [.own 0 ss.length] 1 (fob [(0, .row e 1 (ss.map (.int .i64)))]) (fun r ob' => r = .tup [] ∧ ob' = fob [(0, .row e 1 ((ss.mergeSort leZ).map (.int .i64)))])

theorem repL_ints_inv {w : World} {O : Nat → Prop} : ∀ {ss : List Int} {xs : List Value}, RepL w O (ss.map (CV.int .i64)) xs → xs = ss.map (Value.int .i64)
  | [], xs, h => by simpa [RepL] using h
  | s :: ss, xs, h => by
    simp only [List.map_cons, RepL, RepC] at h
    obtain ⟨c1, c2, rfl, rfl, h2⟩ := h
    rw [repL_ints_inv h2]
    rfl
theorem putCells_takeI (S : List Int) (cur : Array Value) (h : S.length ≤ cur.size) : (putCells (Value.int .i64) 0 S.toArray cur).toList.take S.length = S.map (Value.int .i64) := by
  apply List.ext_getElem?
  intro i
  by_cases hi : i < S.length
  · rw [List.getElem?_take, if_pos hi, List.getElem?_map]
    have hc : i < cur.size := by omega
    simp only [putCells, Array.getElem?_toList, Array.getElem?_mapIdx, Array.getElem?_eq_getElem hc, Option.map_some, List.getElem?_eq_getElem hi]
    rw [if_pos ⟨by omega, by simpa using hi⟩]
    simp [hi]
  · rw [List.getElem?_take, if_neg hi, List.getElem?_eq_none (by simpa using hi)]

theorem hfn_sorti {P : Program} {f : FuncId} {e : TypeId} {ss : List Int} (hok : callOk P f = true)
    (hc : ∀ (blk cap : Nat) (w : World), Holds (Value.int .i64) w blk 0 ss.toArray → blk < w.heap.size → Calls P f #[.slice (some ⟨blk, 0, none⟩) ss.length cap] w fun x w' => x = .returned (.tuple #[]) ∧ ∃ n os, w' = grow (putRow (Value.int .i64) (Sort.ahead w n) blk 0 (ss.mergeSort leZ).toArray) os)
    (hc0 : ∀ (cap : Nat) (w : World), Calls P f #[.slice none 0 cap] w fun x w' => x = .returned (.tuple #[]) ∧ w' = w) : HSortI P f e ss := by
  refine ⟨fnOk_of hok, fun w ρ X xs hS hA hX => Does.of hok ?_⟩
  obtain ⟨h, ys, hρ, hL, hcs, how⟩ := hS.objs 0 (.row e 1 (ss.map (.int .i64))) rfl
  have hys := repL_ints_inv hL
  subst hys
  have hlen : hlen h = ss.length := by have := ownsRow_size how; simpa using this
  have hargs : xs = [h] := by
    rw [repHV_cons] at hA
    obtain ⟨y, zs, rfl, hy, hz⟩ := hA
    simp only [RepHV] at hz
    subst hz
    obtain ⟨hy1, hy2⟩ := hy
    have hag : Value.isAgg' y = false := by rw [← hy2]; rfl
    rw [cells_single hag] at hy1
    simp only [RepH, List.cons.injEq, and_true] at hy1
    obtain ⟨x, rfl, _, hx⟩ := hy1
    rw [(hx h hρ).2 hlen]
  subst hargs
  have hrt : ∀ w' : World, RepV w' ρ (Owned ρ X) (.tup []) (.tuple #[]) := fun w' => by
    refine ⟨?_, rfl⟩
    simp only [RepH]
    exact ⟨[], rfl, by simp [RepHV]⟩
  rcases how.2 with ⟨rfl, hz⟩ | ⟨g, cap, cur, rfl, hg0, hg, hcap, hmax, hcsz, htake⟩
  · have : ss = [] := List.eq_nil_of_length_eq_zero (by simpa using hz)
    subst this
    refine (hc0 0 w).mono ?_
    rintro ex w' ⟨rfl, rfl⟩
    refine ⟨.tup [], _, ρ, .tuple #[], rfl, ⟨rfl, rfl⟩, ⟨hrt _, by simpa using hS, by simp [HV.men, HV.menL], fun i o ho => ?_, Stay2.refl _ _, Moves.refl _ _⟩⟩
    simp only [fob_at, fob_nil] at ho
    split at ho
    · rename_i e0; subst e0; cases ho; exact ⟨by omega, trivial⟩
    · cases ho
  · simp only [List.length_map, Nat.mul_one] at hcap hcsz htake
    have hgs : g < w.heap.size := (Array.getElem?_eq_some_iff.1 hg).1
    have hH : Holds (Value.int .i64) w g 0 ss.toArray := fun j hj => by
      have hj' : j < ss.length := by simpa using hj
      refine ⟨?_, by simp [World.frozen?, hg]⟩
      have e1 : cur.toList[j]? = some (Value.int .i64 ss[j]) := by
        have : (cur.toList.take ss.length)[j]? = (ss.map (Value.int .i64))[j]? := by rw [htake]
        rw [List.getElem?_take, if_pos hj', List.getElem?_map, List.getElem?_eq_getElem hj'] at this
        simpa using this
      rw [Array.getElem?_toList] at e1
      simp only [World.cell?, hg, Nat.zero_add, e1]
      simp [hj']
    simp only [List.length_map]
    refine (hc g cap w hH hgs).mono ?_
    rintro ex w' ⟨rfl, n, os, rfl⟩
    obtain ⟨S, hSd⟩ : ∃ S, S = ss.mergeSort leZ := ⟨_, rfl⟩
    rw [← hSd]
    have hSl : S.length = ss.length := by rw [hSd]; exact (List.mergeSort_perm ss _).length_eq
    have hother : ∀ b, b < w.heap.size → b ≠ g → (grow (putRow (Value.int .i64) (Sort.ahead w n) g 0 S.toArray) os).heap[b]? = w.heap[b]? := fun b hb hne => by
      simp only [grow, putRow, mapBlock, Sort.ahead]
      rw [Array.getElem?_append_left (by simpa using hb), Array.getElem?_modify, if_neg (fun h => hne h.symm)]
    have hthis : (grow (putRow (Value.int .i64) (Sort.ahead w n) g 0 S.toArray) os).heap[g]? = some (.cells (putCells (Value.int .i64) 0 S.toArray cur) e (0, 0)) := by
      simp only [grow, putRow, mapBlock, Sort.ahead]
      rw [Array.getElem?_append_left (by simpa using hgs), Array.getElem?_modify, if_pos rfl, hg]
      rfl
    have hs2 : Stay2 w (Own ρ) (grow (putRow (Value.int .i64) (Sort.ahead w n) g 0 S.toArray) os) (Own ρ) := ⟨fun b hb hno => hother b hb (fun e' => hno ⟨0, _, hρ, by rw [e']; rfl⟩), fun _ h => .inl h, by simp [grow, putRow, mapBlock, Sort.ahead], rfl, rfl, rfl⟩
    refine ⟨.tup [], _, ρ, .tuple #[], rfl, ⟨rfl, rfl⟩, ⟨hrt _, ⟨fun i o ho => ?_, fun i hi => hS.none i ?_, hS.apart, hS.xb⟩, by simp [HV.men, HV.menL], fun i o ho => ?_, hs2, Moves.refl _ _⟩⟩
    · simp only [fob_at, fob_nil] at ho
      split at ho
      · rename_i e0; subst e0; cases ho
        refine ⟨_, S.map (Value.int .i64), hρ, repL_ints S, fun v hv => ?_, by simp, .inr ⟨g, cap, putCells (Value.int .i64) 0 S.toArray cur, by simp [hSl], Nat.zero_le _, hthis, by simp [hSl]; exact hcap, hmax, ?_, ?_⟩⟩
        · obtain ⟨s, _, rfl⟩ := List.mem_map.1 hv; rfl
        · rw [← hcsz]; simp [putCells]
        · simp only [List.length_map, Nat.mul_one]
          exact putCells_takeI S cur (by omega)
      · cases ho
    · simp only [fob_at, fob_nil] at hi ⊢
      split at hi
      · cases hi
      · rename_i hne; rw [if_neg hne]
    · simp only [fob_at, fob_nil] at ho
      split at ho
      · rename_i e0; subst e0; cases ho; exact ⟨by omega, trivial⟩
      · cases ho

theorem call_sorti {P : Program} {av : List Nat} {f : FuncId} {ob : Ob} {nid id n : Nat} {K : HV → Ob → Prop} {e : TypeId} {ss : List Int} (h : HSortI P f e ss) (hid : ob id = some (.row e 1 (ss.map (.int .i64)))) (hn : n = ss.length) (hav : id ∉ av)
    (hfree : Free4 ob nid) (hK : K (.tup []) (upd ob id (some (.row e 1 ((ss.mergeSort leZ).map (.int .i64)))))) : HCall P av f [.own id n] ob nid K := by
  have h0 : sub [id] nid 0 = id := rfl
  subst hn
  refine ⟨[id], _, _, _, h, by simpa using locOk_take e 1 ss.length (ss.map (.int .i64)), ⟨by simp, by simpa using hav⟩, by simp only [HV.renL, HV.ren, h0], fun j o hj => ?_, fun r lob' hR _ => ?_⟩
  · simp only [fob_at, fob_nil] at hj
    split at hj
    · rename_i e0; subst e0; cases hj; simpa [HO.ren] using hid
    · cases hj
  · obtain ⟨rfl, rfl⟩ := hR
    have e : obAfter ob [id] nid (fob [(0, .row e 1 ((ss.mergeSort leZ).map (.int .i64)))]) = upd ob id (some (.row e 1 ((ss.mergeSort leZ).map (.int .i64)))) := by
      funext i
      by_cases e : i = id
      · subst e
        simp only [obAfter, upd_same, List.findIdx?_cons, beq_self_eq_true, if_true, fob_at, Option.map_some]
        rfl
      · have e' : (id == i) = false := by simp; exact fun h => e h.symm
        simp only [obAfter, List.findIdx?_cons, e', List.findIdx?_nil, Option.map_none, upd_ne _ _ e]
        simp only [Bool.false_eq_true, if_false]
        split
        · rename_i hr
          have h1 : [id].length + (i - nid) ≠ 0 := by simp
          rw [fob_at, if_neg h1, fob_nil]
          have : i = nid ∨ i = nid + 1 ∨ i = nid + 2 ∨ i = nid + 3 := by omega
          rcases this with rfl | rfl | rfl | rfl
          · exact hfree.1.symm
          · exact hfree.2.1.symm
          · exact hfree.2.2.1.symm
          · exact hfree.2.2.2.symm
        · rfl
    rw [e]
    exact hK
end Go.Hl

namespace Go.Pl
open Go Go.Hl

def dedupZ : List Int → List Int
  | a :: b :: l => if a == b then dedupZ (b :: l) else a :: dedupZ (b :: l)
  | l => l
theorem mem_dedupZ : ∀ {l : List Int} {w : Int}, w ∈ dedupZ l ↔ w ∈ l
  | [], w => by simp [dedupZ]
  | [a], w => by simp [dedupZ]
  | a :: b :: l, w => by
    have ih := mem_dedupZ (l := b :: l) (w := w)
    simp only [dedupZ]
    split
    · rename_i h
      have : a = b := by simpa using h
      subst this
      rw [ih]; simp
    · rw [List.mem_cons, ih, List.mem_cons (b := a)]
theorem dedupZ_snoc (a b : Int) : ∀ p : List Int, dedupZ (p ++ [a, b]) = if a == b then dedupZ (p ++ [a]) else dedupZ (p ++ [a]) ++ [b]
  | [] => by
    simp only [List.nil_append, dedupZ]
    split
    · rename_i h
      rw [eq_of_beq h]
    · rfl
  | [x] => by
    have ih := dedupZ_snoc a b []
    simp only [List.nil_append] at ih
    simp only [List.cons_append, List.nil_append]
    have e1 : dedupZ (x :: a :: [b]) = if x == a then dedupZ [a, b] else x :: dedupZ [a, b] := by rw [dedupZ]
    have e2 : dedupZ (x :: a :: []) = if x == a then dedupZ [a] else x :: dedupZ [a] := by rw [dedupZ]
    rw [e1, e2, ih]
    by_cases h1 : (x == a) = true <;> by_cases h2 : (a == b) = true <;> simp [h1, h2]
  | x :: y :: p => by
    have ih := dedupZ_snoc a b (y :: p)
    simp only [List.cons_append] at ih ⊢
    have e1 : dedupZ (x :: y :: (p ++ [a, b])) = if x == y then dedupZ (y :: (p ++ [a, b])) else x :: dedupZ (y :: (p ++ [a, b])) := by rw [dedupZ]
    have e2 : dedupZ (x :: y :: (p ++ [a])) = if x == y then dedupZ (y :: (p ++ [a])) else x :: dedupZ (y :: (p ++ [a])) := by rw [dedupZ]
    rw [e1, e2, ih]
    by_cases h1 : (x == y) = true <;> by_cases h2 : (a == b) = true <;> simp [h1, h2]
theorem dedupZ_take {l : List Int} {j : Nat} (h0 : 1 ≤ j) (h : j < l.length) : dedupZ (l.take (j + 1)) = if l[j] == l[j - 1] then dedupZ (l.take j) else dedupZ (l.take j) ++ [l[j]] := by
  have e1 : l.take j = l.take (j - 1) ++ [l[j - 1]] := by
    have := List.take_succ_eq_append_getElem (show j - 1 < l.length by omega)
    rwa [show j - 1 + 1 = j by omega] at this
  rw [List.take_succ_eq_append_getElem h, e1, List.append_assoc]
  have := dedupZ_snoc l[j - 1] l[j] (l.take (j - 1))
  simp only [List.singleton_append]
  rw [this]
  have e2 : (l[j - 1] == l[j]) = (l[j] == l[j - 1]) := by rw [Bool.eq_iff_iff]; simp only [beq_iff_eq]; exact eq_comm
  rw [e2]
theorem dedupZ_short : ∀ {l : List Int}, l.length < 2 → dedupZ l = l
  | [], _ => rfl
  | [_], _ => rfl
  | _ :: _ :: _, h => by simp at h; omega
theorem dedupZ_keep {l : List Int} {k : Nat} (h0 : 1 ≤ k) (h : k < l.length) (hne : (l[k] == l[k - 1]) = false) (hd : dedupZ (l.take k) = l.take k) : dedupZ (l.take (k + 1)) = l.take (k + 1) := by
  rw [dedupZ_take h0 h, hne, hd, List.take_succ_eq_append_getElem h]; rfl
theorem dedupZ_skip {l : List Int} {k : Nat} (h0 : 1 ≤ k) (h : k < l.length) (he : (l[k] == l[k - 1]) = true) : dedupZ (l.take (k + 1)) = dedupZ (l.take k) := by
  rw [dedupZ_take h0 h, he]; rfl
theorem dedupZ_put {l : List Int} {k : Nat} (h0 : 1 ≤ k) (h : k < l.length) (hne : (l[k] == l[k - 1]) = false) : dedupZ (l.take (k + 1)) = dedupZ (l.take k) ++ [l[k]] := by
  rw [dedupZ_take h0 h, hne]; rfl

theorem dedupZ_ms {l : List Int} {x : Int} : x ∈ dedupZ (l.mergeSort leZ) ↔ x ∈ l := by rw [mem_dedupZ]; exact (List.mergeSort_perm l leZ).mem_iff

theorem cells_i64 {l : List Int} : (∀ v ∈ l.map (CV.int .i64), v.cells = 1) ↔ True := iff_true_intro fun v h => by obtain ⟨d, _, rfl⟩ := List.mem_map.1 h; rfl
def k0 : Ky := ⟨⟨0, zh⟩, [], [], 0, 0⟩
def tms (r : Rt) (d : Dig) : List Int := if (findK r.k d).isSome then [((findK r.k d).getD k0).fr, ((findK r.k d).getD k0).un] ++ (if revS r.x d then [revZ r.x d] else []) else []
def rawT (r : Rt) (l : List Dig) : List Int := r.e :: l.flatMap (tms r)
def timesL (r : Rt) (l : List Dig) : List Int := dedupZ ((rawT r l).mergeSort leZ)
def timesV (r : Rt) (l : List Dig) : List Int := if validR r then timesL r l else []
theorem mem_timesL {r : Rt} {l : List Dig} {x : Int} : x ∈ timesL r l ↔ x ∈ rawT r l := dedupZ_ms
theorem rawT_take {r : Rt} {l : List Dig} {i : Nat} (h : i < l.length) : rawT r (l.take (i + 1)) = rawT r (l.take i) ++ tms r l[i] := by
  unfold rawT
  rw [List.take_succ_eq_append_getElem h, List.flatMap_append]
  simp
theorem tms_len (r : Rt) (d : Dig) : (tms r d).length ≤ 3 := by
  unfold tms
  split
  · split <;> simp
  · simp
theorem rawT_len (r : Rt) : ∀ l : List Dig, (rawT r l).length ≤ 1 + 3 * l.length
  | [] => by simp [rawT]
  | d :: l => by
    have ih := rawT_len r l
    have := tms_len r d
    simp only [rawT, List.flatMap_cons, List.length_cons, List.length_append] at ih ⊢
    omega
theorem full_valid_v {v : Int} (h1 : 1 ≤ v) (h2 : v ≤ maxN) : validR ⟨v, full.e, full.q, full.k, full.x⟩ = true := by
  have h := full_valid
  unfold validR at h ⊢
  simp only [Bool.and_eq_true, decide_eq_true_eq] at h ⊢
  exact ⟨⟨h1, h2⟩, h.2⟩
end Go.Pl

namespace Go.Pl
open Go Go.Hl

def rMid (r : Rt) : Prop := (r.q.length ≤ 12 ∧ ∀ q ∈ r.q, q.r.length ≤ 300) ∧ (r.k.length ≤ 32 ∧ ∀ k ∈ r.k, k.o.length ≤ 300 ∧ k.rs.length ≤ 30 ∧ ∀ w ∈ k.rs, w.length ≤ 300) ∧ r.x.length ≤ 65
theorem rMid.sz {r : Rt} (h : rMid r) : rSz r := by
  obtain ⟨⟨h1, h2⟩, ⟨h3, h4⟩, h5⟩ := h
  refine ⟨⟨by omega, fun q hq => by have := h2 q hq; omega⟩, ⟨by omega, fun k hk => ?_⟩, by omega⟩
  obtain ⟨k1, k2, k3⟩ := h4 k hk
  exact ⟨by omega, by omega, fun w hw => by have := k3 w hw; omega⟩
theorem mem_set_or {α : Type} {l : List α} {i : Nat} {x y : α} (h : y ∈ l.set i x) : y ∈ l ∨ y = x := by
  rcases List.mem_or_eq_of_mem_set h with h | h
  · exact .inl h
  · exact .inr h
theorem rMid.setK {r : Rt} (h : rMid r) (i : Nat) (k' : Ky) (h1 : k'.o.length ≤ 300) (h2 : k'.rs.length ≤ 30) (h3 : ∀ w ∈ k'.rs, w.length ≤ 300) : rMid ⟨r.v, r.e, r.q, r.k.set i k', r.x⟩ := by
  refine ⟨h.1, ⟨by show (r.k.set i k').length ≤ 32; rw [List.length_set]; exact h.2.1.1, fun k hk => ?_⟩, h.2.2⟩
  rcases mem_set_or hk with hk | rfl
  · exact h.2.1.2 k hk
  · exact ⟨h1, h2, h3⟩
theorem rMid.setQ {r : Rt} (h : rMid r) (i : Nat) (q' : Qt) (h1 : q'.r.length ≤ 300) : rMid ⟨r.v, r.e, r.q.set i q', r.k, r.x⟩ := by
  refine ⟨⟨by show (r.q.set i q').length ≤ 12; rw [List.length_set]; exact h.1.1, fun q hq => ?_⟩, h.2.1, h.2.2⟩
  rcases mem_set_or hq with hq | rfl
  · exact h.1.2 q hq
  · exact h1
theorem Ky.set_ph (x : Ky) (y : HV) : CV.setAt 0 1 y x.cv = some (.agg [.agg [y, .c (hf x.p.r)], .c (.str x.o), .c (.slc (x.rs.map .str)), .c (.int .i64 x.fr), .c (.int .i64 x.un)]) := by
  simp [Ky.cv, Pk.cv, CV.setAt, CV.setAtL, CV.cells, CV.cellsL, hf_cells]
end Go.Pl

namespace Go.Pl
open Go Go.Hl

def lightK (k : Ky) : Bool := decide (k.rs.length ≤ 30) && decide (k.o.length ≤ 300)
def lightB (r : Rt) : Bool := decide (r.q.length ≤ 30) && (decide (r.k.length ≤ 50) && (decide (r.x.length ≤ 100) && r.k.all lightK))
theorem gt_code (a b : Nat) : decide (a ≤ b) = !decide ((b : Int) < a) := by rw [Bool.eq_iff_iff]; simp
theorem light_code (r : Rt) : lightB r = (!decide ((30 : Int) < r.q.length) && (!decide ((50 : Int) < r.k.length) && (!decide ((100 : Int) < r.x.length) && r.k.all lightK))) := by
  unfold lightB; rw [gt_code, gt_code, gt_code]; rfl
theorem lightK_code (k : Ky) : lightK k = (!decide ((30 : Int) < k.rs.length) && !decide ((300 : Int) < k.o.length)) := by
  unfold lightK; rw [gt_code, gt_code]; rfl
theorem light_bad {r : Rt} {i : Nat} (hi : i < r.k.length) (h : lightK r.k[i] = false) : lightB r = false := by
  unfold lightB
  have : r.k.all lightK = false := List.all_eq_false.2 ⟨_, List.getElem_mem hi, by rw [h]; simp⟩
  rw [this]; simp
def rRaw (r : Rt) : Prop := (r.q.length ≤ maxLen ∧ ∀ q ∈ r.q, q.r.length ≤ maxLen) ∧ (r.k.length ≤ maxLen ∧ ∀ k ∈ r.k, k.o.length ≤ maxLen ∧ k.rs.length ≤ maxLen ∧ ∀ w ∈ k.rs, w.length ≤ maxLen) ∧ r.x.length ≤ maxLen
theorem light_sz {r : Rt} (h : rRaw r) (hl : lightB r = true) : rSz r := by
  unfold lightB at hl
  simp only [Bool.and_eq_true, decide_eq_true_eq, List.all_eq_true] at hl
  obtain ⟨h1, h2, h3, h4⟩ := hl
  simp only [lightK, Bool.and_eq_true, decide_eq_true_eq] at h4
  have e : maxLen = 9223372036854775807 := rfl
  refine ⟨⟨by omega, fun q hq => ?_⟩, ⟨by omega, fun k hk => ?_⟩, by omega⟩
  · have := h.1.2 q hq; omega
  · obtain ⟨k1, k2⟩ := h4 k hk
    exact ⟨by omega, by omega, fun w hw => by have := (h.2.1.2 k hk).2.2 w hw; omega⟩
theorem nameB_short {w : Word} (h : nameB w = true) : w.length ≤ 64 := by
  cases w with
  | nil => simp
  | cons c s =>
    unfold nameB at h
    simp only [Bool.and_eq_true, decide_eq_true_eq] at h
    exact h.1
theorem rMid_of_valid {r : Rt} (h : validR r = true) : rMid r ∧ 0 < r.k.length ∧ 0 < r.q.length ∧ r.x.length ≤ 64 := by
  unfold validR quotasB keysB revsB at h
  simp only [Bool.and_eq_true, decide_eq_true_eq, List.all_eq_true] at h
  obtain ⟨-, -, ⟨hq1, -, hq2⟩, ⟨hk1, -, hk2⟩, ⟨-, -, hx⟩, hn1, hn2⟩ := h
  refine ⟨⟨⟨hq2, fun q hq => ?_⟩, ⟨hk2, fun k hk => ?_⟩, by omega⟩, ?_, ?_, hx⟩
  · have := hq1 q hq
    unfold quotaB at this
    simp only [Bool.and_eq_true] at this
    have := nameB_short this.1
    omega
  · have := hk1 k hk
    unfold keyB namesB at this
    simp only [Bool.and_eq_true, decide_eq_true_eq, List.all_eq_true] at this
    obtain ⟨-, h1, ⟨-, h2⟩, ⟨h3, -⟩, -⟩ := this
    have := nameB_short h1
    exact ⟨by omega, by omega, fun w hw => by have := nameB_short (h3 w hw); omega⟩
  · rcases Nat.eq_zero_or_pos r.k.length with e | e
    · have e2 : r.k = [] := List.length_eq_zero_iff.1 e
      rw [e2] at hn2
      simp [ownB, ownF, setW] at hn2
      omega
    · exact e
  · rcases Nat.eq_zero_or_pos r.q.length with e | e
    · have e2 : r.q = [] := List.length_eq_zero_iff.1 e
      rw [e2] at hn1
      simp [need] at hn1
    · exact e

theorem cells_rt {l : List Rt} : (∀ v ∈ l.map Rt.cv, v.cells = 5) ↔ True := iff_true_intro fun v h => by obtain ⟨d, _, rfl⟩ := List.mem_map.1 h; exact Rt.cells d

def addT : List Int → Int → List Int
  | [], t => [t]
  | a :: l, t => if a < t then a :: addT l t else if a = t then a :: l else t :: a :: l
def AscZ (l : List Int) : Prop := l.Pairwise (· < ·)
theorem mem_addT : ∀ {l : List Int} {t x : Int}, x ∈ addT l t ↔ x ∈ l ∨ x = t
  | [], t, x => by simp [addT]
  | a :: l, t, x => by
    have ih := mem_addT (l := l) (t := t) (x := x)
    unfold addT
    split
    · simp only [List.mem_cons, ih, or_assoc]
    · split
      · rename_i h
        subst h
        simp only [List.mem_cons]
        constructor
        · exact .inl
        · rintro (h | h)
          · exact h
          · exact .inl h
      · simp only [List.mem_cons]
        constructor
        · rintro (h | h)
          · exact .inr h
          · exact .inl h
        · rintro (h | h)
          · exact .inr h
          · exact .inl h
theorem asc_addT : ∀ {l : List Int} {t : Int}, AscZ l → AscZ (addT l t)
  | [], t, _ => by simp [addT, AscZ]
  | a :: l, t, h => by
    obtain ⟨h1, h2⟩ := List.pairwise_cons.1 h
    have ih := asc_addT (t := t) h2
    unfold addT
    split
    · rename_i hlt
      refine List.pairwise_cons.2 ⟨fun x hx => ?_, ih⟩
      rcases mem_addT.1 hx with hx | rfl
      · exact h1 x hx
      · exact hlt
    · split
      · exact h
      · refine List.pairwise_cons.2 ⟨fun x hx => ?_, h⟩
        rcases List.mem_cons.1 hx with rfl | hx
        · omega
        · have := h1 x hx; omega
theorem addT_len : ∀ (l : List Int) (t : Int), (addT l t).length ≤ l.length + 1
  | [], t => by simp [addT]
  | a :: l, t => by
    have ih := addT_len l t
    unfold addT
    split
    · simp only [List.length_cons]; omega
    · split
      · simp
      · simp
theorem addT_same : ∀ {l : List Int} {t : Int} {i : Nat} (hi : i < l.length), (∀ j (h : j < i), l[j] < t) → l[i] = t → addT l t = l
  | [], t, i, hi, _, _ => by simp at hi
  | a :: l, t, 0, hi, _, h => by
    have : a = t := h
    subst this
    simp [addT]
  | a :: l, t, i + 1, hi, h0, h => by
    have h1 : a < t := h0 0 (by omega)
    have ih := addT_same (l := l) (t := t) (i := i) (by simpa using hi) (fun j hj => h0 (j + 1) (by omega)) h
    simp [addT, h1, ih]
theorem addT_new : ∀ {l : List Int} {t : Int} {i : Nat} (_ : i ≤ l.length), (∀ j (h : j < i) (h' : j < l.length), l[j] < t) → (∀ _ : i < l.length, ¬ l[i] < t ∧ ¬ l[i] = t) → addT l t = l.take i ++ t :: l.drop i
  | [], t, i, hi, _, _ => by
    have : i = 0 := by simpa using hi
    subst this
    simp [addT]
  | a :: l, t, 0, hi, _, h => by
    obtain ⟨h1, h2⟩ := h (by simp)
    have h1' : ¬ a < t := h1
    have h2' : ¬ a = t := h2
    simp [addT, h1', h2']
  | a :: l, t, i + 1, hi, h0, h => by
    have h1 : a < t := h0 0 (by omega) (by simp)
    have ih := addT_new (l := l) (t := t) (i := i) (by simpa using hi) (fun j hj hj' => h0 (j + 1) (by omega) (by simpa using hj')) (fun h' => h (by simpa using h'))
    simp [addT, h1, ih]
def rtL (r : Rt) (l : List Dig) : List Int := (l.flatMap (tms r)).foldl addT [r.e]
theorem rtL_take {r : Rt} {l : List Dig} {i : Nat} (h : i < l.length) : rtL r (l.take (i + 1)) = (tms r l[i]).foldl addT (rtL r (l.take i)) := by
  unfold rtL
  rw [List.take_succ_eq_append_getElem h, List.flatMap_append, List.foldl_append]
  simp
theorem foldT_spec : ∀ (m a : List Int), AscZ a → AscZ (m.foldl addT a) ∧ ∀ x, x ∈ m.foldl addT a ↔ x ∈ a ∨ x ∈ m
  | [], a, h => ⟨h, fun x => by simp⟩
  | t :: m, a, h => by
    obtain ⟨h1, h2⟩ := foldT_spec m (addT a t) (asc_addT h)
    refine ⟨h1, fun x => ?_⟩
    rw [List.foldl_cons, h2, mem_addT, List.mem_cons, or_assoc]
theorem foldT_len : ∀ (m a : List Int), (m.foldl addT a).length ≤ a.length + m.length
  | [], a => by simp
  | t :: m, a => by
    have h1 := foldT_len m (addT a t)
    have h2 := addT_len a t
    rw [List.foldl_cons, List.length_cons]
    omega
theorem rtL_len (r : Rt) (l : List Dig) : (rtL r l).length ≤ 1 + 3 * l.length := by
  have h1 := rawT_len r l
  have h2 := foldT_len (l.flatMap (tms r)) [r.e]
  simp only [rawT, List.length_cons, List.length_nil] at h1 h2
  unfold rtL
  omega
theorem asc_dedupZ : ∀ {l : List Int}, l.Pairwise (· ≤ ·) → AscZ (dedupZ l)
  | [], _ => List.Pairwise.nil
  | [a], _ => by simp [dedupZ, AscZ]
  | a :: b :: l, h => by
    obtain ⟨h1, h2⟩ := List.pairwise_cons.1 h
    have ih := asc_dedupZ h2
    simp only [dedupZ]
    split
    · exact ih
    · rename_i hne
      refine List.pairwise_cons.2 ⟨fun w hw => ?_, ih⟩
      rw [mem_dedupZ] at hw
      have hab : a ≤ b := h1 b (by simp)
      have hne' : a ≠ b := by simpa using hne
      rcases List.mem_cons.1 hw with rfl | hw
      · omega
      · have := (List.pairwise_cons.1 h2).1 w hw
        omega
theorem ascZ_ext {a b : List Int} (ha : AscZ a) (hb : AscZ b) (h : ∀ w, w ∈ a ↔ w ∈ b) : a = b := by
  have nd : ∀ {l : List Int}, AscZ l → l.Nodup := fun hl => hl.imp (fun {x y} h e => by omega)
  refine List.Perm.eq_of_pairwise (le := (· < ·)) (fun x y _ _ h1 h2 => by omega) ha hb ((List.perm_ext_iff_of_nodup (nd ha) (nd hb)).2 h)
theorem rtL_eq (r : Rt) (l : List Dig) : rtL r l = timesL r l := by
  have hs : ((rawT r l).mergeSort leZ).Pairwise (· ≤ ·) := by
    have h1 : ((rawT r l).mergeSort leZ).Pairwise (fun x y => leZ x y = true) := by
      refine List.pairwise_mergeSort (fun x y z => ?_) (fun x y => ?_) _
      · simp only [leZ, decide_eq_true_eq]; exact Int.le_trans
      · simp only [leZ, Bool.or_eq_true, decide_eq_true_eq]; exact Int.le_total x y
    exact h1.imp fun {x y} h => by simpa [leZ] using h
  obtain ⟨h1, h2⟩ := foldT_spec (l.flatMap (tms r)) [r.e] (by simp [AscZ])
  refine ascZ_ext h1 (asc_dedupZ hs) fun x => ?_
  unfold rtL
  rw [h2, mem_timesL]
  simp [rawT]
def rtimes (r : Rt) (l : List Dig) : List Int := if validR r then rtL r l else []
theorem rtimes_eq (r : Rt) (l : List Dig) : rtimes r l = timesV r l := by
  unfold rtimes timesV
  split
  · exact rtL_eq r l
  · rfl
theorem timesV_len (r : Rt) (l : List Dig) : (timesV r l).length ≤ 1 + 3 * l.length := by
  rw [← rtimes_eq]
  unfold rtimes
  split
  · exact rtL_len r l
  · simp
end Go.Pl

namespace Go.Pl
open Go Go.Hl
set_option linter.unusedSimpArgs false

structure Ak where
  r : Word
  k : List Dig
  t : Int
def Ak.cv (x : Ak) : CV := .agg [.str x.r, .slc (x.k.map dg), .int .i64 x.t]
theorem Ak.cells (x : Ak) : x.cv.cells = 3 := by simp [Ak.cv, CV.cells, CV.cellsL, dg_cells, hf_cells]
theorem Ak.denil (x : Ak) : x.cv.denil = x.cv := by simp only [Ak.cv, CV.denil, CV.denilL, dg_denil, hf_denil, denilL_str, denilL_dg]
theorem Ak.isAgg (x : Ak) : x.cv.isAgg = true := rfl
theorem Ak.getAll (x : Ak) : CV.getAt 0 3 true x.cv = some x.cv := by
  have := Ak.cells x
  simp only [Ak.cv, CV.cells] at this
  simp only [Ak.cv, CV.getAt, this, and_self, if_true]
theorem Ak.setAll (x : Ak) (y : HV) : CV.setAt 0 3 y x.cv = some y := by
  have := Ak.cells x
  simp only [Ak.cv, CV.cells] at this
  simp only [Ak.cv, CV.setAt, this, and_self, if_true]
theorem Ak.fold (r : Word) (k : List Dig) (t : Int) : CV.agg [.str r, .slc (k.map dg), .int .i64 t] = Ak.cv ⟨r, k, t⟩ := rfl
theorem Ak.get_r (x : Ak) : CV.getAt 0 1 false x.cv = some (.str x.r) := by simp [Ak.cv, CV.getAt, CV.getAtL, CV.cells, CV.cellsL, dg_cells, hf_cells]
theorem Ak.set_r (x : Ak) (y : HV) : CV.setAt 0 1 y x.cv = some (.agg [y, .c (.slc (x.k.map dg)), .c (.int .i64 x.t)]) := by simp [Ak.cv, CV.setAt, CV.setAtL, CV.cells, CV.cellsL, dg_cells, hf_cells]
theorem Ak.get_k (x : Ak) : CV.getAt 1 1 false x.cv = some (.slc (x.k.map dg)) := by simp [Ak.cv, CV.getAt, CV.getAtL, CV.cells, CV.cellsL, dg_cells, hf_cells]
theorem Ak.set_k (x : Ak) (y : HV) : CV.setAt 1 1 y x.cv = some (.agg [.c (.str x.r), y, .c (.int .i64 x.t)]) := by simp [Ak.cv, CV.setAt, CV.setAtL, CV.cells, CV.cellsL, dg_cells, hf_cells]
theorem Ak.get_t (x : Ak) : CV.getAt 2 1 false x.cv = some (.int .i64 x.t) := by simp [Ak.cv, CV.getAt, CV.getAtL, CV.cells, CV.cellsL, dg_cells, hf_cells]
theorem Ak.set_t (x : Ak) (y : HV) : CV.setAt 2 1 y x.cv = some (.agg [.c (.str x.r), .c (.slc (x.k.map dg)), y]) := by simp [Ak.cv, CV.setAt, CV.setAtL, CV.cells, CV.cellsL, dg_cells, hf_cells]

end Go.Pl

namespace Go.Proofs.YtackchmdajdlaaaGreat
open Go Go.Hl Go.Pl

theorem list_choose {α : Type} {f : α → CV} {Q : α → Prop} : ∀ (l : List CV), (∀ x ∈ l, ∃ y, x = f y ∧ Q y) → ∃ m : List α, l = m.map f ∧ ∀ y ∈ m, Q y
 | [], _ => ⟨[], rfl, by simp⟩
 | x :: l, h => by
  obtain ⟨y, rfl, hy⟩ := h x (by simp)
  obtain ⟨m, rfl, hm⟩ := list_choose l (fun x hx => h x (by simp [hx]))
  exact ⟨y :: m, rfl, fun z hz => by rcases List.mem_cons.1 hz with rfl | hz; exact hy; exact hm z hz⟩
theorem of_ints {c : CV} (h : HasTy Tryz.prog 30 c) : ∃ L : List Int, c = .slc (L.map (.int .i64)) ∧ (∀ n ∈ L, (Lit.int .i64 n).wf = true) ∧ L.length ≤ maxLen := by
 obtain ⟨l, rfl, hl, hn⟩ := h.of_slc Tryz.underlying30
 obtain ⟨m, rfl, hm⟩ := list_choose (f := CV.int .i64) (Q := fun n => (Lit.int .i64 n).wf = true) l (fun x hx => (hl x hx).of_int Tryz.underlying3)
 exact ⟨m, rfl, hm, by simpa using hn⟩
theorem of_bytes {m : Nat} {l : List CV} (hl : ∀ x ∈ l, HasTy Tryz.prog 5 x) (hn : l.length = m) : ∃ d : { l : List UInt8 // l.length = m }, l = d.1.map u8 := by
 obtain ⟨q, rfl, _⟩ := list_choose (f := u8) (Q := fun _ => True) l (fun x hx => by
  obtain ⟨n, rfl, hw⟩ := (hl x hx).of_int Tryz.underlying5
  have hb : 0 ≤ n ∧ n ≤ 255 := by simpa [Lit.wf, IntKind.min, IntKind.max, IntKind.signed, IntKind.bits] using hw
  refine ⟨UInt8.ofNat n.toNat, ?_, trivial⟩
  show CV.int .u8 n = CV.int .u8 _
  congr 1
  have : (UInt8.ofNat n.toNat).toNat = n.toNat := by rw [UInt8.toNat_ofNat']; exact Nat.mod_eq_of_lt (by omega)
  rw [this]; omega)
 exact ⟨⟨q, by simpa using hn⟩, rfl⟩
theorem of_dig {c : CV} (h : HasTy Tryz.prog 55 c) : ∃ d : Dig, c = dg d := by
 obtain ⟨l, rfl, hl, hn⟩ := h.of_arr Tryz.underlying55
 obtain ⟨d, rfl⟩ := of_bytes hl hn
 exact ⟨d, rfl⟩
theorem of_half {c : CV} (h : HasTy Tryz.prog 47 c) : ∃ d : Half, c = hf d := by
 obtain ⟨l, rfl, hl, hn⟩ := h.of_arr Tryz.underlying47
 obtain ⟨d, rfl⟩ := of_bytes hl hn
 exact ⟨d, rfl⟩
theorem of_digs {c : CV} (h : HasTy Tryz.prog 27 c) : ∃ l : List Dig, c = .slc (l.map dg) ∧ l.length ≤ maxLen := by
 obtain ⟨l, rfl, hl, hn⟩ := h.of_slc Tryz.underlying27
 obtain ⟨m, rfl, hm⟩ := list_choose (f := dg) (Q := fun _ => True) l (fun x hx => by obtain ⟨d, rfl⟩ := of_dig (hl x hx); exact ⟨d, rfl, trivial⟩)
 exact ⟨m, rfl, by simpa using hn⟩
theorem of_strs {c : CV} (h : HasTy Tryz.prog 35 c) : ∃ l : List Word, c = .slc (l.map .str) ∧ (∀ w ∈ l, w.length ≤ maxLen) ∧ l.length ≤ maxLen := by
 obtain ⟨l, rfl, hl, hn⟩ := h.of_slc Tryz.underlying35
 obtain ⟨m, rfl, hm⟩ := list_choose (f := CV.str) (Q := fun w => w.length ≤ maxLen) l (fun x hx => (hl x hx).of_str Tryz.underlying9)
 exact ⟨m, rfl, hm, by simpa using hn⟩
theorem of_public {c : CV} (h : HasTy Tryz.prog 49 c) : ∃ x : Pk, c = x.cv := by
 obtain ⟨l, rfl, hn, hl⟩ := h.of_struct Tryz.underlying49
 match l, hn, hl with
 | [a, b], _, hl =>
  obtain ⟨n, rfl, _⟩ := (hl 0 _ a rfl rfl).of_int Tryz.underlying3
  obtain ⟨r, rfl⟩ := of_half (hl 1 _ b rfl rfl)
  exact ⟨⟨n, r⟩, rfl⟩
theorem of_quota {c : CV} (h : HasTy Tryz.prog 87 c) : ∃ x : Qt, c = x.cv ∧ x.r.length ≤ maxLen := by
 obtain ⟨l, rfl, hn, hl⟩ := h.of_struct Tryz.underlying87
 match l, hn, hl with
 | [a, b], _, hl =>
  obtain ⟨w, rfl, hw⟩ := (hl 0 _ a rfl rfl).of_str Tryz.underlying9
  obtain ⟨n, rfl, _⟩ := (hl 1 _ b rfl rfl).of_int Tryz.underlying3
  exact ⟨⟨w, n⟩, rfl, hw⟩
theorem of_rev {c : CV} (h : HasTy Tryz.prog 92 c) : ∃ x : Rv, c = x.cv := by
 obtain ⟨l, rfl, hn, hl⟩ := h.of_struct Tryz.underlying92
 match l, hn, hl with
 | [a, b], _, hl =>
  obtain ⟨d, rfl⟩ := of_dig (hl 0 _ a rfl rfl)
  obtain ⟨n, rfl, _⟩ := (hl 1 _ b rfl rfl).of_int Tryz.underlying2
  exact ⟨⟨d, n⟩, rfl⟩
theorem of_key {c : CV} (h : HasTy Tryz.prog 51 c) : ∃ x : Ky, c = x.cv ∧ x.o.length ≤ maxLen ∧ x.rs.length ≤ maxLen ∧ ∀ w ∈ x.rs, w.length ≤ maxLen := by
 obtain ⟨l, rfl, hn, hl⟩ := h.of_struct Tryz.underlying51
 match l, hn, hl with
 | [a, b, c, d, e], _, hl =>
  obtain ⟨p, rfl⟩ := of_public (hl 0 _ a rfl rfl)
  obtain ⟨o, rfl, ho⟩ := (hl 1 _ b rfl rfl).of_str Tryz.underlying9
  obtain ⟨rs, rfl, h1, h2⟩ := of_strs (hl 2 _ c rfl rfl)
  obtain ⟨x, rfl, _⟩ := (hl 3 _ d rfl rfl).of_int Tryz.underlying2
  obtain ⟨y, rfl, _⟩ := (hl 4 _ e rfl rfl).of_int Tryz.underlying2
  exact ⟨⟨p, o, rs, x, y⟩, rfl, ho, h2, h1⟩
theorem of_root {c : CV} (h : HasTy Tryz.prog 26 c) : ∃ r : Rt, c = r.cv ∧ rRaw r := by
 obtain ⟨l, rfl, hn, hl⟩ := h.of_struct Tryz.underlying26
 match l, hn, hl with
 | [a, b, c, d, e], _, hl =>
  obtain ⟨v, rfl, _⟩ := (hl 0 _ a rfl rfl).of_int Tryz.underlying2
  obtain ⟨x, rfl, _⟩ := (hl 1 _ b rfl rfl).of_int Tryz.underlying2
  obtain ⟨q, rfl, hq, n1⟩ := (hl 2 _ c rfl rfl).of_slc Tryz.underlying22
  obtain ⟨k, rfl, hk, n2⟩ := (hl 3 _ d rfl rfl).of_slc Tryz.underlying23
  obtain ⟨z, rfl, hz, n3⟩ := (hl 4 _ e rfl rfl).of_slc Tryz.underlying24
  obtain ⟨q, rfl, hq2⟩ := list_choose (f := Qt.cv) (Q := fun x => x.r.length ≤ maxLen) q (fun x hx => of_quota (hq x hx))
  obtain ⟨k, rfl, hk2⟩ := list_choose (f := Ky.cv) (Q := fun x => x.o.length ≤ maxLen ∧ x.rs.length ≤ maxLen ∧ ∀ w ∈ x.rs, w.length ≤ maxLen) k (fun x hx => of_key (hk x hx))
  obtain ⟨z, rfl, _⟩ := list_choose (f := Rv.cv) (Q := fun _ => True) z (fun x hx => by obtain ⟨d, rfl⟩ := of_rev (hz x hx); exact ⟨d, rfl, trivial⟩)
  exact ⟨⟨v, x, q, k, z⟩, rfl, ⟨by simpa using n1, hq2⟩, ⟨by simpa using n2, hk2⟩, by simpa using n3⟩
theorem own : ownKnob Tryz.prog.godebug = none := by kernel_rfl
theorem kids : Kids Tryz.prog (· < Tryz.prog.types.size) := kids_rows (by kernel_rfl) (by kernel_rfl)
theorem slicesFull : ∀ t e, t < Tryz.prog.types.size → Tryz.prog.underlying t = some (.slice e) → 0 < Tryz.prog.cellsOf e := slices_full_of Tryz.prog (by kernel_rfl)
end Go.Proofs.YtackchmdajdlaaaGreat

namespace Go.Proofs.YtackchmdajdlaaaGreat
open Go Go.Hl Go.Pl
set_option maxRecDepth 10000
set_option linter.unusedSimpArgs false
set_option linter.unusedVariables false

theorem has_ok (l : List (List UInt8)) (w : List UInt8) (hl : l.length < 2 ^ 62) : HPure Tryz.prog 38 [.slc (l.map .str), .str w] (fun v => v = .bool (l.contains w)) := by
 refine hfn_walk Tryz.func38 rfl (by kernel_rfl) (locOk_nil _) (Nat.le_of_ble_eq_true rfl) ?_
 refine hw_seq fun K hK => hw_region (by kernel_rfl) ?_
 simp (maxSteps := 4000000) only [↓sP, sA, tyS, simprocAttr]
 repeat refine AI ?_
 refine hK _ _ _ ?_
 clear hK K
 refine hw_seq fun K hK => ?_
 refine hw_seq fun K hK => hw_region (by kernel_rfl) ?_
 simp (maxSteps := 4000000) only [↓sP, sA, tyS, simprocAttr]
 repeat refine AI ?_
 refine hK _ _ _ ?_
 clear hK K
 refine hw_block ?_
 refine hw_loop (α := {i : Nat // i ≤ l.length ∧ w ∉ l.take i}) (fun i => (fin [(0, .c (.slc (l.map .str))), (1, .c (.str w)), (5, .c (.int .i64 i.1))], fob [])) 0 (fun i => l.length - i.1) ⟨0, by omega, by simp⟩ (fits_fin (by omega) (by simp [FinOk, fin_at, finA_at, upd_at, HV.men, HV.menL, HV.norm, HV.toC, HV.toCL]) (by simp [FobOk, fob_at, upd_at, none0_at, gone, HO.men, HV.men, HV.menL, HV.norm, HV.toC, HV.toCL])) ?_
 rintro ⟨i, hi, hni⟩
 refine hw_seq fun K hK => ?_
 refine hw_seq fun K hK => hw_region (by kernel_rfl) ?_
 simp (maxSteps := 4000000) only [↓sP, sA, tyS, simprocAttr]
 repeat refine AI ?_
 refine hK _ _ _ ?_
 clear hK K
 refine hw_cond (b := decide ((i : Int) < l.length)) rfl (fun hb => ?_) (fun hb => ?_)
 ·
  have hlt : i < l.length := by simpa using hb
  refine hw_skip ?_
  simp (maxSteps := 4000000) only [↓sP, sA, tyS, simprocAttr]
  repeat refine AI ?_
  refine hK _ _ _ ?_
  clear hK K
  refine hw_seq fun K hK => hw_block ?_
  refine hw_seq fun K hK => hw_region (by kernel_rfl) ?_
  simp (maxSteps := 4000000) only [↓sP, sA, tyS, simprocAttr, Int.natCast_nonneg, Int.ofNat_lt, hlt, nth_map hlt]
  repeat refine AI ?_
  refine hK _ _ _ ?_
  clear hK K
  refine hw_cond (b := l[i] == w) rfl (fun hb => ?_) (fun hb => ?_)
  ·
   refine hw_seq fun K hK => hw_region (by kernel_rfl) ?_
   simp (maxSteps := 4000000) only [↓sP, sA, tyS, simprocAttr]
   repeat refine AI ?_
   refine hK _ _ _ ?_
   clear hK K
   refine hw_ret ?_
   simp (maxSteps := 4000000) only [hpost, Tryz.results38, hresL, hres1, tupOf, ↓sP, sA, tyS, simprocAttr]
   refine hret_pure [] (.bool true) rfl ?_
   have : l[i] ∈ l := List.getElem_mem _
   simp_all
  ·
   refine hw_skip ?_
   simp (maxSteps := 4000000) only [↓sP, sA, tyS, simprocAttr]
   repeat refine AI ?_
   refine hK _ _ _ ?_
   clear hK K
   refine hw_region (by kernel_rfl) ?_
   simp (maxSteps := 4000000) only [↓sP, sA, tyS, simprocAttr, IntWalk.i64_in _ (show -9223372036854775808 ≤ (i : Int) + 1 ∧ (i : Int) + 1 ≤ 9223372036854775807 by omega)]
   refine ⟨⟨i + 1, hlt, ?_⟩, fits_fin (by omega) (by simp [FinOk, fin_at, finA_at, upd_at, HV.men, HV.menL, HV.norm, HV.toC, HV.toCL]) (by simp [FobOk, fob_at, upd_at, none0_at, gone, HO.men, HV.men, HV.menL, HV.norm, HV.toC, HV.toCL]), ?_⟩
   ·
    rw [List.take_succ_eq_append_getElem hlt]
    intro hm
    rcases List.mem_append.1 hm with hm | hm
    ·
     exact hni hm
    ·
     simp_all
   ·
    show l.length - (i + 1) < l.length - i
    omega
 ·
  refine hw_exit ?_
  simp (maxSteps := 4000000) only [↓sP, sA, tyS, simprocAttr]
  clear hK K
  repeat refine AI ?_
  refine hK _ _ _ ?_
  clear hK K
  refine hw_seq fun K hK => hw_region (by kernel_rfl) ?_
  simp (maxSteps := 4000000) only [↓sP, sA, tyS, simprocAttr]
  repeat refine AI ?_
  refine hK _ _ _ ?_
  clear hK K
  refine hw_ret ?_
  simp (maxSteps := 4000000) only [hpost, Tryz.results38, hresL, hres1, tupOf, ↓sP, sA, tyS, simprocAttr]
  refine hret_pure [] (.bool false) rfl ?_
  have : i = l.length := by simp at hb; omega
  subst this
  simpa using hni

theorem ascending_ok (l : List Word) (hl : l.length < 2 ^ 62) : HPure Tryz.prog 111 [.slc (l.map .str)] (fun v => v = .bool (ascB l)) := by
 refine hfn_walk Tryz.func111 rfl (by kernel_rfl) (locOk_nil _) (Nat.le_of_ble_eq_true rfl) ?_
 refine hw_seq fun K hK => hw_region (by kernel_rfl) ?_
 simp (maxSteps := 4000000) only [↓sP, sA, tyS, simprocAttr]
 repeat refine AI ?_
 refine hK _ _ _ ?_
 clear hK K
 refine hw_seq fun K hK => ?_
 refine hw_seq fun K hK => hw_region (by kernel_rfl) ?_
 simp (maxSteps := 4000000) only [↓sP, sA, tyS, simprocAttr]
 repeat refine AI ?_
 refine hK _ _ _ ?_
 clear hK K
 refine hw_block ?_
 refine hw_loop (α := {i : Nat // 1 ≤ i ∧ (i ≤ l.length ∨ i = 1) ∧ ∀ j (h : j + 1 < i) (h' : j + 1 < l.length), slt l[j] l[j + 1] = true}) (fun i => (fin [(0, .c (.slc (l.map .str))), (3, .c (.int .i64 i.1))], fob [])) 0 (fun i => l.length - i.1) ⟨1, by omega, by simp, fun j h => by omega⟩ (fits_fin (by omega) (by simp [FinOk, fin_at, finA_at, upd_at, HV.men, HV.menL, HV.norm, HV.toC, HV.toCL]) (by simp [FobOk, fob_at, upd_at, none0_at, gone, HO.men, HV.men, HV.menL, HV.norm, HV.toC, HV.toCL])) ?_
 rintro ⟨i, h1, hi, hni⟩
 refine hw_seq fun K hK => ?_
 refine hw_seq fun K hK => hw_region (by kernel_rfl) ?_
 simp (maxSteps := 4000000) only [↓sP, sA, tyS, simprocAttr]
 repeat refine AI ?_
 refine hK _ _ _ ?_
 clear hK K
 refine hw_cond (b := decide ((i : Int) < l.length)) rfl (fun hb => ?_) (fun hb => ?_)
 ·
  have hlt : i < l.length := by simpa using hb
  have e1 : IntKind.i64.wrap ((i : Int) - 1) = ((i - 1 : Nat) : Int) := by rw [IntWalk.i64_in _ (by omega)]; omega
  have hlt1 : i - 1 < l.length := by omega
  refine hw_skip ?_
  simp (maxSteps := 4000000) only [↓sP, sA, tyS, simprocAttr]
  repeat refine AI ?_
  refine hK _ _ _ ?_
  clear hK K
  refine hw_seq fun K hK => hw_block ?_
  refine hw_seq fun K hK => hw_quiet mixed (by kernel_rfl) (by kernel_rfl) (by kernel_rfl) ?_
  simp (maxSteps := 4000000) only [↓sP, sA, tyS, simprocAttr, Int.natCast_nonneg, Int.ofNat_lt, hlt, e1, hlt1, nth_map hlt, nth_map hlt1]
  repeat refine AI ?_
  refine hK _ _ _ ?_
  clear hK K
  refine hw_cond (b := !slt l[i - 1] l[i]) rfl (fun hb => ?_) (fun hb => ?_)
  ·
   refine hw_seq fun K hK => hw_region (by kernel_rfl) ?_
   simp (maxSteps := 4000000) only [↓sP, sA, tyS, simprocAttr]
   repeat refine AI ?_
   refine hK _ _ _ ?_
   clear hK K
   refine hw_ret ?_
   simp (maxSteps := 4000000) only [hpost, Tryz.results111, hresL, hres1, tupOf, ↓sP, sA, tyS, simprocAttr]
   refine hret_pure [] (.bool false) rfl ?_
   congr 1
   refine (Bool.not_eq_true _ ▸ fun h => ?_ : ascB l = false).symm
   have := ascB_iff.1 h (i - 1) (by omega)
   simp only [show i - 1 + 1 = i by omega] at this
   simp [this] at hb
  ·
   refine hw_skip ?_
   simp (maxSteps := 4000000) only [↓sP, sA, tyS, simprocAttr]
   repeat refine AI ?_
   refine hK _ _ _ ?_
   clear hK K
   refine hw_region (by kernel_rfl) ?_
   simp (maxSteps := 4000000) only [↓sP, sA, tyS, simprocAttr, IntWalk.i64_in _ (show -9223372036854775808 ≤ (i : Int) + 1 ∧ (i : Int) + 1 ≤ 9223372036854775807 by omega)]
   refine ⟨⟨i + 1, by omega, by omega, fun j h h' => ?_⟩, fits_fin (by omega) (by simp [FinOk, fin_at, finA_at, upd_at, HV.men, HV.menL, HV.norm, HV.toC, HV.toCL]) (by simp [FobOk, fob_at, upd_at, none0_at, gone, HO.men, HV.men, HV.menL, HV.norm, HV.toC, HV.toCL]), ?_⟩
   ·
    by_cases e : j + 1 = i
    ·
     subst e
     simpa using hb
    ·
     exact hni j (by omega) h'
   ·
    show l.length - (i + 1) < l.length - i
    omega
 ·
  refine hw_exit ?_
  simp (maxSteps := 4000000) only [↓sP, sA, tyS, simprocAttr]
  clear hK K
  repeat refine AI ?_
  refine hK _ _ _ ?_
  clear hK K
  refine hw_seq fun K hK => hw_region (by kernel_rfl) ?_
  simp (maxSteps := 4000000) only [↓sP, sA, tyS, simprocAttr]
  repeat refine AI ?_
  refine hK _ _ _ ?_
  clear hK K
  refine hw_ret ?_
  simp (maxSteps := 4000000) only [hpost, Tryz.results111, hresL, hres1, tupOf, ↓sP, sA, tyS, simprocAttr]
  refine hret_pure [] (.bool true) rfl ?_
  have : l.length ≤ i := by simp at hb; omega
  exact congrArg _ (ascB_iff.2 fun j h => hni j (by omega) h).symm

end Go.Proofs.YtackchmdajdlaaaGreat
