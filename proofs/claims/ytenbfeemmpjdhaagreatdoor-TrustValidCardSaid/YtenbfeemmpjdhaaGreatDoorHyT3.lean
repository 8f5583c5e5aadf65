/- Part of a proof: walks of functions of the program, by contracts, and the rules they use. By an AI agent. -/
import Derived.Test.YtenbfeemmpjdhaaGreatDoorPlShb
import Derived.Sort.Grow
import Derived.Sort.EncStr
import Derived.Test.YtenbfeemmpjdhaaGreatDoorHlZb
import Derived.Test.YtenbfeemmpjdhaaGreatDoorRows
import Derived.Test.YtenbfeemmpjdhaaGreatDoorPl11
set_option linter.unusedSimpArgs false
set_option linter.unusedVariables false
set_option linter.defProp false
namespace Go.Pl
open Go Go.Hl

theorem blk_succ (p : List UInt8) (n : Nat) (s : St) : blk p (n + 1) s = comp (blk p n s) ((p.drop (64 * n)).take 64) := rfl
theorem len8_len (n : Nat) : (len8 n).length = 8 := by simp [len8]
theorem pad_len (b : List UInt8) : (pad b).length = b.length + 1 + zs b.length + 8 := by simp [pad, len8_len]; omega
theorem pad_mod (b : List UInt8) : (pad b).length % 64 = 0 := by
  rw [pad_len]; unfold zs; omega
theorem pad_blk {b : List UInt8} {j : Nat} (h : 64 * (j + 1) ≤ b.length) : ((pad b).drop (64 * j)).take 64 = (b.drop (64 * j)).take 64 := by
  unfold pad
  rw [List.append_assoc, List.append_assoc, List.drop_append_of_le_length (by omega), List.take_append_of_le_length (by rw [List.length_drop]; omega)]
def padP (b : List UInt8) (j : Nat) : List UInt8 := b.drop (64 * j) ++ [0x80] ++ List.replicate (zs b.length) 0
theorem pad_tail {b : List UInt8} {j : Nat} (h : 64 * j ≤ b.length) : (pad b).drop (64 * j) = padP b j ++ len8 b.length := by
  unfold pad padP
  rw [List.append_assoc, List.append_assoc, List.drop_append_of_le_length h]
  simp
def lastM (b : List UInt8) (j : Nat) : Nat := if b.length - 64 * j < 56 then 64 else 128
section
variable {b : List UInt8} {j : Nat} (h0 : 64 * j ≤ b.length) (h1 : b.length < 64 * j + 64)
include h0 h1
theorem padP_len : (padP b j).length + 8 = lastM b j := by
  simp only [padP, lastM, List.length_append, List.length_drop, List.length_singleton, List.length_replicate]
  unfold zs
  split <;> omega
theorem pad_blocks : (pad b).length = 64 * j + lastM b j := by
  have e := congrArg List.length (pad_tail h0)
  rw [List.length_drop, List.length_append, len8_len, padP_len h0 h1] at e
  have : 64 * j ≤ (pad b).length := by rw [pad_len]; omega
  omega
theorem arr0 : ((b.drop (64 * j) ++ (uz 128).drop (b.length - 64 * j)).set (b.length - 64 * j) 0x80) = padP b j ++ (List.replicate 8 0 ++ List.replicate (128 - lastM b j) 0) := by
  have hl : (b.drop (64 * j)).length = b.length - 64 * j := List.length_drop
  have e : (uz 128).drop (b.length - 64 * j) = 0 :: List.replicate (127 - (b.length - 64 * j)) 0 := by
    unfold uz
    rw [List.drop_replicate, ← List.replicate_succ]
    congr 1; omega
  rw [List.set_append_right _ _ (by omega), hl, Nat.sub_self, e, List.set_cons_zero, List.replicate_append_replicate]
  have e2 : 127 - (b.length - 64 * j) = zs b.length + (8 + (128 - lastM b j)) := by
    unfold zs lastM; split <;> omega
  rw [e2, ← List.replicate_append_replicate, ← List.replicate_append_replicate]
  simp only [padP, List.append_assoc, List.singleton_append, List.cons_append, List.nil_append, List.replicate_append_replicate]
end
def midB (n i : Nat) : List UInt8 := (List.range 8).map fun q => if 7 - q < i then UInt8.ofNat (8 * n / 2 ^ (8 * (7 - q))) else 0
theorem midB_zero (n : Nat) : List.replicate 8 0 = midB n 0 := rfl
theorem midB_step (n : Nat) : ∀ i, i < 8 → (midB n i).set (7 - i) (UInt8.ofNat (8 * n / 2 ^ (8 * i))) = midB n (i + 1)
  | 0, _ => rfl | 1, _ => rfl | 2, _ => rfl | 3, _ => rfl | 4, _ => rfl | 5, _ => rfl | 6, _ => rfl | 7, _ => rfl
  | j + 8, h => by omega
theorem midB_all (n : Nat) : midB n 8 = len8 n := rfl
theorem midB_len (n i : Nat) : (midB n i).length = 8 := by simp [midB]
def arrB (b : List UInt8) (j i : Nat) : List UInt8 := padP b j ++ (midB b.length i ++ List.replicate (128 - lastM b j) 0)
section
variable {b : List UInt8} {j : Nat} (h0 : 64 * j ≤ b.length) (h1 : b.length < 64 * j + 64)
include h0 h1
theorem arrB_zero : ((b.drop (64 * j) ++ (uz 128).drop (b.length - 64 * j)).set (b.length - 64 * j) 0x80) = arrB b j 0 := by rw [arr0 h0 h1, midB_zero b.length]; rfl
theorem arrB_len (i : Nat) : (arrB b j i).length = 128 := by
  have := padP_len h0 h1
  simp only [arrB, List.length_append, midB_len, List.length_replicate]
  have : lastM b j ≤ 128 := by unfold lastM; split <;> omega
  omega
theorem arrB_step {i : Nat} (hi : i < 8) : (arrB b j i).set (lastM b j - 1 - i) (UInt8.ofNat (8 * b.length / 2 ^ (8 * i))) = arrB b j (i + 1) := by
  have hp := padP_len h0 h1
  unfold arrB
  rw [List.set_append_right _ _ (by omega), List.set_append_left _ _ (by rw [midB_len]; omega)]
  have : lastM b j - 1 - i - (padP b j).length = 7 - i := by omega
  rw [this, midB_step _ _ hi]
theorem arrB_blk {q : Nat} (hq : 64 * (q + 1) ≤ lastM b j) : ((arrB b j 8).drop (64 * q)).take 64 = ((pad b).drop (64 * (j + q))).take 64 := by
  have hp := padP_len h0 h1
  have e : (arrB b j 8) = (pad b).drop (64 * j) ++ List.replicate (128 - lastM b j) 0 := by rw [pad_tail h0]; unfold arrB; rw [midB_all]; simp
  have hl : ((pad b).drop (64 * j)).length = lastM b j := by rw [List.length_drop, pad_blocks h0 h1]; omega
  rw [e, List.drop_append_of_le_length (by omega), List.take_append_of_le_length (by rw [List.length_drop]; omega), List.drop_drop]
  congr 2; omega
end
theorem over_u8 {r : List UInt8} {n : Nat} (h : r.length ≤ n) : over ((uz n).map u8) ((r.map u8).take n) 0 = (r ++ (uz n).drop r.length).map u8 := by
  have e : (r.map u8).take n = r.map u8 := List.take_of_length_le (by rw [List.length_map]; exact h)
  simp [over, e]
@[simp] theorem us_fold (l : List UInt8) : CV.agg (l.map u8) = us l := rfl
theorem byte_shr (v i : Nat) (h : 8 * i ≤ 64) : IntKind.u8.wrap (Int.fdiv (v : Int) (2 ^ (min (8 * i) IntKind.u64.bits))) = ((UInt8.ofNat (v / 2 ^ (8 * i))).toNat : Int) := by
  have : min (8 * i) IntKind.u64.bits = 8 * i := Nat.min_eq_left h
  rw [this, Int.fdiv_eq_ediv_of_nonneg _ (Int.pow_nonneg (by omega))]
  have e : (v : Int) / 2 ^ (8 * i) = ((v / 2 ^ (8 * i) : Nat) : Int) := by norm_cast
  rw [e, IntKind.wrap_u8, UInt8.toNat_ofNat']
  omega
def ob8 (s : St) (i : Nat) : UInt8 := UInt8.ofNat ((gw s.l (i / 4)) >>> (24 - 8 * (i % 4))).toNat
def outL (s : St) (n : Nat) : List UInt8 := itN (fun i l => l.set i (ob8 s i)) n (uz 32)
@[simp] theorem outL_zero (s : St) : outL s 0 = uz 32 := rfl
theorem outL_len (s : St) (n : Nat) : (outL s n).length = 32 := by unfold outL; rw [itN_len (fun i l => by simp)]; simp [uz]
theorem outL_all (s : St) : outL s 32 = outB s := by
  unfold outL
  rw [itN_set _ _ _ (by simp [uz])]
  simp [uz, outB, ob8]
theorem len8_take {n i : Nat} (h : i < 8) : (len8 n).take (i + 1) = (len8 n).take i ++ [UInt8.ofNat (8 * n / 2 ^ (8 * (7 - i)))] := by
  rw [List.take_succ_eq_append_getElem (by rw [len8_len]; exact h)]
  simp [len8]
theorem padded {b : List UInt8} : b ++ [0x80] ++ List.replicate (zs b.length) 0 ++ (len8 b.length).take 8 = pad b := by
  rw [List.take_of_length_le (by rw [len8_len]; exact Nat.le_refl _)]; rfl
theorem hf_take (h : Half) : (h.1.map u8).take 16 = h.1.map u8 := List.take_of_length_le (by rw [List.length_map, h.2]; exact Nat.le_refl _)
theorem sha_out (b : List UInt8) : us (outB (blk (pad b) ((pad b).length / 64) St0)) = dg (sha b) := rfl
end Go.Pl

namespace Go.Pl
open Go Go.Hl

theorem insK_eq {l : List Ky} {k : Ky} {i : Nat} (hi : i ≤ l.length) (h0 : ∀ x ∈ l.take i, dlt (kid x) (kid k) = true) (h1 : ∀ h : i < l.length, dlt (kid l[i]) (kid k) = false) : l.take i ++ k :: l.drop i = insK l k := by
  have key : ∀ (l : List Ky) (i : Nat), i ≤ l.length → (∀ x ∈ l.take i, dlt (kid x) (kid k) = true) → (∀ h : i < l.length, dlt (kid l[i]) (kid k) = false) → (l.takeWhile fun x => dlt (kid x) (kid k)) = l.take i ∧ (l.dropWhile fun x => dlt (kid x) (kid k)) = l.drop i := by
    intro l
    induction l with
    | nil => intro i hi _ _; simp at hi; subst hi; exact ⟨rfl, rfl⟩
    | cons a l ih =>
      intro i hi h0 h1
      cases i with
      | zero =>
        have := h1 (by simp)
        simp only [List.getElem_cons_zero] at this
        simp [List.takeWhile_cons, List.dropWhile_cons, this]
      | succ i =>
        have ha := h0 a (by simp)
        obtain ⟨e1, e2⟩ := ih i (by simpa using hi) (fun x hx => h0 x (by simp [hx])) (fun h => h1 (by simpa using h))
        simp [List.takeWhile_cons, List.dropWhile_cons, ha, e1, e2]
  obtain ⟨e1, e2⟩ := key l i hi h0 h1
  unfold insK
  rw [e1, e2]
theorem insK_len (l : List Ky) (k : Ky) : (insK l k).length = l.length + 1 := by
  unfold insK
  have := congrArg List.length (List.takeWhile_append_dropWhile (p := fun x => dlt (kid x) (kid k)) (l := l))
  simp only [List.length_append, List.length_cons] at this ⊢
  omega
theorem insK_mem {l : List Ky} {k x : Ky} (h : x ∈ insK l k) : x ∈ l ∨ x = k := by
  unfold insK at h
  simp only [List.mem_append, List.mem_cons] at h
  rcases h with h | h | h
  · exact .inl ((List.takeWhile_sublist _).subset h)
  · exact .inr h
  · exact .inl ((List.dropWhile_sublist _).subset h)
theorem u8_nat (n : Nat) : IntKind.u8.wrap (n : Int) = ((UInt8.ofNat n).toNat : Int) := by
  rw [IntKind.wrap_u8, UInt8.toNat_ofNat']; omega
theorem hbuild_hf2 {n bytes : Nat} {d : TyD} {a b : Operand} {e : Operand → HV} {K : HV → Prop} (x y : UInt8) (ha : e a = .c (.int .u8 (x.toNat : Int))) (hb : e b = .c (.int .u8 (y.toNat : Int))) : hbuild ⟨n, bytes, d, hf zh⟩ [(0, a), (1, b)] e K = K (.c (hf ⟨[x, y] ++ List.replicate 14 0, by simp⟩)) := by
  have e1 : hfill e [(0, a), (1, b)] (((List.replicate 16 (0 : UInt8)).map u8).map .c) = some ((([x, y] ++ List.replicate 14 0).map u8).map .c) := by
    simp only [hfill, ha, hb]
    rfl
  simp only [hbuild, hf, zh, e1, hlift_some]
  rw [norm_cs]
theorem hbuild_pk {n bytes : Nat} {d : TyD} {a b : Operand} {e : Operand → HV} {K : HV → Prop} (h : Int) (r : Half) (ha : e a = .c (.int .i64 h)) (hb : e b = .c (hf r)) : hbuild ⟨n, bytes, d, Pk.cv ⟨0, zh⟩⟩ [(0, a), (1, b)] e K = K (.c (Pk.cv ⟨h, r⟩)) := by
  have e1 : hfill e [(0, a), (1, b)] ([CV.int .i64 0, hf zh].map .c) = some [.c (.int .i64 h), .c (hf r)] := by
    simp [hfill, ha, hb, HV.sto, HV.cells, CV.cells, hf_cells]
  simp only [hbuild, Pk.cv, e1, hlift_some]
  rfl
theorem hbuild_qt {n bytes : Nat} {d : TyD} {a b : Operand} {e : Operand → HV} {K : HV → Prop} (w : Word) (k : Int) (ha : e a = .c (.str w)) (hb : e b = .c (.int .i64 k)) : hbuild ⟨n, bytes, d, Qt.cv ⟨[], 0⟩⟩ [(0, a), (1, b)] e K = K (.c (Qt.cv ⟨w, k⟩)) := by
  have e1 : hfill e [(0, a), (1, b)] ([CV.str [], CV.int .i64 0].map .c) = some [.c (.str w), .c (.int .i64 k)] := by
    simp [hfill, ha, hb, HV.sto, HV.cells, CV.cells]
  simp only [hbuild, Qt.cv, e1, hlift_some]
  rfl
theorem cells_ky {l : List Ky} : (∀ v ∈ l.map Ky.cv, v.cells = 21) ↔ True := iff_true_intro fun v h => by obtain ⟨d, _, rfl⟩ := List.mem_map.1 h; exact Ky.cells d
theorem cells_rv {l : List Rv} : (∀ v ∈ l.map Rv.cv, v.cells = 33) ↔ True := iff_true_intro fun v h => by obtain ⟨d, _, rfl⟩ := List.mem_map.1 h; exact Rv.cells d
theorem cells_qt {l : List Qt} : (∀ v ∈ l.map Qt.cv, v.cells = 2) ↔ True := iff_true_intro fun v h => by obtain ⟨d, _, rfl⟩ := List.mem_map.1 h; exact Qt.cells d
theorem roles_short : ∀ w ∈ roles10, w.length ≤ 20 := by decide
theorem owners_short : ∀ w ∈ owners4, w.length ≤ 20 := by decide
theorem mOwner_mem (i : Nat) : mOwner i ∈ owners4 := by
  unfold mOwner
  have : i % 4 < 4 := Nat.mod_lt _ (by omega)
  rw [List.getD_eq_getElem?_getD, List.getElem?_eq_getElem (show i % 4 < owners4.length from this)]
  exact List.getElem_mem _
theorem step_mem : wStep ∈ roles10 := by decide
end Go.Pl

namespace Go.Pl
open Go Go.Hl

def zR : CV := .agg [.int .i64 0, .int .i64 0, .nils, .nils, .nils]
def kOk (k : Ky) : Prop := kSz k ∧ k.o ∈ owners4
def rOk (r : Rt) : Prop := rSz r ∧ ∀ k ∈ r.k, k.o ∈ owners4
theorem mKey_ok (i : Nat) (ws : List Word) (a b : Int) (hl : ws.length ≤ 11) (hm : ∀ w ∈ ws, w ∈ roles10) : kOk ⟨mPub i, mOwner i, ws, a, b⟩ := by
  have ho := mOwner_mem i
  refine ⟨⟨?_, by show ws.length < _; omega, fun w hw => ?_⟩, ho⟩
  · have := owners_short _ ho
    show (mOwner i).length < _
    omega
  · have := roles_short _ (hm w hw)
    omega
def qz (i : Nat) : List Qt := (roles10.take i).map fun w => ⟨w, 1⟩
theorem qz_succ {i : Nat} (h : i < roles10.length) : qz (i + 1) = qz i ++ [⟨roles10[i], 1⟩] := by
  unfold qz; rw [List.take_succ_eq_append_getElem h, List.map_append]; rfl
theorem qz_len {i : Nat} (h : i ≤ 10) : (qz i).length = i := by
  unfold qz
  rw [List.length_map, List.length_take, show roles10.length = 10 from rfl]; omega
theorem qz_all : qz 10 = full.q := rfl
def kz (i : Nat) : List Ky := (List.range i).foldl (fun l i => insK l (mKey i)) []
theorem kz_succ (i : Nat) : kz (i + 1) = insK (kz i) (mKey i) := by unfold kz; rw [List.range_succ, List.foldl_append]; rfl
theorem kz_len : ∀ i, (kz i).length = i
  | 0 => rfl
  | i + 1 => by rw [kz_succ, insK_len, kz_len i]
theorem kz_ok : ∀ i, ∀ k ∈ kz i, kOk k
  | 0, k, h => by simp [kz] at h
  | i + 1, k, h => by
    rw [kz_succ] at h
    rcases insK_mem h with h | rfl
    · exact kz_ok i k h
    · exact mKey_ok i roles10 0 maxN (by decide) (fun w hw => hw)
theorem kz_all : kz 5 = full.k := rfl
theorem full_ok (v : Int) : rOk ⟨v, full.e, full.q, full.k, full.x⟩ := by
  have hk := kz_ok 5
  rw [kz_all] at hk
  refine ⟨⟨⟨by rw [← qz_all, qz_len (by omega)]; omega, fun q hq => ?_⟩, ⟨by show full.k.length < _; rw [← kz_all, kz_len]; omega, fun k h => (hk k h).1⟩, by show (0 : Nat) < 2 ^ 40; omega⟩, fun k h => (hk k h).2⟩
  have : q ∈ roles10.map fun w => (⟨w, 1⟩ : Qt) := hq
  obtain ⟨w, hw, rfl⟩ := List.mem_map.1 this
  have := roles_short w hw
  show w.length < _
  omega
theorem rOk_of {v e : Int} {qs : List Qt} {ks : List Ky} {xs : List Rv} (hq : qs.length ≤ 10) (hqr : ∀ q ∈ qs, q.r ∈ roles10) (hk : ks.length ≤ 6) (hkk : ∀ k ∈ ks, kOk k) (hx : xs.length ≤ 1) : rOk ⟨v, e, qs, ks, xs⟩ := by
  refine ⟨⟨⟨by show qs.length < _; omega, fun q h => ?_⟩, ⟨by show ks.length < _; omega, fun k h => (hkk k h).1⟩, by show xs.length < _; omega⟩, fun k h => (hkk k h).2⟩
  have := roles_short _ (hqr q h)
  omega
end Go.Pl

namespace Go.Hl
open Go Go.RowKit Go.Sort Go.Proofs

end Go.Hl

namespace Go.Pl
open Go Go.Hl

theorem full_valid_v {v : Int} (h1 : 1 ≤ v) (h2 : v ≤ maxN) : validR ⟨v, full.e, full.q, full.k, full.x⟩ = true := by
  have h := full_valid
  unfold validR at h ⊢
  simp only [Bool.and_eq_true, decide_eq_true_eq] at h ⊢
  exact ⟨⟨h1, h2⟩, h.2⟩
end Go.Pl

namespace Go.Pl
open Go Go.Hl

def rMid (r : Rt) : Prop := (r.q.length ≤ 12 ∧ ∀ q ∈ r.q, q.r.length ≤ 300) ∧ (r.k.length ≤ 32 ∧ ∀ k ∈ r.k, k.o.length ≤ 300 ∧ k.rs.length ≤ 30 ∧ ∀ w ∈ k.rs, w.length ≤ 300) ∧ r.x.length ≤ 65
theorem rMid.sz {r : Rt} (h : rMid r) : rSz r := by
  obtain ⟨⟨h1, h2⟩, ⟨h3, h4⟩, h5⟩ := h
  refine ⟨⟨by omega, fun q hq => by have := h2 q hq; omega⟩, ⟨by omega, fun k hk => ?_⟩, by omega⟩
  obtain ⟨k1, k2, k3⟩ := h4 k hk
  exact ⟨by omega, by omega, fun w hw => by have := k3 w hw; omega⟩
theorem mem_set_or {α : Type} {l : List α} {i : Nat} {x y : α} (h : y ∈ l.set i x) : y ∈ l ∨ y = x := by
  rcases List.mem_or_eq_of_mem_set h with h | h
  · exact .inl h
  · exact .inr h
theorem rMid.setK {r : Rt} (h : rMid r) (i : Nat) (k' : Ky) (h1 : k'.o.length ≤ 300) (h2 : k'.rs.length ≤ 30) (h3 : ∀ w ∈ k'.rs, w.length ≤ 300) : rMid ⟨r.v, r.e, r.q, r.k.set i k', r.x⟩ := by
  refine ⟨h.1, ⟨by show (r.k.set i k').length ≤ 32; rw [List.length_set]; exact h.2.1.1, fun k hk => ?_⟩, h.2.2⟩
  rcases mem_set_or hk with hk | rfl
  · exact h.2.1.2 k hk
  · exact ⟨h1, h2, h3⟩
theorem rMid.setQ {r : Rt} (h : rMid r) (i : Nat) (q' : Qt) (h1 : q'.r.length ≤ 300) : rMid ⟨r.v, r.e, r.q.set i q', r.k, r.x⟩ := by
  refine ⟨⟨by show (r.q.set i q').length ≤ 12; rw [List.length_set]; exact h.1.1, fun q hq => ?_⟩, h.2.1, h.2.2⟩
  rcases mem_set_or hq with hq | rfl
  · exact h.1.2 q hq
  · exact h1
theorem Ky.set_ph (x : Ky) (y : HV) : CV.setAt 0 1 y x.cv = some (.agg [.agg [y, .c (hf x.p.r)], .c (.str x.o), .c (.slc (x.rs.map .str)), .c (.int .i64 x.fr), .c (.int .i64 x.un)]) := by
  simp [Ky.cv, Pk.cv, CV.setAt, CV.setAtL, CV.cells, CV.cellsL, hf_cells]
end Go.Pl

namespace Go.Pl
open Go Go.Hl

def lightK (k : Ky) : Bool := decide (k.rs.length ≤ 30) && decide (k.o.length ≤ 300)
def lightB (r : Rt) : Bool := decide (r.q.length ≤ 30) && (decide (r.k.length ≤ 50) && (decide (r.x.length ≤ 100) && r.k.all lightK))
theorem gt_code (a b : Nat) : decide (a ≤ b) = !decide ((b : Int) < a) := by rw [Bool.eq_iff_iff]; simp
theorem light_code (r : Rt) : lightB r = (!decide ((30 : Int) < r.q.length) && (!decide ((50 : Int) < r.k.length) && (!decide ((100 : Int) < r.x.length) && r.k.all lightK))) := by
  unfold lightB; rw [gt_code, gt_code, gt_code]; rfl
theorem lightK_code (k : Ky) : lightK k = (!decide ((30 : Int) < k.rs.length) && !decide ((300 : Int) < k.o.length)) := by
  unfold lightK; rw [gt_code, gt_code]; rfl
theorem light_bad {r : Rt} {i : Nat} (hi : i < r.k.length) (h : lightK r.k[i] = false) : lightB r = false := by
  unfold lightB
  have : r.k.all lightK = false := List.all_eq_false.2 ⟨_, List.getElem_mem hi, by rw [h]; simp⟩
  rw [this]; simp
def rRaw (r : Rt) : Prop := (r.q.length ≤ maxLen ∧ ∀ q ∈ r.q, q.r.length ≤ maxLen) ∧ (r.k.length ≤ maxLen ∧ ∀ k ∈ r.k, k.o.length ≤ maxLen ∧ k.rs.length ≤ maxLen ∧ ∀ w ∈ k.rs, w.length ≤ maxLen) ∧ r.x.length ≤ maxLen
theorem light_sz {r : Rt} (h : rRaw r) (hl : lightB r = true) : rSz r := by
  unfold lightB at hl
  simp only [Bool.and_eq_true, decide_eq_true_eq, List.all_eq_true] at hl
  obtain ⟨h1, h2, h3, h4⟩ := hl
  simp only [lightK, Bool.and_eq_true, decide_eq_true_eq] at h4
  have e : maxLen = 9223372036854775807 := rfl
  refine ⟨⟨by omega, fun q hq => ?_⟩, ⟨by omega, fun k hk => ?_⟩, by omega⟩
  · have := h.1.2 q hq; omega
  · obtain ⟨k1, k2⟩ := h4 k hk
    exact ⟨by omega, by omega, fun w hw => by have := (h.2.1.2 k hk).2.2 w hw; omega⟩
theorem nameB_short {w : Word} (h : nameB w = true) : w.length ≤ 64 := by
  cases w with
  | nil => simp
  | cons c s =>
    unfold nameB at h
    simp only [Bool.and_eq_true, decide_eq_true_eq] at h
    exact h.1
theorem rMid_of_valid {r : Rt} (h : validR r = true) : rMid r ∧ 0 < r.k.length ∧ 0 < r.q.length ∧ r.x.length ≤ 64 := by
  unfold validR quotasB keysB revsB at h
  simp only [Bool.and_eq_true, decide_eq_true_eq, List.all_eq_true] at h
  obtain ⟨-, -, ⟨hq1, -, hq2⟩, ⟨hk1, -, hk2⟩, ⟨-, -, hx⟩, hn1, hn2⟩ := h
  refine ⟨⟨⟨hq2, fun q hq => ?_⟩, ⟨hk2, fun k hk => ?_⟩, by omega⟩, ?_, ?_, hx⟩
  · have := hq1 q hq
    unfold quotaB at this
    simp only [Bool.and_eq_true] at this
    have := nameB_short this.1
    omega
  · have := hk1 k hk
    unfold keyB namesB at this
    simp only [Bool.and_eq_true, decide_eq_true_eq, List.all_eq_true] at this
    obtain ⟨-, h1, ⟨-, h2⟩, ⟨h3, -⟩, -⟩ := this
    have := nameB_short h1
    exact ⟨by omega, by omega, fun w hw => by have := nameB_short (h3 w hw); omega⟩
  · rcases Nat.eq_zero_or_pos r.k.length with e | e
    · have e2 : r.k = [] := List.length_eq_zero_iff.1 e
      rw [e2] at hn2
      simp [ownB, ownF, setW] at hn2
      omega
    · exact e
  · rcases Nat.eq_zero_or_pos r.q.length with e | e
    · have e2 : r.q = [] := List.length_eq_zero_iff.1 e
      rw [e2] at hn1
      simp [need] at hn1
    · exact e

theorem cells_rt {l : List Rt} : (∀ v ∈ l.map Rt.cv, v.cells = 5) ↔ True := iff_true_intro fun v h => by obtain ⟨d, _, rfl⟩ := List.mem_map.1 h; exact Rt.cells d

end Go.Pl

namespace Go.Pl
open Go Go.Hl
set_option linter.unusedSimpArgs false

structure Ak where
  r : Word
  k : List Dig
  t : Int
def Ak.cv (x : Ak) : CV := .agg [.str x.r, .slc (x.k.map dg), .int .i64 x.t]
theorem Ak.cells (x : Ak) : x.cv.cells = 3 := by simp [Ak.cv, CV.cells, CV.cellsL, dg_cells, hf_cells]
theorem Ak.denil (x : Ak) : x.cv.denil = x.cv := by simp only [Ak.cv, CV.denil, CV.denilL, dg_denil, hf_denil, denilL_str, denilL_dg]
theorem Ak.isAgg (x : Ak) : x.cv.isAgg = true := rfl
theorem Ak.getAll (x : Ak) : CV.getAt 0 3 true x.cv = some x.cv := by
  have := Ak.cells x
  simp only [Ak.cv, CV.cells] at this
  simp only [Ak.cv, CV.getAt, this, and_self, if_true]
theorem Ak.setAll (x : Ak) (y : HV) : CV.setAt 0 3 y x.cv = some y := by
  have := Ak.cells x
  simp only [Ak.cv, CV.cells] at this
  simp only [Ak.cv, CV.setAt, this, and_self, if_true]
theorem Ak.fold (r : Word) (k : List Dig) (t : Int) : CV.agg [.str r, .slc (k.map dg), .int .i64 t] = Ak.cv ⟨r, k, t⟩ := rfl
theorem Ak.get_r (x : Ak) : CV.getAt 0 1 false x.cv = some (.str x.r) := by simp [Ak.cv, CV.getAt, CV.getAtL, CV.cells, CV.cellsL, dg_cells, hf_cells]
theorem Ak.set_r (x : Ak) (y : HV) : CV.setAt 0 1 y x.cv = some (.agg [y, .c (.slc (x.k.map dg)), .c (.int .i64 x.t)]) := by simp [Ak.cv, CV.setAt, CV.setAtL, CV.cells, CV.cellsL, dg_cells, hf_cells]
theorem Ak.get_k (x : Ak) : CV.getAt 1 1 false x.cv = some (.slc (x.k.map dg)) := by simp [Ak.cv, CV.getAt, CV.getAtL, CV.cells, CV.cellsL, dg_cells, hf_cells]
theorem Ak.set_k (x : Ak) (y : HV) : CV.setAt 1 1 y x.cv = some (.agg [.c (.str x.r), y, .c (.int .i64 x.t)]) := by simp [Ak.cv, CV.setAt, CV.setAtL, CV.cells, CV.cellsL, dg_cells, hf_cells]
theorem Ak.get_t (x : Ak) : CV.getAt 2 1 false x.cv = some (.int .i64 x.t) := by simp [Ak.cv, CV.getAt, CV.getAtL, CV.cells, CV.cellsL, dg_cells, hf_cells]
theorem Ak.set_t (x : Ak) (y : HV) : CV.setAt 2 1 y x.cv = some (.agg [.c (.str x.r), .c (.slc (x.k.map dg)), y]) := by simp [Ak.cv, CV.setAt, CV.setAtL, CV.cells, CV.cellsL, dg_cells, hf_cells]

end Go.Pl

namespace Go.Proofs.YtenbfeemmpjdhaaGreatDoor
open Go Go.Hl Go.Pl

theorem list_choose {α : Type} {f : α → CV} {Q : α → Prop} : ∀ (l : List CV), (∀ x ∈ l, ∃ y, x = f y ∧ Q y) → ∃ m : List α, l = m.map f ∧ ∀ y ∈ m, Q y
 | [], _ => ⟨[], rfl, by simp⟩
 | x :: l, h => by
  obtain ⟨y, rfl, hy⟩ := h x (by simp)
  obtain ⟨m, rfl, hm⟩ := list_choose l (fun x hx => h x (by simp [hx]))
  exact ⟨y :: m, rfl, fun z hz => by rcases List.mem_cons.1 hz with rfl | hz; exact hy; exact hm z hz⟩
theorem of_ints {c : CV} (h : HasTy Tryz.prog 27 c) : ∃ L : List Int, c = .slc (L.map (.int .i64)) ∧ (∀ n ∈ L, (Lit.int .i64 n).wf = true) ∧ L.length ≤ maxLen := by
 obtain ⟨l, rfl, hl, hn⟩ := h.of_slc Tryz.underlying27
 obtain ⟨m, rfl, hm⟩ := list_choose (f := CV.int .i64) (Q := fun n => (Lit.int .i64 n).wf = true) l (fun x hx => (hl x hx).of_int Tryz.underlying3)
 exact ⟨m, rfl, hm, by simpa using hn⟩
theorem of_bytes {m : Nat} {l : List CV} (hl : ∀ x ∈ l, HasTy Tryz.prog 5 x) (hn : l.length = m) : ∃ d : { l : List UInt8 // l.length = m }, l = d.1.map u8 := by
 obtain ⟨q, rfl, _⟩ := list_choose (f := u8) (Q := fun _ => True) l (fun x hx => by
  obtain ⟨n, rfl, hw⟩ := (hl x hx).of_int Tryz.underlying5
  have hb : 0 ≤ n ∧ n ≤ 255 := by simpa [Lit.wf, IntKind.min, IntKind.max, IntKind.signed, IntKind.bits] using hw
  refine ⟨UInt8.ofNat n.toNat, ?_, trivial⟩
  show CV.int .u8 n = CV.int .u8 _
  congr 1
  have : (UInt8.ofNat n.toNat).toNat = n.toNat := by rw [UInt8.toNat_ofNat']; exact Nat.mod_eq_of_lt (by omega)
  rw [this]; omega)
 exact ⟨⟨q, by simpa using hn⟩, rfl⟩
theorem of_dig {c : CV} (h : HasTy Tryz.prog 49 c) : ∃ d : Dig, c = dg d := by
 obtain ⟨l, rfl, hl, hn⟩ := h.of_arr Tryz.underlying49
 obtain ⟨d, rfl⟩ := of_bytes hl hn
 exact ⟨d, rfl⟩
theorem of_half {c : CV} (h : HasTy Tryz.prog 66 c) : ∃ d : Half, c = hf d := by
 obtain ⟨l, rfl, hl, hn⟩ := h.of_arr Tryz.underlying66
 obtain ⟨d, rfl⟩ := of_bytes hl hn
 exact ⟨d, rfl⟩
theorem of_strs {c : CV} (h : HasTy Tryz.prog 60 c) : ∃ l : List Word, c = .slc (l.map .str) ∧ (∀ w ∈ l, w.length ≤ maxLen) ∧ l.length ≤ maxLen := by
 obtain ⟨l, rfl, hl, hn⟩ := h.of_slc Tryz.underlying60
 obtain ⟨m, rfl, hm⟩ := list_choose (f := CV.str) (Q := fun w => w.length ≤ maxLen) l (fun x hx => (hl x hx).of_str Tryz.underlying9)
 exact ⟨m, rfl, hm, by simpa using hn⟩
theorem of_public {c : CV} (h : HasTy Tryz.prog 68 c) : ∃ x : Pk, c = x.cv := by
 obtain ⟨l, rfl, hn, hl⟩ := h.of_struct Tryz.underlying68
 match l, hn, hl with
 | [a, b], _, hl =>
  obtain ⟨n, rfl, _⟩ := (hl 0 _ a rfl rfl).of_int Tryz.underlying3
  obtain ⟨r, rfl⟩ := of_half (hl 1 _ b rfl rfl)
  exact ⟨⟨n, r⟩, rfl⟩
theorem of_quota {c : CV} (h : HasTy Tryz.prog 64 c) : ∃ x : Qt, c = x.cv ∧ x.r.length ≤ maxLen := by
 obtain ⟨l, rfl, hn, hl⟩ := h.of_struct Tryz.underlying64
 match l, hn, hl with
 | [a, b], _, hl =>
  obtain ⟨w, rfl, hw⟩ := (hl 0 _ a rfl rfl).of_str Tryz.underlying9
  obtain ⟨n, rfl, _⟩ := (hl 1 _ b rfl rfl).of_int Tryz.underlying3
  exact ⟨⟨w, n⟩, rfl, hw⟩
theorem of_rev {c : CV} (h : HasTy Tryz.prog 51 c) : ∃ x : Rv, c = x.cv := by
 obtain ⟨l, rfl, hn, hl⟩ := h.of_struct Tryz.underlying51
 match l, hn, hl with
 | [a, b], _, hl =>
  obtain ⟨d, rfl⟩ := of_dig (hl 0 _ a rfl rfl)
  obtain ⟨n, rfl, _⟩ := (hl 1 _ b rfl rfl).of_int Tryz.underlying2
  exact ⟨⟨d, n⟩, rfl⟩
theorem of_key {c : CV} (h : HasTy Tryz.prog 70 c) : ∃ x : Ky, c = x.cv ∧ x.o.length ≤ maxLen ∧ x.rs.length ≤ maxLen ∧ ∀ w ∈ x.rs, w.length ≤ maxLen := by
 obtain ⟨l, rfl, hn, hl⟩ := h.of_struct Tryz.underlying70
 match l, hn, hl with
 | [a, b, c, d, e], _, hl =>
  obtain ⟨p, rfl⟩ := of_public (hl 0 _ a rfl rfl)
  obtain ⟨o, rfl, ho⟩ := (hl 1 _ b rfl rfl).of_str Tryz.underlying9
  obtain ⟨rs, rfl, h1, h2⟩ := of_strs (hl 2 _ c rfl rfl)
  obtain ⟨x, rfl, _⟩ := (hl 3 _ d rfl rfl).of_int Tryz.underlying2
  obtain ⟨y, rfl, _⟩ := (hl 4 _ e rfl rfl).of_int Tryz.underlying2
  exact ⟨⟨p, o, rs, x, y⟩, rfl, ho, h2, h1⟩
theorem of_root {c : CV} (h : HasTy Tryz.prog 26 c) : ∃ r : Rt, c = r.cv ∧ rRaw r := by
 obtain ⟨l, rfl, hn, hl⟩ := h.of_struct Tryz.underlying26
 match l, hn, hl with
 | [a, b, c, d, e], _, hl =>
  obtain ⟨v, rfl, _⟩ := (hl 0 _ a rfl rfl).of_int Tryz.underlying2
  obtain ⟨x, rfl, _⟩ := (hl 1 _ b rfl rfl).of_int Tryz.underlying2
  obtain ⟨q, rfl, hq, n1⟩ := (hl 2 _ c rfl rfl).of_slc Tryz.underlying22
  obtain ⟨k, rfl, hk, n2⟩ := (hl 3 _ d rfl rfl).of_slc Tryz.underlying23
  obtain ⟨z, rfl, hz, n3⟩ := (hl 4 _ e rfl rfl).of_slc Tryz.underlying24
  obtain ⟨q, rfl, hq2⟩ := list_choose (f := Qt.cv) (Q := fun x => x.r.length ≤ maxLen) q (fun x hx => of_quota (hq x hx))
  obtain ⟨k, rfl, hk2⟩ := list_choose (f := Ky.cv) (Q := fun x => x.o.length ≤ maxLen ∧ x.rs.length ≤ maxLen ∧ ∀ w ∈ x.rs, w.length ≤ maxLen) k (fun x hx => of_key (hk x hx))
  obtain ⟨z, rfl, _⟩ := list_choose (f := Rv.cv) (Q := fun _ => True) z (fun x hx => by obtain ⟨d, rfl⟩ := of_rev (hz x hx); exact ⟨d, rfl, trivial⟩)
  exact ⟨⟨v, x, q, k, z⟩, rfl, ⟨by simpa using n1, hq2⟩, ⟨by simpa using n2, hk2⟩, by simpa using n3⟩
theorem own : ownKnob Tryz.prog.godebug = none := by kernel_rfl
theorem kids : Kids Tryz.prog (· < Tryz.prog.types.size) := kids_rows (by kernel_rfl) (by kernel_rfl)
theorem slicesFull : ∀ t e, t < Tryz.prog.types.size → Tryz.prog.underlying t = some (.slice e) → 0 < Tryz.prog.cellsOf e := slices_full_of Tryz.prog (by kernel_rfl)
end Go.Proofs.YtenbfeemmpjdhaaGreatDoor

namespace Go.Proofs.YtenbfeemmpjdhaaGreatDoor
open Go Go.Hl Go.Pl
section
variable {n k nx i : Nat} {ops : Array Oper} {o : Oper} {g : Option (Nat × Bool)} {fr fr' : Fr} {ob ob' : Ob}
theorem T0 {a b : Prop} (h : b) (e : b → a := by intro h; simp only [↓sP, sA, tyS, simprocAttr]; (repeat refine AI ?_); exact h) : a := e h
theorem T2 {a b : Prop} (h : b) (e : b → a := by intro h; simp only [sE, ↓reduceIte, simprocAttr]; (repeat refine AI ?_); exact h) : a := e h
theorem AX {a b : Prop} (h : b) (e : b → a := by intro h; (repeat refine AI ?_); exact h) : a := e h
theorem fF {l : List (Nat × HV)} {h : List (Nat × HO)} {nx2 : Nat} (hk : k ≤ nx2 := by omega) (h1 : FinOk nx2 fr l := by simp [FinOk, fin_at, finA_at, upd_at, HV.men, HV.menL, HV.norm, HV.toC, HV.toCL])
    (h2 : FobOk nx2 ob h := by simp [FobOk, fob_at, upd_at, none0_at, gone, HO.men, HV.men, HV.menL, HV.norm, HV.toC, HV.toCL]) : Fits k fr ob (fin l) (fob h) nx2 := fits_fin hk h1 h2
theorem i64s (i : Nat) (h : (i : Int) < 9223372036854775807 := by omega) : IntKind.i64.wrap ((i : Int) + 1) = (i : Int) + 1 := IntWalk.i64_in _ ⟨by omega, by omega⟩
theorem R0 {id nx' : Nat} {c2 : Code} {Q : HPost} (h : Hw Tryz.prog n k c2 Q fr' ob' nx') (hd : dstOk n ops = true := by kernel_rfl)
    (e : ∀ K : Fr → Ob → Nat → Prop, K fr' ob' nx' → hlex Tryz.prog ops nx (fun fr' ob' => hthen K Q .normal fr' ob' (nx + 4 * ops.size)) (List.range ops.size) fr ob := by intro K h; simp only [↓sP, sA, tyS, simprocAttr]; (repeat refine AI ?_); exact h) :
    Hw Tryz.prog n k (.seq (.region id ops false) c2) Q fr ob nx := hw_seq fun K hK => hw_region hd (e K (hK _ _ _ h))
section
variable {Q : Fr → Ob → Prop}
theorem S0 {l : List Nat} (h : hlex Tryz.prog ops nx Q l fr' ob') (ho : ops[i]? = some o := by exact rfl) (hg : gd ops o = some g := by exact rfl)
    (e : ∀ K : Fr → Ob → Prop, K fr' ob' → hop1 Tryz.prog (nx + 4 * i) [] g o.op o.dst K fr ob := by intro K h; simp only [sH, ↓sP, sA, tyS, simprocAttr]; (repeat refine AI ?_); exact h) : hlex Tryz.prog ops nx Q (i :: l) fr ob :=
  hlex_step ho hg fun K hK => e K (hK _ _ h)
theorem SG0 {l : List Nat} (h : hlexG Tryz.prog ops nx Q l fr' ob') (ho : ops[i]? = some o := by exact rfl) (hg : gd ops o = some g := by exact rfl)
    (e : ∀ K : Fr → Ob → Prop, K fr' ob' → hop1 Tryz.prog (nx + 4 * i) [] g o.op o.dst K fr ob := by intro K h; simp only [sH, ↓sP, sA, tyS, simprocAttr]; (repeat refine AI ?_); exact h) : hlexG Tryz.prog ops nx Q (i :: l) fr ob :=
  hlexG_step ho hg fun K hK => e K (hK _ _ h)
variable {cr rd : List Nat} {l : Plan} {C : Pend}
theorem W0 (h : hwalk2 Tryz.prog ops nx Q l (if isEff o.op = true then C else (i, if hgd g fr = some true then touch o.op (ev fr) else []) :: C) fr' ob') (ho : ops[i]? = some o := by exact rfl) (hg : gd ops o = some g := by exact rfl)
    (e : ∀ K : Fr → Ob → Prop, K fr' ob' → hop1 Tryz.prog (nx + 4 * i) (cr.flatMap (ids4 nx) ++ rd.flatMap (getF C)) g o.op o.dst K fr ob := by intro K h; simp only [sH, ↓sP, sA, tyS, simprocAttr]; (repeat refine AI ?_); exact h) : hwalk2 Tryz.prog ops nx Q ((i, cr, rd) :: l) C fr ob :=
  hwalk2_step ho hg fun K hK => e K (hK _ _ h)
theorem WG0 (h : hwalk2G Tryz.prog ops nx Q l (if isEff o.op = true then C else (i, if hgd g fr = some true then touch o.op (ev fr) else []) :: C) fr' ob') (ho : ops[i]? = some o := by exact rfl) (hg : gd ops o = some g := by exact rfl)
    (e : ∀ K : Fr → Ob → Prop, K fr' ob' → hop1 Tryz.prog (nx + 4 * i) (cr.flatMap (ids4 nx) ++ rd.flatMap (getF C)) g o.op o.dst K fr ob := by intro K h; simp only [sH, ↓sP, sA, tyS, simprocAttr]; (repeat refine AI ?_); exact h) : hwalk2G Tryz.prog ops nx Q ((i, cr, rd) :: l) C fr ob :=
  hwalk2G_step ho hg fun K hK => e K (hK _ _ h)
end
end
end Go.Proofs.YtenbfeemmpjdhaaGreatDoor

namespace Go.Proofs.YtenbfeemmpjdhaaGreatDoor
open Go Go.Hl Go.Pl
set_option maxRecDepth 10000
set_option linter.unusedSimpArgs false
set_option linter.unusedVariables false

theorem has_ok (l : List (List UInt8)) (w : List UInt8) (hl : l.length < 2 ^ 62) : HPure Tryz.prog 88 [.slc (l.map .str), .str w] (fun v => v = .bool (l.contains w)) := by
 refine hfn_walk Tryz.func88 rfl (by kernel_rfl) (locOk_nil _) (Nat.le_of_ble_eq_true rfl) ?_
 refine R0 ?_
 refine hw_seq fun K hK => ?_
 refine R0 ?_
 refine hw_block ?_
 refine hw_loop (α := {i : Nat // i ≤ l.length ∧ w ∉ l.take i}) (fun i => (fin [(0, .c (.slc (l.map .str))), (1, .c (.str w)), (5, .c (.int .i64 i.1))], fob [])) 0 (fun i => l.length - i.1) ⟨0, by omega, by simp⟩ (fF) ?_
 rintro ⟨i, hi, hni⟩
 refine hw_seq fun K hK => ?_
 refine R0 ?_
 refine hw_cond (b := decide ((i : Int) < l.length)) rfl (fun hb => ?_) (fun hb => ?_)
 ·
  have hlt : i < l.length := by simpa using hb
  refine hw_skip ?_
  refine T0 (hK _ _ _ ?_)
  clear hK K
  refine hw_seq fun K hK => hw_block ?_
  refine R0 ?_ (e := fun K_ h_ => by simp only [↓sP, sA, tyS, simprocAttr, Int.natCast_nonneg, Int.ofNat_lt, hlt, nth_map hlt]; exact AX h_)
  refine hw_cond (b := l[i] == w) rfl (fun hb => ?_) (fun hb => ?_)
  ·
   refine R0 ?_
   refine hw_ret ?_
   simp only [hpost, Tryz.results88, hresL, hres1, tupOf, ↓sP, sA, tyS, simprocAttr]
   refine hret_pure [] (.bool true) rfl ?_
   have : l[i] ∈ l := List.getElem_mem _
   simp_all
  refine hw_skip ?_
  refine T0 (hK _ _ _ ?_)
  clear hK K
  refine hw_region (by kernel_rfl) ?_
  simp only [↓sP, sA, tyS, simprocAttr, i64s i]
  refine ⟨⟨i + 1, hlt, ?_⟩, fF, ?_⟩
  ·
   rw [List.take_succ_eq_append_getElem hlt]
   intro hm
   rcases List.mem_append.1 hm with hm | hm
   ·
    exact hni hm
   simp_all
  show l.length - (i + 1) < l.length - i
  omega
 refine hw_exit ?_
 simp only [↓sP, sA, tyS, simprocAttr]
 clear hK K
 refine AX (hK _ _ _ ?_)
 clear hK K
 refine R0 ?_
 refine hw_ret ?_
 simp only [hpost, Tryz.results88, hresL, hres1, tupOf, ↓sP, sA, tyS, simprocAttr]
 refine hret_pure [] (.bool false) rfl ?_
 have : i = l.length := by simp at hb; omega
 subst this
 simpa using hni

theorem ascending_ok (l : List Word) (hl : l.length < 2 ^ 62) : HPure Tryz.prog 119 [.slc (l.map .str)] (fun v => v = .bool (ascB l)) := by
 refine hfn_walk Tryz.func119 rfl (by kernel_rfl) (locOk_nil _) (Nat.le_of_ble_eq_true rfl) ?_
 refine R0 ?_
 refine hw_seq fun K hK => ?_
 refine R0 ?_
 refine hw_block ?_
 refine hw_loop (α := {i : Nat // 1 ≤ i ∧ (i ≤ l.length ∨ i = 1) ∧ ∀ j (h : j + 1 < i) (h' : j + 1 < l.length), slt l[j] l[j + 1] = true}) (fun i => (fin [(0, .c (.slc (l.map .str))), (3, .c (.int .i64 i.1))], fob [])) 0 (fun i => l.length - i.1) ⟨1, by omega, by simp, fun j h => by omega⟩ (fF) ?_
 rintro ⟨i, h1, hi, hni⟩
 refine hw_seq fun K hK => ?_
 refine R0 ?_
 refine hw_cond (b := decide ((i : Int) < l.length)) rfl (fun hb => ?_) (fun hb => ?_)
 ·
  have hlt : i < l.length := by simpa using hb
  have e1 : IntKind.i64.wrap ((i : Int) - 1) = ((i - 1 : Nat) : Int) := by rw [IntWalk.i64_in _ (by omega)]; omega
  have hlt1 : i - 1 < l.length := by omega
  refine hw_skip ?_
  refine T0 (hK _ _ _ ?_)
  clear hK K
  refine hw_seq fun K hK => hw_block ?_
  refine hw_seq fun K hK => hw_quiet mixed (by kernel_rfl) (by kernel_rfl) (by kernel_rfl) ?_
  simp only [↓sP, sA, tyS, simprocAttr, Int.natCast_nonneg, Int.ofNat_lt, hlt, e1, hlt1, nth_map hlt, nth_map hlt1]
  refine AX (hK _ _ _ ?_)
  clear hK K
  refine hw_cond (b := !slt l[i - 1] l[i]) rfl (fun hb => ?_) (fun hb => ?_)
  ·
   refine R0 ?_
   refine hw_ret ?_
   simp only [hpost, Tryz.results119, hresL, hres1, tupOf, ↓sP, sA, tyS, simprocAttr]
   refine hret_pure [] (.bool false) rfl ?_
   congr 1
   refine (Bool.not_eq_true _ ▸ fun h => ?_ : ascB l = false).symm
   have := ascB_iff.1 h (i - 1) (by omega)
   simp only [show i - 1 + 1 = i by omega] at this
   simp [this] at hb
  refine hw_skip ?_
  refine T0 (hK _ _ _ ?_)
  clear hK K
  refine hw_region (by kernel_rfl) ?_
  simp only [↓sP, sA, tyS, simprocAttr, i64s i]
  refine ⟨⟨i + 1, by omega, by omega, fun j h h' => ?_⟩, fF, ?_⟩
  ·
   by_cases e : j + 1 = i
   ·
    subst e
    simpa using hb
   exact hni j (by omega) h'
  show l.length - (i + 1) < l.length - i
  omega
 refine hw_exit ?_
 simp only [↓sP, sA, tyS, simprocAttr]
 clear hK K
 refine AX (hK _ _ _ ?_)
 clear hK K
 refine R0 ?_
 refine hw_ret ?_
 simp only [hpost, Tryz.results119, hresL, hres1, tupOf, ↓sP, sA, tyS, simprocAttr]
 refine hret_pure [] (.bool true) rfl ?_
 have : l.length ≤ i := by simp at hb; omega
 exact congrArg _ (ascB_iff.2 fun j h => hni j (by omega) h).symm

end Go.Proofs.YtenbfeemmpjdhaaGreatDoor

namespace Go.Proofs.YtenbfeemmpjdhaaGreatDoor
open Go Go.Hl Go.Pl
set_option maxRecDepth 10000
set_option linter.unusedSimpArgs false
set_option linter.unusedVariables false

theorem add_ok (l : List Word) (w : Word) (hl : l.length < 2 ^ 40) : HPure Tryz.prog 89 [.slc (l.map .str), .str w] (fun v => v = .slc ((addW l w).map .str)) := by
 refine hfn_walk Tryz.func89 rfl (by kernel_rfl) (locOk_nil _) (Nat.le_of_ble_eq_true rfl) ?_
 refine R0 ?_
 refine hw_seq fun K hK => ?_
 refine hw_seq fun K hK => hw_region (by kernel_rfl) ?_
 simp only [↓sP, sA, tyS, simprocAttr]
 refine call_pure (has_ok l w (by omega)) ⟨rfl, rfl, rfl, rfl⟩ ?_
 rintro v rfl
 refine AX (hK _ _ _ ?_)
 clear hK K
 refine hw_cond (b := l.contains w) rfl (fun hb => ?_) (fun hb => ?_)
 ·
  refine R0 ?_
  refine hw_ret ?_
  simp only [hpost, Tryz.results89, hresL, hres1, tupOf, ↓sP, sA, tyS, simprocAttr]
  refine hret_pure [] (.slc (l.map .str)) ?_ ?_
  ·
   simp [HV.close, CV.denil, denilL_str]; rfl
  simp only [addW, hb, if_true]
 refine hw_skip ?_
 refine T0 (hK _ _ _ ?_)
 clear hK K
 refine R0 ?_
 refine R0 ?_
 refine hw_seq fun K hK => ?_
 refine hw_block ?_
 refine hw_own 5 0 9 1 rfl rfl rfl rfl ?_
 refine hw_loop (α := {i : Nat // i ≤ l.length ∧ ∀ j (h : j < i) (h' : j < l.length), slt l[j] w = true}) (fun i => (fin [(0, .c (.slc (l.map .str))), (1, .c (.str w)), (5, .own 24 i.1), (6, .c (.int .i64 i.1))], fob [(24, .row 9 1 ((l.take i.1).map .str))])) 25 (fun i => l.length - i.1) ⟨0, by omega, fun j h => by omega⟩ (fF) ?_
 rintro ⟨i, hi, hni⟩
 have hti : (l.take i).length = i := by simp; omega
 refine hw_seq fun K hK => ?_
 by_cases hlt : i < l.length
 ·
  refine hw_seq fun K hK => hw_region (by kernel_rfl) ?_
  simp only [sR, simprocAttr]
  iterate 5 refine S0 ?_ (e := fun K_ h_ => by simp only [sH, ↓sP, sA, tyS, simprocAttr, Int.natCast_nonneg, Int.ofNat_lt, hlt, nth_map hlt]; exact AX h_)
  iterate 6 refine S0 ?_ (e := fun K_ h_ => by simp only [sH, ↓sP, sA, tyS, simprocAttr, Int.natCast_nonneg, Int.ofNat_lt, hlt, nth_map hlt]; exact AX h_)
  refine S0 ?_ (e := fun K_ h_ => by simp only [sH, ↓sP, sA, tyS, simprocAttr, Int.natCast_nonneg, Int.ofNat_lt, hlt, nth_map hlt]; exact AX h_)
  refine T2 (hK _ _ _ ?_)
  clear hK K
  refine hw_cond (b := slt l[i] w) rfl (fun hb => ?_) (fun hb => ?_)
  ·
   refine hw_skip ?_
   refine T0 (hK _ _ _ ?_)
   clear hK K
   refine hw_block ?_
   refine hw_seq fun K hK => hw_region (by kernel_rfl) ?_
   simp only [sR, simprocAttr]
   iterate 8 refine S0 ?_ (e := fun K_ h_ => by simp only [sH, ↓sP, sA, tyS, simprocAttr, Int.natCast_nonneg, Int.ofNat_lt, hlt, nth_map hlt, hti, List.length_append]; exact AX h_)
   refine T2 (hK _ _ _ ?_)
   clear hK K
   refine hw_region (by kernel_rfl) ?_
   simp only [↓sP, sA, tyS, simprocAttr, i64s i]
   refine ⟨⟨i + 1, by omega, fun j h h' => ?_⟩, fits_fin (by omega) ?_ ?_, ?_⟩
   ·
    by_cases e : j = i
    ·
     subst e; exact hb
    exact hni j (by omega) h'
   ·
    simp [FinOk, upd_at, fin_at, HV.men]
   ·
    refine ⟨?_, by omega, trivial, trivial⟩
    simp only [List.take_succ_eq_append_getElem hlt, List.map_append]
    rfl
   show l.length - (i + 1) < l.length - i
   omega
  refine hw_exit ?_
  simp only [↓sP, sA, tyS, simprocAttr]
  clear hK K
  refine AX (hK _ _ _ ?_)
  clear hK K
  refine hw_seq fun K hK => hw_draw2 mixed [(0, [], []), (1, [], []), (2, [], []), (4, [2], []), (5, [2], []), (6, [2], []), (3, [], [4, 5, 6]), (7, [], []), (8, [], [])] [0, 0, 2, 7, 0, 0, 48, 127, 255] (by kernel_rfl) (by kernel_rfl) (by kernel_rfl) (by kernel_rfl) rfl (by kernel_rfl) ?_
  iterate 9 refine W0 ?_ (e := fun K_ h_ => by simp only [sH, ↓sP, sA, tyS, simprocAttr, hti, ← List.map_drop, ← List.map_take]; exact AX h_)
  refine T2 (hK _ _ _ ?_)
  clear hK K
  refine hw_ret ?_
  simp only [hpost, Tryz.results89, hresL, hres1, tupOf, ↓sP, sA, tyS, simprocAttr]
  refine hret_pure [24] (.slc ((l.take i ++ w :: l.drop i).map .str)) ?_ ?_
  ·
   have : l.take (l.length - i) = l.take (l.length - i) := rfl
   simp [HV.close, upd_at, HV.norm, HV.toC, List.take_of_length_le]
  rw [addW_eq (by assumption) hi hni (fun _ => hb)]
 refine hw_seq fun K hK => hw_region (by kernel_rfl) ?_
 simp only [sR, simprocAttr]
 iterate 5 refine S0 ?_ (e := fun K_ h_ => by simp only [sH, ↓sP, sA, tyS, simprocAttr, Int.ofNat_lt, hlt]; exact AX h_)
 iterate 6 refine S0 ?_ (e := fun K_ h_ => by simp only [sH, ↓sP, sA, tyS, simprocAttr, Int.ofNat_lt, hlt]; exact AX h_)
 refine S0 ?_ (e := fun K_ h_ => by simp only [sH, ↓sP, sA, tyS, simprocAttr, Int.ofNat_lt, hlt]; exact AX h_)
 refine T2 (hK _ _ _ ?_)
 clear hK K
 refine hw_cond (b := _) rfl (fun hb => ?_) (fun hb => ?_)
 ·
  cases hb
 refine hw_exit ?_
 simp only [↓sP, sA, tyS, simprocAttr]
 clear hK K
 refine AX (hK _ _ _ ?_)
 clear hK K
 refine hw_seq fun K hK => hw_draw2 mixed [(0, [], []), (1, [], []), (2, [], []), (4, [2], []), (5, [2], []), (6, [2], []), (3, [], [4, 5, 6]), (7, [], []), (8, [], [])] [0, 0, 2, 7, 0, 0, 48, 127, 255] (by kernel_rfl) (by kernel_rfl) (by kernel_rfl) (by kernel_rfl) rfl (by kernel_rfl) ?_
 iterate 9 refine W0 ?_ (e := fun K_ h_ => by simp only [sH, ↓sP, sA, tyS, simprocAttr, hti, ← List.map_drop, ← List.map_take]; exact AX h_)
 refine T2 (hK _ _ _ ?_)
 clear hK K
 refine hw_ret ?_
 simp only [hpost, Tryz.results89, hresL, hres1, tupOf, ↓sP, sA, tyS, simprocAttr]
 refine hret_pure [24] (.slc ((l.take i ++ w :: l.drop i).map .str)) ?_ ?_
 ·
  simp [HV.close, upd_at, HV.norm, HV.toC, List.take_of_length_le]
 rw [addW_eq (by assumption) hi hni (fun h => absurd h hlt)]

end Go.Proofs.YtenbfeemmpjdhaaGreatDoor

namespace Go.Proofs.YtenbfeemmpjdhaaGreatDoor
open Go Go.Hl Go.Pl
set_option maxRecDepth 10000
set_option maxHeartbeats 2000000
set_option linter.unusedSimpArgs false
set_option linter.unusedVariables false

theorem within_ok (lo n : Int) : HPure Tryz.prog 31 [.int .i64 lo, .int .i64 n] (fun v => v = .bool (decide (lo ≤ n) && decide (n ≤ maxN))) := by
  refine hfn_walk Tryz.func31 rfl (by kernel_rfl) (locOk_nil _) (Nat.le_of_ble_eq_true rfl) ?_
  refine R0 ?_
  refine hw_seq fun K hK => hw_region (by kernel_rfl) ?_
  simp only [sR, simprocAttr]
  iterate 4 refine S0 ?_
  refine hlex_cases 7 rfl (fun h1_7 => ?_) (fun h1_7 => ?_)
  · iterate 2 refine S0 ?_ (e := fun K_ h_ => by simp only [sH, ↓sP, sA, tyS, simprocAttr, h1_7]; exact AX h_)
    iterate 2 refine S0 ?_ (e := fun K_ h_ => by simp only [sH, ↓sP, sA, tyS, simprocAttr, h1_7]; exact AX h_)
    refine T2 (hK _ _ _ ?_)
    clear hK K
    refine hw_ret ?_
    simp only [hpost, Tryz.results31, hresL, hres1, tupOf, ↓sP, sA, tyS, simprocAttr]
    refine hret_pure [] (.bool _) rfl ?_
    simp [h1_7, maxN]
    all_goals first | rfl | simp_all
  · iterate 2 refine S0 ?_ (e := fun K_ h_ => by simp only [sH, ↓sP, sA, tyS, simprocAttr, h1_7]; exact AX h_)
    iterate 2 refine S0 ?_ (e := fun K_ h_ => by simp only [sH, ↓sP, sA, tyS, simprocAttr, h1_7]; exact AX h_)
    refine T2 (hK _ _ _ ?_)
    clear hK K
    refine hw_ret ?_
    simp only [hpost, Tryz.results31, hresL, hres1, tupOf, ↓sP, sA, tyS, simprocAttr]
    refine hret_pure [] (.bool _) rfl ?_
    simp [h1_7, maxN]
    all_goals first | rfl | simp_all


theorem instant_ok (n : Int) : HPure Tryz.prog 38 [.int .i64 n] (fun v => v = .bool (inN n)) := by
  refine hfn_walk Tryz.func38 rfl (by kernel_rfl) (locOk_nil _) (Nat.le_of_ble_eq_true rfl) ?_
  refine R0 ?_
  refine hw_seq fun K hK => hw_region (by kernel_rfl) ?_
  simp only [sR, simprocAttr]
  iterate 3 refine S0 ?_
  refine hlex_cases 4 rfl (fun h1_4 => ?_) (fun h1_4 => ?_)
  · iterate 2 refine S0 ?_ (e := fun K_ h_ => by simp only [sH, ↓sP, sA, tyS, simprocAttr, h1_4]; exact AX h_)
    iterate 2 refine S0 ?_ (e := fun K_ h_ => by simp only [sH, ↓sP, sA, tyS, simprocAttr, h1_4]; exact AX h_)
    refine T2 (hK _ _ _ ?_)
    clear hK K
    refine hw_ret ?_
    simp only [hpost, Tryz.results38, hresL, hres1, tupOf, ↓sP, sA, tyS, simprocAttr]
    refine hret_pure [] (.bool _) rfl ?_
    simp [h1_4, inN, maxN]
    all_goals first | rfl | simp_all
  · iterate 2 refine S0 ?_ (e := fun K_ h_ => by simp only [sH, ↓sP, sA, tyS, simprocAttr, h1_4]; exact AX h_)
    iterate 2 refine S0 ?_ (e := fun K_ h_ => by simp only [sH, ↓sP, sA, tyS, simprocAttr, h1_4]; exact AX h_)
    refine T2 (hK _ _ _ ?_)
    clear hK K
    refine hw_ret ?_
    simp only [hpost, Tryz.results38, hresL, hres1, tupOf, ↓sP, sA, tyS, simprocAttr]
    refine hret_pure [] (.bool _) rfl ?_
    simp [h1_4, inN, maxN]
    all_goals first | rfl | simp_all


theorem height_ok (n : Int) : HPure Tryz.prog 113 [.int .i64 n] (fun v => v = .bool (decide (0 ≤ n) && decide (n ≤ 6))) := by
  refine hfn_walk Tryz.func113 rfl (by kernel_rfl) (locOk_nil _) (Nat.le_of_ble_eq_true rfl) ?_
  refine R0 ?_
  refine hw_seq fun K hK => hw_region (by kernel_rfl) ?_
  simp only [sR, simprocAttr]
  iterate 3 refine S0 ?_
  refine hlex_cases 4 rfl (fun h1_4 => ?_) (fun h1_4 => ?_)
  · iterate 2 refine S0 ?_ (e := fun K_ h_ => by simp only [sH, ↓sP, sA, tyS, simprocAttr, h1_4]; exact AX h_)
    iterate 2 refine S0 ?_ (e := fun K_ h_ => by simp only [sH, ↓sP, sA, tyS, simprocAttr, h1_4]; exact AX h_)
    refine T2 (hK _ _ _ ?_)
    clear hK K
    refine hw_ret ?_
    simp only [hpost, Tryz.results113, hresL, hres1, tupOf, ↓sP, sA, tyS, simprocAttr]
    refine hret_pure [] (.bool _) rfl ?_
    simp [h1_4]
    all_goals first | rfl | simp_all
  · iterate 2 refine S0 ?_ (e := fun K_ h_ => by simp only [sH, ↓sP, sA, tyS, simprocAttr, h1_4]; exact AX h_)
    iterate 2 refine S0 ?_ (e := fun K_ h_ => by simp only [sH, ↓sP, sA, tyS, simprocAttr, h1_4]; exact AX h_)
    refine T2 (hK _ _ _ ?_)
    clear hK K
    refine hw_ret ?_
    simp only [hpost, Tryz.results113, hresL, hres1, tupOf, ↓sP, sA, tyS, simprocAttr]
    refine hret_pure [] (.bool _) rfl ?_
    simp [h1_4]
    all_goals first | rfl | simp_all


theorem pvalid_ok (p : Pk) : HPure Tryz.prog 78 [p.cv] (fun v => v = .bool (decide (0 ≤ p.h) && decide (p.h ≤ 6))) := by
  refine hfn_walk Tryz.func78 rfl (by kernel_rfl) (locOk_nil _) (Nat.le_of_ble_eq_true rfl) ?_
  refine R0 ?_
  refine hw_seq fun K hK => hw_region (by kernel_rfl) ?_
  simp only [sR, simprocAttr]
  iterate 2 refine S0 ?_
  refine hlex_step (g := none) rfl rfl fun K' hK' => ?_
  simp only [sH, ↓sP, sA, tyS, simprocAttr]
  refine call_pure (args := [_]) (height_ok p.h) ⟨rfl, rfl, rfl, rfl⟩ ?_
  rintro u rfl
  refine AX (hK' _ _ ?_)
  clear hK' K'
  refine S0 ?_
  refine T2 (hK _ _ _ ?_)
  clear hK K
  refine hw_ret ?_
  simp only [hpost, Tryz.results78, hresL, hres1, tupOf, ↓sP, sA, tyS, simprocAttr]
  exact hret_pure [] (.bool _) rfl rfl


theorem pvalid9_ok (p : Pk) : HPure Tryz.prog 85 [p.cv] (fun v => v = .bool (decide (0 ≤ p.h) && decide (p.h ≤ 6))) := by
  refine hfn_walk Tryz.func85 rfl (by kernel_rfl) (locOk_nil _) (Nat.le_of_ble_eq_true rfl) ?_
  refine R0 ?_
  refine hw_seq fun K hK => hw_region (by kernel_rfl) ?_
  simp only [sR, simprocAttr]
  iterate 4 refine S0 ?_
  refine hlex_cases 5 rfl (fun h1_5 => ?_) (fun h1_5 => ?_)
  · iterate 3 refine S0 ?_ (e := fun K_ h_ => by simp only [sH, ↓sP, sA, tyS, simprocAttr, h1_5]; exact AX h_)
    iterate 2 refine S0 ?_ (e := fun K_ h_ => by simp only [sH, ↓sP, sA, tyS, simprocAttr, h1_5]; exact AX h_)
    refine T2 (hK _ _ _ ?_)
    clear hK K
    refine hw_ret ?_
    simp only [hpost, Tryz.results85, hresL, hres1, tupOf, ↓sP, sA, tyS, simprocAttr]
    refine hret_pure [] (.bool _) rfl ?_
    simp [h1_5]
    all_goals first | rfl | simp_all
  · iterate 3 refine S0 ?_ (e := fun K_ h_ => by simp only [sH, ↓sP, sA, tyS, simprocAttr, h1_5]; exact AX h_)
    iterate 2 refine S0 ?_ (e := fun K_ h_ => by simp only [sH, ↓sP, sA, tyS, simprocAttr, h1_5]; exact AX h_)
    refine T2 (hK _ _ _ ?_)
    clear hK K
    refine hw_ret ?_
    simp only [hpost, Tryz.results85, hresL, hres1, tupOf, ↓sP, sA, tyS, simprocAttr]
    refine hret_pure [] (.bool _) rfl ?_
    simp [h1_5]
    all_goals first | rfl | simp_all


theorem need_ok (r : Rt) (w : Word) (hl : r.q.length < 2 ^ 40) : HPure Tryz.prog 35 [r.cv, .str w] (fun v => v = .int .i64 (need r.q w)) := by
  refine hfn_walk Tryz.func35 rfl (by kernel_rfl) (locOk_nil _) (Nat.le_of_ble_eq_true rfl) ?_
  refine R0 ?_
  refine hw_seq fun K hK => ?_
  refine hw_seq fun K hK => hw_region (by kernel_rfl) ?_
  simp only [sR, simprocAttr]
  iterate 4 refine S0 ?_
  refine T2 (hK _ _ _ ?_)
  clear hK K
  refine hw_block ?_
  refine hw_loop (α := {i : Nat // i ≤ r.q.length ∧ ∀ x ∈ r.q.take i, (x.r == w) = false}) (fun i => (fin [(1, .c (.str w)), (8, .c (.slc (r.q.map Qt.cv))), (9, .c (.int .i64 r.q.length)), (10, .c (.int .i64 i.1))], fob [])) 100 (fun i => r.q.length - i.1) ⟨0, by omega, by simp⟩ (fF) ?_
  rintro ⟨i, hi, h0⟩
  refine R0 ?_
  refine hw_seq fun K hK => ?_
  refine hw_cond (b := decide ((i : Int) < r.q.length)) rfl (fun hb => ?_) (fun hb => ?_)
  · have hlt : i < r.q.length := by simpa using hb
    refine hw_skip ?_
    refine T0 (hK _ _ _ ?_)
    clear hK K
    refine hw_seq fun K hK => ?_
    refine hw_block ?_
    refine hw_seq fun K hK => hw_region (by kernel_rfl) ?_
    simp only [sR, simprocAttr]
    iterate 4 refine S0 ?_ (e := fun K_ h_ => by simp only [sH, ↓sP, sA, tyS, simprocAttr, Int.natCast_nonneg, Int.ofNat_lt, hlt, nth_map hlt]; exact AX h_)
    refine T2 (hK _ _ _ ?_)
    clear hK K
    refine hw_seq fun K hK => hw_region (by kernel_rfl) ?_
    simp only [sR, simprocAttr]
    iterate 4 refine S0 ?_
    refine T2 (hK _ _ _ ?_)
    clear hK K
    refine hw_cond (b := r.q[i].r == w) rfl (fun hb => ?_) (fun hb => ?_)
    · refine R0 ?_
      refine hw_ret ?_
      simp only [hpost, Tryz.results35, hresL, hres1, tupOf, ↓sP, sA, tyS, simprocAttr]
      exact hret_pure [] (.int .i64 r.q[i].n) rfl (by rw [need_hit hlt hb h0])
    · refine hw_skip ?_
      refine T0 (hK _ _ _ ?_)
      clear hK K
      refine hw_region (by kernel_rfl) ?_
      simp only [↓sP, sA, tyS, simprocAttr, i64s i]
      refine ⟨⟨i + 1, hlt, take_miss (p := fun x => x.r == w) hlt hb h0⟩, fF, ?_⟩
      show r.q.length - (i + 1) < r.q.length - i
      omega
  · refine hw_exit ?_
    simp only [↓sP, sA, tyS, simprocAttr]
    clear hK K
    refine AX (hK _ _ _ ?_)
    clear hK K
    refine R0 ?_
    refine hw_ret ?_
    simp only [hpost, Tryz.results35, hresL, hres1, tupOf, ↓sP, sA, tyS, simprocAttr]
    have hei : i = r.q.length := by simp at hb; omega
    subst hei
    exact hret_pure [] (.int .i64 0) rfl (by rw [need_miss (by simpa using h0)])


theorem quota_ok (r : Rt) (w : Word) (hl : r.q.length < 2 ^ 40) : HPure Tryz.prog 43 [r.cv, .str w] (fun v => v = .int .i64 (need r.q w)) := by
  refine hfn_walk Tryz.func43 rfl (by kernel_rfl) (locOk_nil _) (Nat.le_of_ble_eq_true rfl) ?_
  refine R0 ?_
  refine hw_seq fun K hK => ?_
  refine R0 ?_
  refine hw_block ?_
  refine hw_loop (α := {i : Nat // i ≤ r.q.length ∧ ∀ x ∈ r.q.take i, (x.r == w) = false}) (fun i => (fin [(1, .c (.str w)), (2, .ptr 0 0), (5, .c (.int .i64 i.1))], fob [(0, .box 26 (.c r.cv))])) 100 (fun i => r.q.length - i.1) ⟨0, by omega, by simp⟩ (fF) ?_
  rintro ⟨i, hi, h0⟩
  refine hw_seq fun K hK => ?_
  refine hw_seq fun K hK => hw_region (by kernel_rfl) ?_
  simp only [sR, simprocAttr]
  iterate 5 refine S0 ?_
  refine T2 (hK _ _ _ ?_)
  clear hK K
  refine hw_cond (b := decide ((i : Int) < r.q.length)) rfl (fun hb => ?_) (fun hb => ?_)
  · have hlt : i < r.q.length := by simpa using hb
    refine hw_skip ?_
    refine T0 (hK _ _ _ ?_)
    clear hK K
    refine hw_seq fun K hK => ?_
    refine hw_block ?_
    refine hw_seq fun K hK => hw_region (by kernel_rfl) ?_
    simp only [sR, simprocAttr]
    iterate 8 refine S0 ?_ (e := fun K_ h_ => by simp only [sH, ↓sP, sA, tyS, simprocAttr, Int.natCast_nonneg, Int.ofNat_lt, hlt, nth_map hlt]; exact AX h_)
    refine T2 (hK _ _ _ ?_)
    clear hK K
    refine hw_cond (b := r.q[i].r == w) rfl (fun hb => ?_) (fun hb => ?_)
    · refine hw_seq fun K hK => hw_region (by kernel_rfl) ?_
      simp only [sR, simprocAttr]
      iterate 7 refine S0 ?_ (e := fun K_ h_ => by simp only [sH, ↓sP, sA, tyS, simprocAttr, Int.natCast_nonneg, Int.ofNat_lt, hlt, nth_map hlt]; exact AX h_)
      refine T2 (hK _ _ _ ?_)
      clear hK K
      refine hw_ret ?_
      simp only [hpost, Tryz.results43, hresL, hres1, tupOf, ↓sP, sA, tyS, simprocAttr]
      exact hret_pure [] (.int .i64 r.q[i].n) rfl (by rw [need_hit hlt hb h0])
    · refine hw_skip ?_
      refine T0 (hK _ _ _ ?_)
      clear hK K
      refine hw_region (by kernel_rfl) ?_
      simp only [↓sP, sA, tyS, simprocAttr, i64s i]
      refine ⟨⟨i + 1, hlt, take_miss (p := fun x => x.r == w) hlt hb h0⟩, fF, ?_⟩
      show r.q.length - (i + 1) < r.q.length - i
      omega
  · refine hw_exit ?_
    simp only [↓sP, sA, tyS, simprocAttr]
    clear hK K
    refine AX (hK _ _ _ ?_)
    clear hK K
    refine R0 ?_
    refine hw_ret ?_
    simp only [hpost, Tryz.results43, hresL, hres1, tupOf, ↓sP, sA, tyS, simprocAttr]
    have hei : i = r.q.length := by simp at hb; omega
    subst hei
    exact hret_pure [] (.int .i64 0) rfl (by rw [need_miss (by simpa using h0)])


theorem revoked_ok (r : Rt) (d : Dig) (hl : r.x.length < 2 ^ 40) : HPure2 Tryz.prog 93 [r.cv, dg d] (fun u v => u = .int .i64 (revZ r.x d) ∧ v = .bool (revS r.x d)) := by
  refine hfn_walk Tryz.func93 rfl (by kernel_rfl) (locOk_nil _) (Nat.le_of_ble_eq_true rfl) ?_
  refine hw_seq fun K hK => hw_region (by kernel_rfl) ?_
  simp only [sR, simprocAttr]
  iterate 4 refine S0 ?_
  refine T2 (hK _ _ _ ?_)
  clear hK K
  refine hw_seq fun K hK => ?_
  refine hw_seq fun K hK => hw_region (by kernel_rfl) ?_
  simp only [sR, simprocAttr]
  iterate 4 refine S0 ?_
  refine T2 (hK _ _ _ ?_)
  clear hK K
  refine hw_block ?_
  refine hw_loop (α := {i : Nat // i ≤ r.x.length ∧ ∀ x ∈ r.x.take i, (x.k == d) = false}) (fun i => (fin [(3, .ptr 4 0), (9, .c (.slc (r.x.map Rv.cv))), (10, .c (.int .i64 r.x.length)), (11, .c (.int .i64 i.1))], fob [(4, .box 49 (.c (dg d)))])) 100 (fun i => r.x.length - i.1) ⟨0, by omega, by simp⟩ (fF) ?_
  rintro ⟨i, hi, h0⟩
  refine R0 ?_
  refine hw_seq fun K hK => ?_
  refine hw_cond (b := decide ((i : Int) < r.x.length)) rfl (fun hb => ?_) (fun hb => ?_)
  · have hlt : i < r.x.length := by simpa using hb
    refine hw_skip ?_
    refine T0 (hK _ _ _ ?_)
    clear hK K
    refine hw_seq fun K hK => ?_
    refine hw_block ?_
    refine hw_seq fun K hK => hw_region (by kernel_rfl) ?_
    simp only [sR, simprocAttr]
    iterate 4 refine S0 ?_ (e := fun K_ h_ => by simp only [sH, ↓sP, sA, tyS, simprocAttr, Int.natCast_nonneg, Int.ofNat_lt, hlt, nth_map hlt]; exact AX h_)
    refine T2 (hK _ _ _ ?_)
    clear hK K
    refine hw_seq fun K hK => hw_region (by kernel_rfl) ?_
    simp only [sR, simprocAttr]
    iterate 4 refine S0 ?_
    refine T2 (hK _ _ _ ?_)
    clear hK K
    refine hw_cond (b := r.x[i].k == d) rfl (fun hb => ?_) (fun hb => ?_)
    · refine hw_seq fun K hK => hw_region (by kernel_rfl) ?_
      simp only [sR, simprocAttr]
      iterate 4 refine S0 ?_
      refine T2 (hK _ _ _ ?_)
      clear hK K
      refine hw_ret ?_
      simp only [hpost, Tryz.results93, hresL, hres1, tupOf, ↓sP, sA, tyS, simprocAttr]
      exact hret_pure2 [] (.int .i64 r.x[i].t) (.bool true) rfl ⟨by unfold revZ; rw [rev_hit hlt hb h0]; rfl, by unfold revS; rw [rev_hit hlt hb h0]; rfl⟩
    · refine hw_skip ?_
      refine T0 (hK _ _ _ ?_)
      clear hK K
      refine hw_region (by kernel_rfl) ?_
      simp only [↓sP, sA, tyS, simprocAttr, i64s i]
      refine ⟨⟨i + 1, hlt, take_miss (p := fun x => x.k == d) hlt hb h0⟩, fF, ?_⟩
      show r.x.length - (i + 1) < r.x.length - i
      omega
  · refine hw_exit ?_
    simp only [↓sP, sA, tyS, simprocAttr]
    clear hK K
    refine AX (hK _ _ _ ?_)
    clear hK K
    refine R0 ?_
    refine hw_ret ?_
    simp only [hpost, Tryz.results93, hresL, hres1, tupOf, ↓sP, sA, tyS, simprocAttr]
    have hei : i = r.x.length := by simp at hb; omega
    subst hei
    have hm := rev_miss (l := r.x) (d := d) (by simpa using h0)
    exact hret_pure2 [] (.int .i64 0) (.bool false) rfl ⟨by unfold revZ; rw [hm]; rfl, by unfold revS; rw [hm]; rfl⟩


theorem less_ok (a b : Dig) : HPure Tryz.prog 41 [dg a, dg b] (fun v => v = .bool (dlt a b)) := by
  refine hfn_walk Tryz.func41 rfl (by kernel_rfl) (locOk_nil _) (Nat.le_of_ble_eq_true rfl) ?_
  refine R0 ?_
  refine hw_seq fun K hK => ?_
  refine R0 ?_
  refine hw_block ?_
  refine hw_loop (α := {i : Nat // i ≤ 32 ∧ a.1.take i = b.1.take i}) (fun i => (fin [(2, .ptr 0 0), (3, .ptr 4 0), (5, .c (.int .i64 i.1))], fob [(0, .box 49 (.c (dg a))), (4, .box 49 (.c (dg b)))])) 100 (fun i => 32 - i.1) ⟨0, by omega, by simp⟩ (fF) ?_
  rintro ⟨i, hi, h0⟩
  refine hw_seq fun K hK => ?_
  refine R0 ?_
  refine hw_cond (b := decide ((i : Int) < 32)) rfl (fun hb => ?_) (fun hb => ?_)
  · have hlt : i < 32 := by simp at hb; omega
    have hlt' : (i : Int) < 32 := by omega
    have ha : i < a.1.length := by rw [a.2]; exact hlt
    have hb' : i < b.1.length := by rw [b.2]; exact hlt
    refine hw_skip ?_
    refine T0 (hK _ _ _ ?_)
    clear hK K
    refine hw_seq fun K hK => ?_
    refine hw_block ?_
    refine hw_seq fun K hK => hw_quiet mixed (by kernel_rfl) (by kernel_rfl) (by kernel_rfl) ?_
    simp only [sR, simprocAttr]
    iterate 7 refine S0 ?_ (e := fun K_ h_ => by simp only [sH, ↓sP, sA, tyS, simprocAttr, Int.natCast_nonneg, hlt', dg_get hlt, Nat.mul_one, u8]; exact AX h_)
    refine T2 (hK _ _ _ ?_)
    clear hK K
    refine hw_cond (b := (((a.1[i]).toNat : Int) != ((b.1[i]).toNat : Int))) rfl (fun hb => ?_) (fun hb => ?_)
    · refine hw_seq fun K hK => hw_quiet mixed (by kernel_rfl) (by kernel_rfl) (by kernel_rfl) ?_
      simp only [sR, simprocAttr]
      iterate 8 refine S0 ?_ (e := fun K_ h_ => by simp only [sH, ↓sP, sA, tyS, simprocAttr, Int.natCast_nonneg, hlt', dg_get hlt, Nat.mul_one, u8]; exact AX h_)
      refine T2 (hK _ _ _ ?_)
      clear hK K
      refine hw_ret ?_
      simp only [hpost, Tryz.results41, hresL, hres1, tupOf, ↓sP, sA, tyS, simprocAttr]
      rw [u8_ne] at hb
      exact hret_pure [] (.bool _) rfl (by rw [u8_lt, dlt_at hlt h0 (by simpa using hb)])
    · refine hw_skip ?_
      refine T0 (hK _ _ _ ?_)
      clear hK K
      refine hw_region (by kernel_rfl) ?_
      simp only [↓sP, sA, tyS, simprocAttr, i64s i]
      rw [u8_ne] at hb
      refine ⟨⟨i + 1, hlt, ?_⟩, fF, ?_⟩
      · rw [List.take_succ_eq_append_getElem ha, List.take_succ_eq_append_getElem hb', h0]
        have : a.1[i] = b.1[i] := by simpa using hb
        rw [this]
      · show 32 - (i + 1) < 32 - i
        omega
  · refine hw_exit ?_
    simp only [↓sP, sA, tyS, simprocAttr]
    clear hK K
    refine AX (hK _ _ _ ?_)
    clear hK K
    refine R0 ?_
    refine hw_ret ?_
    simp only [hpost, Tryz.results41, hresL, hres1, tupOf, ↓sP, sA, tyS, simprocAttr]
    have hei : i = 32 := by simp at hb; omega
    subst hei
    exact hret_pure [] (.bool false) rfl (by rw [dlt_same h0])

end Go.Proofs.YtenbfeemmpjdhaaGreatDoor
