/- HL: a struct of one struct is that struct; functions that write a boxed array through a slice over it. By an AI agent. -/
import Derived.Test.YtenbfeemmpjdhaaGreatDoorHySq
import Derived.Test.YtenbfeemmpjdhaaGreatDoorHyU1
import Derived.Test.YtenbfeemmpjdhaaGreatDoorHlZb
import Derived.Test.YtenbfeemmpjdhaaGreatDoorPl11q
import Derived.Lib.ItoaLen
import Derived.Test.YtenbfeemmpjdhaaGreatDoorPl11
set_option linter.unusedSimpArgs false
set_option linter.unusedVariables false
set_option linter.defProp false
namespace Go.Proofs.YtenbfeemmpjdhaaGreatDoor
open Go Go.Hl Go.Pl
set_option maxRecDepth 10000
set_option maxHeartbeats 2000000
set_option linter.unusedSimpArgs false
set_option linter.unusedVariables false

theorem check_ok (l : List Word) (hl : l.length < 2 ^ 40) : HPure Tryz.prog 71 [.slc (l.map .str)] (fun v => v = .int .i64 (chkL l)) := by
 refine hfn_walk Tryz.func71 rfl (by kernel_rfl) (locOk_nil _) (Nat.le_of_ble_eq_true rfl) ?_
 refine R0 ?_
 refine hw_seq fun K hK => ?_
 refine hw_block ?_
 refine hw_seq fun K hK => Rg ?_
 iterate 4 refine S0 ?_
 refine T2 (hK _ _ _ ?_)
 clear hK K
 refine hw_cond (b := (l.length : Int) == 0) rfl (fun hb => ?_) (fun hb => ?_)
 ·
  refine R0 ?_
  refine hw_ret ?_
  simp only [hpost, Tryz.results71, hresL, hres1, tupOf, ↓sP, sA, tyS, simprocAttr]
  exact hret_pure [] (.int .i64 1) rfl (by rw [chkL, if_pos (by simp at hb; simp [hb])])
 have hn0 : l.length ≠ 0 := by simp at hb; simp [hb]
 clear hb
 refine hw_seq fun K hK => Rg ?_
 iterate 4 refine S0 ?_
 refine T2 (hK _ _ _ ?_)
 clear hK K
 refine hw_cond (b := decide ((120 : Int) < l.length)) rfl (fun hb => ?_) (fun hb => ?_)
 ·
  refine R0 ?_
  refine hw_ret ?_
  simp only [hpost, Tryz.results71, hresL, hres1, tupOf, ↓sP, sA, tyS, simprocAttr]
  exact hret_pure [] (.int .i64 3) rfl (by rw [chkL, if_neg hn0, if_pos (by simp at hb; omega)])
 refine hw_skip ?_
 refine T0 (hK _ _ _ ?_)
 clear hK K
 refine hw_seq fun K hK => ?_
 have hn1 : l.length ≤ 120 := by simp at hb; omega
 clear hb
 refine R0 ?_
 refine hw_block ?_
 refine hw_loop (α := {i : Nat // i ≤ l.length ∧ ∀ x ∈ l.take i, decide (32768 < x.length) = false}) (fun i => (fin [(13, .c (.slc (l.map .str))), (14, .c (.int .i64 l.length)), (15, .c (.int .i64 i.1))], fob [])) 100 (fun i => l.length - i.1) ⟨0, by omega, by simp⟩ (fF) ?_
 rintro ⟨i, hi, h0⟩
 refine R0 ?_
 refine hw_seq fun K hK => ?_
 refine hw_cond (b := decide ((i : Int) < l.length)) rfl (fun hb => ?_) (fun hb => ?_)
 ·
  have hlt : i < l.length := by simpa using hb
  clear hb
  refine hw_skip ?_
  refine T0 (hK _ _ _ ?_)
  clear hK K
  refine hw_seq fun K hK => ?_
  refine hw_block ?_
  refine R0 ?_ (e := fun _ h_ => by simp only [↓sP, sA, tyS, simprocAttr, Int.natCast_nonneg, Int.ofNat_lt, hlt, nth_map hlt]; exact AX h_)
  refine R0 ?_
  refine hw_cond (b := decide ((32768 : Int) < l[i].length)) rfl (fun hb => ?_) (fun hb => ?_)
  ·
   refine R0 ?_
   refine hw_ret ?_
   simp only [hpost, Tryz.results71, hresL, hres1, tupOf, ↓sP, sA, tyS, simprocAttr]
   exact hret_pure [] (.int .i64 3) rfl (by rw [chkL, if_neg hn0, if_neg (by omega), if_pos]; simp only [List.any_eq_true, decide_eq_true_eq]; exact ⟨_, List.getElem_mem hlt, by simp at hb; omega⟩)
  refine hw_skip ?_
  refine T0 (hK _ _ _ ?_)
  clear hK K
  refine hw_region (by kernel_rfl) ?_
  simp only [↓sP, sA, tyS, simprocAttr, i64s i]
  have hb2 : decide (32768 < l[i].length) = false := by simp at hb ⊢; omega
  refine ⟨⟨i + 1, hlt, take_miss (p := fun x => decide (32768 < x.length)) hlt hb2 h0⟩, fF, ?_⟩
  show l.length - (i + 1) < l.length - i
  omega
 refine hw_exit ?_
 simp only [↓sP, sA, tyS, simprocAttr]
 clear hK K
 refine AX (hK _ _ _ ?_)
 clear hK K
 refine R0 ?_
 refine hw_ret ?_
 simp only [hpost, Tryz.results71, hresL, hres1, tupOf, ↓sP, sA, tyS, simprocAttr]
 have hei : i = l.length := by simp at hb; omega
 subst hei
 rw [List.take_length] at h0
 exact hret_pure [] (.int .i64 0) rfl (by rw [chkL, if_neg hn0, if_neg (by omega), if_neg]; simp only [List.any_eq_true, not_exists, not_and]; intro x hx; simp [h0 x hx])


end Go.Proofs.YtenbfeemmpjdhaaGreatDoor

namespace Go.Hl
open Go Go.Pl

def idxB (l : List UInt8) (c : UInt8) : Int := match l.findIdx? (· == c) with | some i => (i : Int) | none => -1
theorem find_idx {α : Type} {p : α → Bool} (d : α) : ∀ (l : List α), (List.range l.length).find? (fun i => p (l.getD i d)) = l.findIdx? p
 | [] => rfl
 | a :: l => by
  rw [List.length_cons, find_range, List.findIdx?_cons]
  simp only [List.getD_cons_zero, List.getD_cons_succ]
  rw [find_idx d l]
theorem idx_run {P : Program} {w : World} {l : List UInt8} {x y : Value} {c : UInt8} (hx : (Extern.Bytes.bytesOf x).run P w = .ok ⟨l.toArray⟩ w) (hy : (Extern.Bytes.asByte y).run P w = .ok c w) :
  (Extern.BytealgIndexByte.indexByte #[x, y]).run P w = .ok (.int .i64 (idxB l c)) w := by
 change (Sem.run P (do
  let b ← Extern.Bytes.bytesOf x
  let c ← Extern.Bytes.asByte y
  match (List.range b.size).find? fun i => b[i]! == c with
  | some i => pure (goInt i)
  | none => pure (goInt (-1))) w) = _
 simp only [Sem.run_bind, hx, hy, Result.andThen_ok]
 have h1 : (⟨l.toArray⟩ : ByteArray).size = l.length := by simp [ByteArray.size]
 have h2 : ∀ i : Nat, (⟨l.toArray⟩ : ByteArray)[i]! = l.getD i 0 := fun i => by exact Go.Lib.get!_eq l i
 simp only [h1, h2, find_idx (p := fun b => b == c)]
 unfold idxB
 cases l.findIdx? fun b => b == c <;> rfl
theorem asByte_run {P : Program} {w : World} {ρ : Env} {O : Nat → Prop} {c : UInt8} {y : Value} (h : RepV w ρ O (.c (u8 c)) y) : (Extern.Bytes.asByte y).run P w = .ok c w := by
 have h1 := h.single rfl
 simp only [u8, RepC, List.cons.injEq, and_true] at h1
 subst h1
 simp [Extern.Bytes.asByte]
theorem bix_ok {P : Program} {f : FuncId} {fn : Func} (hf : P.funcs[f]? = some fn) (hname : (fn.name == "runtime.NumGoroutine") = false) (hb : fn.body.isNone = true) (hn : Extern.findNext fn = none)
  (he : Extern.find fn = some Extern.BytealgIndexByte.indexByte) (l : List UInt8) (c : UInt8) : HPure P f [.slc (l.map u8), u8 c] (fun v => v = .int .i64 (idxB l c)) :=
 hpure_ext hf hname hb hn he fun w ρ O xs h => by
  simp only [List.map_cons, List.map_nil, repHV_cons, RepHV] at h
  obtain ⟨x, l1, rfl, hx, y, l2, rfl, hy, rfl⟩ := h
  exact ⟨_, _, rfl, repV_int _ _ _ _ _, idx_run (bytes_run hx) (asByte_run hy)⟩
theorem bixs_ok {P : Program} {f : FuncId} {fn : Func} (hf : P.funcs[f]? = some fn) (hname : (fn.name == "runtime.NumGoroutine") = false) (hb : fn.body.isNone = true) (hn : Extern.findNext fn = none)
  (he : Extern.find fn = some Extern.BytealgIndexByte.indexByte) (l : List UInt8) (c : UInt8) : HPure P f [.str l, u8 c] (fun v => v = .int .i64 (idxB l c)) :=
 hpure_ext hf hname hb hn he fun w ρ O xs h => by
  simp only [List.map_cons, List.map_nil, repHV_cons, RepHV] at h
  obtain ⟨x, l1, rfl, hx, y, l2, rfl, hy, rfl⟩ := h
  have hx' : (Extern.Bytes.bytesOf x).run P w = .ok ⟨l.toArray⟩ w := by
   have h1 := hx.single rfl
   simp only [RepC, List.cons.injEq, and_true] at h1
   subst h1
   rfl
  exact ⟨_, _, rfl, repV_int _ _ _ _ _, idx_run hx' (asByte_run hy)⟩
end Go.Hl

namespace Go.Hl
open Go

section
variable {P : Program} {av : List Nat} {f : FuncId} {ob : Ob} {nid id n : Nat} {K : HV → Ob → Prop} {T e : TypeId} {sz : Nat} {v : CV} {l : List CV} {rest : List HV}
end

def HPure3 (P : Program) (f : FuncId) (args : List CV) (R : CV → CV → CV → Prop) : Prop :=
 HFn P f (args.map .c) 0 none0 (fun r ob' => ∃ u v x, r = .tup [.c u, .c v, .c x] ∧ R u v x ∧ ob' = none0)
theorem hret_pure3 {ob : Ob} {r : HV} {R : CV → CV → CV → Prop} (cl : List Nat) (u v x : CV) (h : (r.close ob cl).norm = .tup [.c u, .c v, .c x]) (hR : R u v x) : HRet 0 r ob (fun r ob' => ∃ u v x, r = .tup [.c u, .c v, .c x] ∧ R u v x ∧ ob' = none0) :=
 ⟨cl, id, .tup [.c u, .c v, .c x], none0, ⟨u, v, x, rfl, hR, rfl⟩, by rw [h]; rfl, fun _ h => by omega, fun _ _ _ _ h => h, by simp [HV.men, HV.menL], fun j o h => by simp [none0] at h⟩
theorem call_pure3 {P : Program} {av : List Nat} {f : FuncId} {ob : Ob} {nid : Nat} {K : HV → Ob → Prop} {args : List CV} {R : CV → CV → CV → Prop} (h : HPure3 P f args R) (hfree : Free4 ob nid) (hK : ∀ u v x, R u v x → K (.tup [.c u, .c v, .c x]) ob) :
  HCall P av f (args.map .c) ob nid K := by
 refine ⟨[], args.map .c, none0, _, h, locOk_nil args, ⟨List.nodup_nil, by simp⟩, (HV.renL_c _ _).symm, fun j o h => by simp [none0] at h, fun r lob' hR _ => ?_⟩
 obtain ⟨u, v, x, rfl, hv, rfl⟩ := hR
 rw [obAfter_nil hfree.all]
 exact hK u v x hv
def HBoxL2 (P : Program) (f : FuncId) (T : TypeId) (v : CV) (args : List CV) (R : CV → CV → CV → Prop) : Prop :=
 HFn P f (args.map .c ++ [.ptr 0 0]) 1 (fob [(0, .box T (.c v))]) (fun r ob' => ∃ u x v', r = .tup [.c u, .c x] ∧ ob' = fob [(0, .box T (.c v'))] ∧ R u x v')
theorem hret_boxl2 {ob : Ob} {r w : HV} {T : TypeId} {R : CV → CV → CV → Prop} (cl : List Nat) (u x v' : CV) (h : (r.close ob cl).norm = .tup [.c u, .c x]) (hb : ob 0 = some (.box T w)) (hw : (w.close ob cl).norm = .c v') (h0 : 0 ∉ cl) (hR : R u x v') :
  HRet 1 r ob (fun r ob' => ∃ u x v', r = .tup [.c u, .c x] ∧ ob' = fob [(0, .box T (.c v'))] ∧ R u x v') := by
 refine ⟨cl, id, .tup [.c u, .c x], fob [(0, .box T (.c v'))], ⟨u, x, v', rfl, rfl, hR⟩, by rw [h]; simp only [HV.ren, HV.renL], fun _ _ => rfl, fun _ _ _ _ h => h, by simp [HV.men, HV.menL], fun j o ho => ?_⟩
 by_cases e : j = 0
 ·
  subst e
  simp only [fob_at, if_true, Option.some.injEq] at ho
  subst ho
  refine ⟨by omega, by simp [HO.men, HV.men], h0, .box T w, hb, ?_⟩
  simp only [hw]
  rfl
 ·
  simp [fob_at, fob_nil, e] at ho
theorem call_boxl2 {P : Program} {av : List Nat} {f : FuncId} {ob : Ob} {nid id : Nat} {K : HV → Ob → Prop} {T : TypeId} {v : CV} {args : List CV} {R : CV → CV → CV → Prop} (h : HBoxL2 P f T v args R) (hid : ob id = some (.box T (.c v))) (hav : id ∉ av)
  (hfree : Free4 ob nid) (hK : ∀ u x v', R u x v' → K (.tup [.c u, .c x]) (upd ob id (some (.box T (.c v'))))) :
  HCall P av f (args.map .c ++ [.ptr id 0]) ob nid K := by
 refine ⟨[id], args.map HV.c ++ [HV.ptr 0 0], _, _, h, locOk_clo T v args, ⟨by simp, by simpa using hav⟩, ?_, fun j o hj => ?_, fun r lob' hR _ => ?_⟩
 ·
  simp only [renL_append, renL_c', HV.renL, HV.ren]
  rfl
 ·
  by_cases e : j = 0
  ·
   subst e
   simp only [fob_at, if_true, Option.some.injEq] at hj
   subst hj
   simpa [HO.ren, HV.ren] using hid
  ·
   simp [fob_at, fob_nil, e] at hj
 ·
  obtain ⟨u, x, v', rfl, rfl, hR⟩ := hR
  rw [obAfter_upd hfree]
  exact hK u x v' hR
end Go.Hl

namespace Go.Pl
open Go Go.Hl

def splitB (c : UInt8) : List UInt8 → List (List UInt8)
 | [] => [[]]
 | b :: l => if b = c then [] :: splitB c l else match splitB c l with
  | x :: xs => (b :: x) :: xs
  | [] => [[b]]
theorem splitB_ne (c : UInt8) (l : List UInt8) : splitB c l ≠ [] := by
 cases l with
 | nil => simp [splitB]
 | cons b l => unfold splitB; split <;> (try split) <;> simp
theorem splitB_idx (c : UInt8) : ∀ l : List UInt8, match l.findIdx? (· == c) with
  | some i => i < l.length ∧ splitB c l = l.take i :: splitB c (l.drop (i + 1))
  | none => splitB c l = [l]
 | [] => rfl
 | b :: l => by
  have ih := splitB_idx c l
  rw [List.findIdx?_cons]
  by_cases h : b = c
  ·
   subst h
   simp [splitB]
  ·
   have hb : (b == c) = false := by simpa using h
   simp only [hb, Bool.false_eq_true, if_false]
   cases hf : l.findIdx? (· == c) with
   | none =>
    rw [hf] at ih
    simp only at ih
    simp only [Option.map_none, splitB, if_neg h, ih]
   | some i =>
    rw [hf] at ih
    simp only at ih
    simp only [Option.map_some, splitB, if_neg h, ih.2, List.length_cons, List.take_succ_cons, List.drop_succ_cons]
    exact ⟨by omega, trivial⟩
theorem idxB_neg {l : List UInt8} {c : UInt8} (h : idxB l c < 0) : splitB c l = [l] := by
 have := splitB_idx c l
 unfold idxB at h
 split at h
 ·
  omega
 ·
  rename_i hf; rw [hf] at this; exact this
theorem idxB_nonneg {l : List UInt8} {c : UInt8} (h : ¬ idxB l c < 0) : ∃ i : Nat, idxB l c = (i : Int) ∧ i < l.length ∧ splitB c l = l.take i :: splitB c (l.drop (i + 1)) := by
 have := splitB_idx c l
 unfold idxB at h ⊢
 split at h
 ·
  rename_i i hf
  rw [hf] at this
  exact ⟨i, rfl, this⟩
 ·
  omega
theorem splitB_length (c : UInt8) : ∀ l : List UInt8, (splitB c l).length ≤ l.length + 1
 | [] => by simp [splitB]
 | b :: l => by
  have ih := splitB_length c l
  unfold splitB
  split
  ·
   simp; omega
  ·
   split
   ·
    rename_i h; rw [h] at ih; simp only [List.length_cons] at ih ⊢; omega
   ·
    simp
theorem splitB_sum (c : UInt8) : ∀ (l : List UInt8), ∀ p ∈ splitB c l, p.length ≤ l.length
 | [], p, hp => by simp [splitB] at hp; simp [hp]
 | b :: l, p, hp => by
  have ih := splitB_sum c l
  unfold splitB at hp
  split at hp
  ·
   rcases List.mem_cons.1 hp with rfl | hp
   ·
    simp
   ·
    have := ih p hp; simp only [List.length_cons]; omega
  ·
   split at hp
   ·
    rename_i x xs h
    rw [h] at ih
    rcases List.mem_cons.1 hp with rfl | hp
    ·
     have := ih x List.mem_cons_self; simp only [List.length_cons]; omega
    ·
     have := ih p (List.mem_cons_of_mem _ hp); simp only [List.length_cons]; omega
   ·
    simp only [List.mem_singleton] at hp; subst hp; simp

def valH (c : UInt8) : Nat := if 48 ≤ c.toNat ∧ c.toNat ≤ 57 then c.toNat - 48 else if 65 ≤ c.toNat ∧ c.toNat ≤ 70 then c.toNat - 55 else 16
def byteH (x y : UInt8) : UInt8 := UInt8.ofNat (16 * valH x + valH y)
def okH (x y : UInt8) : Bool := decide (valH x < 16) && decide (valH y < 16) && !plainB (byteH x y)
def unB : List UInt8 → Option Word
 | [] => some []
 | c :: l => if plainB c then (unB l).map (c :: ·) else if c = 37 then match l with
   | x :: y :: l' => if okH x y then (unB l').map (byteH x y :: ·) else none
   | _ => none
  else none
def unW (s : Word) : Option Word := if s = [126] then some [] else if s = [] then none else unB s

theorem unB_plain {c : UInt8} {l : Word} (h : plainB c = true) : unB (c :: l) = (unB l).map (c :: ·) := by
 rw [unB.eq_def]; simp only [h, if_true]
theorem unB_bad {c : UInt8} {l : Word} (h : plainB c = false) (h1 : c ≠ 37 ∨ l.length < 2) : unB (c :: l) = none := by
 rw [unB.eq_def]
 simp only [h, Bool.false_eq_true, if_false]
 split
 ·
  rename_i hc
  have h2 := h1.resolve_left fun h => h hc
  split
  ·
   simp only [List.length_cons] at h2; omega
  ·
   rfl
 ·
  rfl
theorem unB_esc {x y : UInt8} {l : Word} (h : okH x y = true) : unB (37 :: x :: y :: l) = (unB l).map (byteH x y :: ·) := by
 rw [unB.eq_def]
 have : plainB 37 = false := by rfl
 simp only [this, Bool.false_eq_true, if_false, if_true, h]
theorem unB_esc_bad {x y : UInt8} {l : Word} (h : okH x y = false) : unB (37 :: x :: y :: l) = none := by
 rw [unB.eq_def]
 have : plainB 37 = false := by rfl
 simp only [this, Bool.false_eq_true, if_false, if_true, h]
def hexD : List UInt8 := [48, 49, 50, 51, 52, 53, 54, 55, 56, 57, 65, 66, 67, 68, 69, 70]
set_option maxRecDepth 20000 in
theorem idx_hex (c : UInt8) : idxB hexD c = if valH c < 16 then (valH c : Int) else -1 := by
 have h : ∀ n : Fin 256, idxB hexD (UInt8.ofNat n.1) = if valH (UInt8.ofNat n.1) < 16 then (valH (UInt8.ofNat n.1) : Int) else -1 := by decide
 have := h ⟨c.toNat, c.toNat_lt⟩
 simpa only [UInt8.ofNat_toNat] using this
theorem byteH_nat {x y : UInt8} (hx : valH x < 16) (hy : valH y < 16) : (byteH x y).toNat = 16 * valH x + valH y := by
 unfold byteH
 rw [UInt8.toNat_ofNat']
 omega

def UnSt (s : Word) (i : Nat) (out : Word) : Prop := i ≤ s.length ∧ unB s = (unB (s.drop i)).map (out ++ ·) ∧ (out = [] → i = 0) ∧ out.length ≤ i
section
variable {s : Word} {i : Nat} {out : Word}
theorem UnSt.init (s : Word) : UnSt s 0 [] := ⟨Nat.zero_le _, by simp, fun _ => rfl, Nat.le_refl _⟩
theorem UnSt.plain (h : UnSt s i out) (hi : i < s.length) (hp : plainB s[i] = true) : UnSt s (i + 1) (out ++ [s[i]]) := by
 obtain ⟨_, h2, _, h4⟩ := h
 refine ⟨hi, ?_, by simp, by simp; omega⟩
 rw [h2, List.drop_eq_getElem_cons hi, unB_plain hp, Option.map_map]
 congr 1
 funext l
 simp
theorem UnSt.bad1 (h : UnSt s i out) (hi : i < s.length) (hp : plainB s[i] = false) (h1 : s[i] ≠ 37 ∨ s.length ≤ i + 2) : unB s = none := by
 rw [h.2.1, List.drop_eq_getElem_cons hi, unB_bad hp (h1.imp id fun h => by rw [List.length_drop]; omega)]
 rfl
theorem drop3 {s : Word} {i : Nat} (hi : i + 2 < s.length) : s.drop i = s[i] :: s[i + 1] :: s[i + 2] :: s.drop (i + 3) := by
 rw [List.drop_eq_getElem_cons (show i < s.length by omega), List.drop_eq_getElem_cons (show i + 1 < s.length by omega), List.drop_eq_getElem_cons hi]
theorem UnSt.esc (h : UnSt s i out) (hi : i + 2 < s.length) (h37 : s[i] = 37) (hok : okH s[i + 1] s[i + 2] = true) : UnSt s (i + 3) (out ++ [byteH s[i + 1] s[i + 2]]) := by
 obtain ⟨_, h2, _, h4⟩ := h
 refine ⟨hi, ?_, by simp, by simp; omega⟩
 rw [h2, drop3 hi, h37, unB_esc hok, Option.map_map]
 congr 1
 funext l
 simp
theorem UnSt.bad2 (h : UnSt s i out) (hi : i + 2 < s.length) (h37 : s[i] = 37) (hok : okH s[i + 1] s[i + 2] = false) : unB s = none := by
 rw [h.2.1, drop3 hi, h37, unB_esc_bad hok]
 rfl
theorem unW_none (h : unB s = none) (h1 : s ≠ [126]) : unW s = none := by
 unfold unW
 rw [if_neg h1]
 split <;> first | rfl | exact h
theorem UnSt.fin (h : UnSt s i out) (hi : i = s.length) (h1 : s ≠ [126]) : unW s = if out = [] then none else some out := by
 subst hi
 obtain ⟨_, h2, h3, h4⟩ := h
 rw [List.drop_length] at h2
 unfold unW
 rw [if_neg h1]
 by_cases ho : out = []
 ·
  have := List.eq_nil_of_length_eq_zero (h3 ho)
  rw [if_pos this, if_pos ho]
 ·
  have hs : s ≠ [] := by
   rintro rfl
   simp only [List.length_nil, Nat.le_zero] at h4
   exact ho (List.eq_nil_of_length_eq_zero h4)
  rw [if_neg hs, if_neg ho, h2]
  simp [unB]
end

def CutR (l : List UInt8) (c : UInt8) (li re : List UInt8) (fd : Bool) : Prop :=
 (fd = false ∧ idxB l c < 0 ∧ li = l ∧ re = []) ∨ (fd = true ∧ ∃ i : Nat, idxB l c = (i : Int) ∧ i < l.length ∧ li = l.take i ∧ re = l.drop (i + 1))

def unL (r : Word) : Option (List Word) := (splitB 32 r).mapM unW
def unR (r : Word) : Option (List Word) := match unL r with | some ws => if okL ws then some ws else none | none => none
def decV (b : Word) : Option (List (List Word)) :=
 if b = [] then some [] else if (splitB 10 b).getLast (splitB_ne 10 b) = [] then (splitB 10 b).dropLast.mapM unR else none
theorem decV_cut {l li re : Word} (hc : CutR l 10 li re true) : decV l = (unR li).bind fun ws => (decV re).map (ws :: ·) := by
 rcases hc with ⟨h, _⟩ | ⟨_, i, h1, h2, rfl, rfl⟩
 ·
  cases h
 ·
  obtain ⟨i', h3, _, hsp⟩ := idxB_nonneg (l := l) (c := 10) (by omega)
  have : i' = i := by omega
  subst this
  have hne : l ≠ [] := by rintro rfl; simp at h2
  have hd : decV l = if (splitB 10 (l.drop (i' + 1))).getLast (splitB_ne 10 _) = [] then (l.take i' :: (splitB 10 (l.drop (i' + 1))).dropLast).mapM unR else none := by
   unfold decV
   rw [if_neg hne]
   simp only [hsp]
   rw [List.getLast_cons (splitB_ne 10 _), List.dropLast_cons_of_ne_nil (splitB_ne 10 _)]
  rw [hd]
  have he : decV (l.drop (i' + 1)) = if (splitB 10 (l.drop (i' + 1))).getLast (splitB_ne 10 _) = [] then (splitB 10 (l.drop (i' + 1))).dropLast.mapM unR else none := by
   unfold decV
   split
   ·
    rename_i h
    rw [h]; rfl
   ·
    rfl
  rw [he]
  split
  ·
   rw [List.mapM_cons]
   cases unR (l.take i') with
   | none => rfl
   | some ws => cases (splitB 10 (l.drop (i' + 1))).dropLast.mapM unR <;> rfl
  ·
   cases unR (l.take i') <;> rfl
theorem decV_nocut {l li re : Word} (hc : CutR l 10 li re false) (hne : l ≠ []) : decV l = none := by
 rcases hc with ⟨_, h, _⟩ | ⟨h, _⟩
 ·
  unfold decV
  rw [if_neg hne]
  have hsp := idxB_neg h
  rw [if_neg]
  simp only [hsp, List.getLast_singleton]
  exact hne
 ·
  cases h
theorem decV_bad {l li re : Word} {fd : Bool} (hc : CutR l 10 li re fd) (hne : l ≠ []) (h : unR li = none) : decV l = none := by
 cases fd with
 | false => exact decV_nocut hc hne
 | true => rw [decV_cut hc, h]; rfl
theorem CutR.lt {l li re : Word} {c : UInt8} {fd : Bool} (hc : CutR l c li re fd) (hne : l ≠ []) : re.length < l.length ∧ li.length ≤ l.length := by
 have : 0 < l.length := List.length_pos_iff.2 hne
 rcases hc with ⟨_, _, rfl, rfl⟩ | ⟨_, i, _, h, rfl, rfl⟩
 ·
  exact ⟨this, Nat.le_refl _⟩
 ·
  exact ⟨by rw [List.length_drop]; omega, by rw [List.length_take]; omega⟩

def wsT (r : Word) (i : Nat) : List Word := ((splitB 32 r).take i).map fun p => (unW p).getD []
def wsOk (r : Word) (i : Nat) : Prop := ∀ p ∈ (splitB 32 r).take i, (unW p).isSome = true
theorem wsT_succ {r : Word} {i : Nat} (h : i < (splitB 32 r).length) : wsT r (i + 1) = wsT r i ++ [(unW (splitB 32 r)[i]).getD []] := by
 simp only [wsT, List.take_succ_eq_append_getElem h, List.map_append, List.map_cons, List.map_nil]
theorem wsT_length {r : Word} {i : Nat} (h : i ≤ (splitB 32 r).length) : (wsT r i).length = i := by
 simp only [wsT, List.length_map, List.length_take]; omega
theorem wsOk_succ {r : Word} {i : Nat} (h : i < (splitB 32 r).length) (h1 : wsOk r i) (h2 : (unW (splitB 32 r)[i]).isSome = true) : wsOk r (i + 1) := by
 intro p hp
 rw [List.take_succ_eq_append_getElem h, List.mem_append, List.mem_singleton] at hp
 rcases hp with hp | rfl
 ·
  exact h1 p hp
 ·
  exact h2
theorem mapM_none {α β : Type} {f : α → Option β} : ∀ {l : List α} {x : α}, x ∈ l → f x = none → l.mapM f = none
 | a :: l, x, hx, h => by
  rw [List.mapM_cons]
  rcases List.mem_cons.1 hx with rfl | hx
  ·
   rw [h]; rfl
  ·
   rw [mapM_none hx h]
   cases f a <;> rfl
theorem mapM_all {α β : Type} {f : α → Option β} (d : β) : ∀ {l : List α}, (∀ x ∈ l, (f x).isSome = true) → l.mapM f = some (l.map fun x => (f x).getD d)
 | [], _ => rfl
 | a :: l, h => by
  rw [List.mapM_cons, mapM_all d fun x hx => h x (List.mem_cons_of_mem _ hx)]
  obtain ⟨y, hy⟩ := Option.isSome_iff_exists.1 (h a List.mem_cons_self)
  rw [hy]
  simp [hy]
theorem unR_miss {r : Word} {i : Nat} (h : i < (splitB 32 r).length) (h2 : (unW (splitB 32 r)[i]).isSome = false) : unR r = none := by
 unfold unR unL
 rw [mapM_none (List.getElem_mem h) (by simpa using h2)]
theorem unR_all {r : Word} (h : wsOk r (splitB 32 r).length) : unR r = if okL (wsT r (splitB 32 r).length) then some (wsT r (splitB 32 r).length) else none := by
 unfold wsOk at h
 rw [List.take_length] at h
 unfold unR unL
 rw [mapM_all [] h]
 simp only [wsT, List.take_length]

def DecSt (b rest : Word) (ls : List (List Word)) : Prop := decV b = (decV rest).map (ls ++ ·) ∧ rest.length ≤ b.length ∧ ls.length + rest.length ≤ b.length
theorem DecSt.init (b : Word) : DecSt b b [] := ⟨by simp, Nat.le_refl _, by simp⟩
theorem DecSt.bad {b rest li re : Word} {ls : List (List Word)} {fd : Bool} (h : DecSt b rest ls) (hc : CutR rest 10 li re fd) (hne : rest ≠ []) (hb : unR li = none) : decV b = none := by
 rw [h.1, decV_bad hc hne hb]; rfl
theorem DecSt.bad0 {b rest li re : Word} {ls : List (List Word)} (h : DecSt b rest ls) (hc : CutR rest 10 li re false) (hne : rest ≠ []) : decV b = none := by
 rw [h.1, decV_nocut hc hne]; rfl
theorem DecSt.next {b rest li re : Word} {ls : List (List Word)} (h : DecSt b rest ls) (hc : CutR rest 10 li re true) (hne : rest ≠ []) {ws : List Word} (hb : unR li = some ws) : DecSt b re (ls ++ [ws]) := by
 have hl := hc.lt hne
 obtain ⟨h1, h2, h3⟩ := h
 refine ⟨?_, by omega, by simp only [List.length_append, List.length_singleton]; omega⟩
 rw [h1, decV_cut hc, hb]
 cases decV re with
 | none => rfl
 | some l => simp
theorem DecSt.fin {b : Word} {ls : List (List Word)} (h : DecSt b [] ls) : decV b = some ls := by
 rw [h.1]
 simp [decV]
def decE (b : Word) : Int := if 262144 < b.length then 3 else match decV b with | some ls => if 1000 < ls.length then 2 else 0 | none => 2
def decO (b : Word) : List (List Word) := if decE b = 0 then (decV b).getD [] else []
end Go.Pl

namespace Go.Proofs.YtenbfeemmpjdhaaGreatDoor
open Go Go.Hl Go.Pl
set_option maxRecDepth 10000
set_option maxHeartbeats 2000000
set_option linter.unusedSimpArgs false
set_option linter.unusedVariables false

theorem nth_one (v : CV) : nth [v] 0 = v := rfl
theorem u8_denil (c : UInt8) : (u8 c).denil = u8 c := rfl
theorem denilL_u8 : ∀ bs : List UInt8, CV.denilL (bs.map u8) = bs.map u8
 | [] => rfl
 | b :: bs => by simp only [List.map_cons, CV.denilL, denilL_u8 bs]; rfl
theorem bidx_ok (l : List UInt8) (c : UInt8) : HPure Tryz.prog 175 [.slc (l.map u8), u8 c] (fun v => v = .int .i64 (idxB l c)) :=
 bix_ok (f := 175) (fn := Tryz.f175) Tryz.func175 (by kernel_rfl) (by kernel_rfl) (by kernel_rfl) (by kernel_rfl) l c
theorem bidxs_ok (l : List UInt8) (c : UInt8) : HPure Tryz.prog 178 [.str l, u8 c] (fun v => v = .int .i64 (idxB l c)) :=
 bixs_ok (f := 178) (fn := Tryz.f178) Tryz.func178 (by kernel_rfl) (by kernel_rfl) (by kernel_rfl) (by kernel_rfl) l c

theorem bib_ok (l : List UInt8) (c : UInt8) : HPure Tryz.prog 152 [.slc (l.map u8), u8 c] (fun v => v = .int .i64 (idxB l c)) := by
 refine hfn_walk Tryz.func152 rfl (by kernel_rfl) (locOk_nil _) (Nat.le_of_ble_eq_true rfl) ?_
 refine R0 ?_ (e := fun _ h_ => by simp only [↓sP, sA, tyS, simprocAttr, rI]; exact AX h_)
 refine hw_seq fun K hK => Rg ?_
 iterate 2 refine S0 ?_ (e := fun _ h_ => by simp only [sH, ↓sP, sA, tyS, simprocAttr, rI, denilL_u8, u8_denil]; exact AX h_)
 refine hlex_step (g := none) rfl rfl fun K' hK' => ?_
 simp only [sH, ↓sP, sA, tyS, simprocAttr, rI, denilL_u8, u8_denil]
 refine call_pure (args := [_, _]) (bidx_ok l c) ⟨rfl, rfl, rfl, rfl⟩ ?_
 rintro u rfl
 refine AX (hK' _ _ ?_)
 clear hK' K'
 refine S0 ?_ (e := fun _ h_ => by simp only [sH, ↓sP, sA, tyS, simprocAttr, rI, denilL_u8, u8_denil]; exact AX h_)
 simp only [sE, ↓reduceIte, simprocAttr, rI]
 refine AX (hK _ _ _ ?_)
 clear hK K
 refine hw_ret ?_
 simp only [hpost, Tryz.results152, hresL, hres1, tupOf, ↓sP, sA, tyS, simprocAttr, rI]
 exact hret_pure [] (.int .i64 (idxB l c)) rfl rfl


theorem sib_ok (l : List UInt8) (c : UInt8) : HPure Tryz.prog 159 [.str l, u8 c] (fun v => v = .int .i64 (idxB l c)) := by
 refine hfn_walk Tryz.func159 rfl (by kernel_rfl) (locOk_nil _) (Nat.le_of_ble_eq_true rfl) ?_
 refine R0 ?_ (e := fun _ h_ => by simp only [↓sP, sA, tyS, simprocAttr, rI]; exact AX h_)
 refine hw_seq fun K hK => Rg ?_
 iterate 2 refine S0 ?_ (e := fun _ h_ => by simp only [sH, ↓sP, sA, tyS, simprocAttr, rI, denilL_u8, u8_denil]; exact AX h_)
 refine hlex_step (g := none) rfl rfl fun K' hK' => ?_
 simp only [sH, ↓sP, sA, tyS, simprocAttr, rI, denilL_u8, u8_denil]
 refine call_pure (args := [_, _]) (bidxs_ok l c) ⟨rfl, rfl, rfl, rfl⟩ ?_
 rintro u rfl
 refine AX (hK' _ _ ?_)
 clear hK' K'
 refine S0 ?_ (e := fun _ h_ => by simp only [sH, ↓sP, sA, tyS, simprocAttr, rI, denilL_u8, u8_denil]; exact AX h_)
 simp only [sE, ↓reduceIte, simprocAttr, rI]
 refine AX (hK _ _ _ ?_)
 clear hK K
 refine hw_ret ?_
 simp only [hpost, Tryz.results159, hresL, hres1, tupOf, ↓sP, sA, tyS, simprocAttr, rI]
 exact hret_pure [] (.int .i64 (idxB l c)) rfl rfl


theorem strib_ok (l : List UInt8) (c : UInt8) : HPure Tryz.prog 127 [.str l, u8 c] (fun v => v = .int .i64 (idxB l c)) := by
 refine hfn_walk Tryz.func127 rfl (by kernel_rfl) (locOk_nil _) (Nat.le_of_ble_eq_true rfl) ?_
 refine R0 ?_ (e := fun _ h_ => by simp only [↓sP, sA, tyS, simprocAttr, rI]; exact AX h_)
 refine hw_seq fun K hK => Rg ?_
 iterate 2 refine S0 ?_ (e := fun _ h_ => by simp only [sH, ↓sP, sA, tyS, simprocAttr, rI, denilL_u8, u8_denil]; exact AX h_)
 refine hlex_step (g := none) rfl rfl fun K' hK' => ?_
 simp only [sH, ↓sP, sA, tyS, simprocAttr, rI, denilL_u8, u8_denil]
 refine call_pure (args := [_, _]) (sib_ok l c) ⟨rfl, rfl, rfl, rfl⟩ ?_
 rintro u rfl
 refine AX (hK' _ _ ?_)
 clear hK' K'
 refine S0 ?_ (e := fun _ h_ => by simp only [sH, ↓sP, sA, tyS, simprocAttr, rI, denilL_u8, u8_denil]; exact AX h_)
 simp only [sE, ↓reduceIte, simprocAttr, rI]
 refine AX (hK _ _ _ ?_)
 clear hK K
 refine hw_ret ?_
 simp only [hpost, Tryz.results127, hresL, hres1, tupOf, ↓sP, sA, tyS, simprocAttr, rI]
 exact hret_pure [] (.int .i64 (idxB l c)) rfl rfl


theorem bindex_ok (l : List UInt8) (c : UInt8) : HPure Tryz.prog 125 [.slc (l.map u8), .slc [u8 c]] (fun v => v = .int .i64 (idxB l c)) := by
 refine hfn_walk Tryz.func125 rfl (by kernel_rfl) (locOk_nil _) (Nat.le_of_ble_eq_true rfl) ?_
 refine R0 ?_ (e := fun _ h_ => by simp only [↓sP, sA, tyS, simprocAttr, rI]; exact AX h_)
 refine R0 ?_ (e := fun _ h_ => by simp only [↓sP, sA, tyS, simprocAttr, rI]; exact AX h_)
 refine hw_seq fun K hK => ?_
 refine hw_block ?_
 refine R0 ?_ (e := fun _ h_ => by simp only [↓sP, sA, tyS, simprocAttr, rI]; exact AX h_)
 refine hw_cond (b := (1 : Int) == 0) rfl (fun hb => ?_) (fun hb => ?_)
 ·
  exact absurd hb (by decide)
 refine R0 ?_ (e := fun _ h_ => by simp only [↓sP, sA, tyS, simprocAttr, rI]; exact AX h_)
 refine hw_cond (b := (1 : Int) == 1) rfl (fun hb => ?_) (fun hb => ?_)
 ·
  refine hw_seq fun K hK => Rg ?_
  iterate 4 refine S0 ?_ (e := fun _ h_ => by simp only [sH, ↓sP, sA, tyS, simprocAttr, rI, u8, nth_one, denilL_u8]; exact AX h_)
  refine hlex_step (g := none) rfl rfl fun K' hK' => ?_
  simp only [sH, ↓sP, sA, tyS, simprocAttr, rI, u8, nth_one, denilL_u8]
  refine call_pure (args := [_, _]) (bib_ok l c) ⟨rfl, rfl, rfl, rfl⟩ ?_
  rintro u rfl
  refine AX (hK' _ _ ?_)
  clear hK' K'
  refine S0 ?_ (e := fun _ h_ => by simp only [sH, ↓sP, sA, tyS, simprocAttr, rI, u8, nth_one, denilL_u8]; exact AX h_)
  simp only [sE, ↓reduceIte, simprocAttr, rI]
  refine AX (hK _ _ _ ?_)
  clear hK K
  refine hw_ret ?_
  simp only [hpost, Tryz.results125, hresL, hres1, tupOf, ↓sP, sA, tyS, simprocAttr, rI]
  exact hret_pure [] (.int .i64 (idxB l c)) rfl rfl
 exact absurd hb (by decide)


theorem bcut_ok (l : List UInt8) (c : UInt8) (hl : l.length < 2 ^ 40) : HPure3 Tryz.prog 98 [.slc (l.map u8), .slc [u8 c]] (fun x y f => ∃ (li re : List UInt8) (fd : Bool), x = .slc (li.map u8) ∧ y = .slc (re.map u8) ∧ f = .bool fd ∧ CutR l c li re fd) := by
 refine hfn_walk Tryz.func98 rfl (by kernel_rfl) (locOk_nil _) (Nat.le_of_ble_eq_true rfl) ?_
 refine R0 ?_ (e := fun _ h_ => by simp only [↓sP, sA, tyS, simprocAttr, rI]; exact AX h_)
 refine hw_seq fun K hK => ?_
 refine hw_seq fun K hK => Rg ?_
 iterate 2 refine S0 ?_ (e := fun _ h_ => by simp only [sH, ↓sP, sA, tyS, simprocAttr, rI, denilL_u8]; exact AX h_)
 refine hlex_step (g := none) rfl rfl fun K' hK' => ?_
 simp only [sH, ↓sP, sA, tyS, simprocAttr, rI, denilL_u8]
 refine call_pure (args := [_, _]) (bindex_ok l c) ⟨rfl, rfl, rfl, rfl⟩ ?_
 rintro u rfl
 refine AX (hK' _ _ ?_)
 clear hK' K'
 refine S0 ?_ (e := fun _ h_ => by simp only [sH, ↓sP, sA, tyS, simprocAttr, rI, denilL_u8]; exact AX h_)
 simp only [sE, ↓reduceIte, simprocAttr, rI]
 refine AX (hK _ _ _ ?_)
 clear hK K
 refine R0 ?_ (e := fun _ h_ => by simp only [↓sP, sA, tyS, simprocAttr, rI]; exact AX h_)
 refine hw_cond (b := decide ((0 : Int) ≤ idxB l c)) rfl (fun hb => ?_) (fun hb => ?_)
 ·
  have hn : ¬ idxB l c < 0 := by simp at hb; omega
  obtain ⟨i, hi, hil, hsp⟩ := idxB_nonneg hn
  have hi' := hi
  rw [hi]
  refine hw_seq fun K hK => hw_quiet mixed (by kernel_rfl) (by kernel_rfl) (by kernel_rfl) ?_
  simp only [sR, simprocAttr]
  iterate 12 refine S0 ?_ (e := fun _ h_ => by simp only [sH, ↓sP, sA, tyS, simprocAttr, rI, Int.natCast_nonneg, Int.ofNat_le, Int.sub_zero, Nat.sub_zero, List.drop_zero, cells_u8, denilL_u8, List.length_map, show IntKind.i64.wrap ((i : Int) + 1) = ((i + 1 : Nat) : Int) from by rw [IntWalk.i64_in _ (by omega)]; rfl]; exact AX h_)
  simp only [sE, ↓reduceIte, simprocAttr, rI]
  refine AX (hK _ _ _ ?_)
  clear hK K
  refine hw_ret ?_
  simp only [hpost, Tryz.results98, hresL, hres1, tupOf, ↓sP, sA, tyS, simprocAttr, rI]
  refine hret_pure3 [] (.slc ((l.take i).map u8)) (.slc ((l.drop (i + 1)).map u8)) (.bool true) ?_ ⟨_, _, _, rfl, rfl, rfl, .inr ⟨rfl, i, hi, hil, rfl, rfl⟩⟩
  simp [HV.close, HV.closeL, HV.norm, HV.toC, HV.toCL, CV.denil, denilL_u8]
  exact ⟨by rw [← List.map_take, denilL_u8], by rw [← List.map_drop, ← List.map_take, denilL_u8, List.take_of_length_le (by simp)]⟩
 have hn : idxB l c < 0 := by simp at hb; omega
 refine hw_skip ?_
 simp only [↓sP, sA, tyS, simprocAttr, rI]
 refine AX (hK _ _ _ ?_)
 clear hK K
 refine hw_seq fun K hK => Rg ?_
 iterate 4 refine S0 ?_ (e := fun _ h_ => by simp only [sH, ↓sP, sA, tyS, simprocAttr, rI]; exact AX h_)
 simp only [sE, ↓reduceIte, simprocAttr, rI]
 refine AX (hK _ _ _ ?_)
 clear hK K
 refine hw_ret ?_
 simp only [hpost, Tryz.results98, hresL, hres1, tupOf, ↓sP, sA, tyS, simprocAttr, rI]
 refine hret_pure3 [] (.slc (l.map u8)) (.slc []) (.bool false) ?_ ⟨l, [], false, rfl, rfl, rfl, .inl ⟨rfl, hn, rfl, rfl⟩⟩
 simp [HV.close, HV.closeL, HV.norm, HV.toC, HV.toCL, CV.denil, denilL_u8]


theorem splq_ok (l : List UInt8) (c : UInt8) : HSeqB Tryz.prog 126 157 [.slc (l.map u8), .slc [u8 c], .int .i64 0] [(30, .slc [u8 c]), (30, .slc (l.map u8)), (3, .int .i64 0)] := by
 refine hfn_walk Tryz.func126 rfl (by kernel_rfl) (locOk_nil _) (Nat.le_of_ble_eq_true rfl) ?_
 refine hw_seq fun K hK => Rg ?_
 iterate 4 refine S0 ?_ (e := fun _ h_ => by simp only [sH, ↓sP, sA, tyS, simprocAttr, rI]; exact AX h_)
 simp only [sE, ↓reduceIte, simprocAttr, rI]
 refine AX (hK _ _ _ ?_)
 clear hK K
 refine R0 ?_ (e := fun _ h_ => by simp only [↓sP, sA, tyS, simprocAttr, rI]; exact AX h_)
 refine hw_ret ?_
 simp only [hpost, Tryz.results126, hresL, hres1, tupOf, ↓sP, sA, tyS, simprocAttr, rI]
 refine hret_seqB (gf := 157) (bs := [(30, .slc [u8 c]), (30, .slc (l.map u8)), (3, .int .i64 0)]) (ids := [4, 0, 8]) rfl (by simp) (by decide) ?_ ?_
 ·
  intro j x hx
  match j, hx with
  | 0, hx => cases hx; rfl
  | 1, hx => cases hx; rfl
  | 2, hx => cases hx; rfl
 intro x hx
 simp only [List.mem_cons, List.not_mem_nil, or_false] at hx
 rcases hx with rfl | rfl | rfl
 ·
  rfl
 ·
  exact congrArg CV.slc (denilL_u8 l)
 rfl


theorem splitq_ok (l : List UInt8) (c : UInt8) : HSeqB Tryz.prog 99 157 [.slc (l.map u8), .slc [u8 c]] [(30, .slc [u8 c]), (30, .slc (l.map u8)), (3, .int .i64 0)] := by
 refine hfn_walk Tryz.func99 rfl (by kernel_rfl) (locOk_nil _) (Nat.le_of_ble_eq_true rfl) ?_
 refine R0 ?_ (e := fun _ h_ => by simp only [↓sP, sA, tyS, simprocAttr, rI]; exact AX h_)
 refine hw_seq fun K hK => Rg ?_
 iterate 2 refine S0 ?_ (e := fun _ h_ => by simp only [sH, ↓sP, sA, tyS, simprocAttr, rI, denilL_u8, addB, bptr, List.range', List.map_cons, List.map_nil]; exact AX h_)
 refine hlex_step (g := none) rfl rfl fun K' hK' => ?_
 simp only [sH, ↓sP, sA, tyS, simprocAttr, rI, denilL_u8, addB, bptr, List.range', List.map_cons, List.map_nil]
 refine call_seqB (args := [_, _, _]) (splq_ok l c) (by simp) ⟨rfl, rfl, rfl, rfl⟩ ?_
 refine AX (hK' _ _ ?_)
 clear hK' K'
 refine S0 ?_ (e := fun _ h_ => by simp only [sH, ↓sP, sA, tyS, simprocAttr, rI, denilL_u8, addB, bptr, List.range', List.map_cons, List.map_nil]; exact AX h_)
 simp only [sE, ↓reduceIte, simprocAttr, rI]
 refine AX (hK _ _ _ ?_)
 clear hK K
 refine hw_ret ?_
 simp only [hpost, Tryz.results99, hresL, hres1, tupOf, ↓sP, sA, tyS, simprocAttr, rI]
 refine hret_seqB (gf := 157) (bs := [(30, .slc [u8 c]), (30, .slc (l.map u8)), (3, .int .i64 0)]) (ids := [12, 13, 14]) rfl (by simp) (by decide) ?_ ?_
 ·
  intro j x hx
  match j, hx with
  | 0, hx => cases hx; rfl
  | 1, hx => cases hx; rfl
  | 2, hx => cases hx; rfl
 intro x hx
 simp only [List.mem_cons, List.not_mem_nil, or_false] at hx
 rcases hx with rfl | rfl | rfl
 ·
  rfl
 ·
  exact congrArg CV.slc (denilL_u8 l)
 rfl

end Go.Proofs.YtenbfeemmpjdhaaGreatDoor

namespace Go.Pl
open Go Go.Hl

theorem splitB_one {c : UInt8} {l : List UInt8} (h : (splitB c l).length = 1) : splitB c l = [l] := by
 by_cases hn : idxB l c < 0
 ·
  exact idxB_neg hn
 ·
  obtain ⟨i, _, _, hsp⟩ := idxB_nonneg hn
  rw [hsp] at h
  have := List.length_pos_iff.2 (splitB_ne c (l.drop (i + 1)))
  simp only [List.length_cons] at h
  omega

def SplSt (l : Word) (c : UInt8) (i : Nat) (rest : Word) (a : List Word) : Prop :=
 a.length = (splitB c l).length ∧ a.take i = (splitB c l).take i ∧ (splitB c l).drop i = splitB c rest ∧ i < (splitB c l).length ∧ rest.length ≤ l.length
section
variable {l rest : Word} {c : UInt8} {i k : Nat} {a : List Word}
theorem SplSt.init (l : Word) (c : UInt8) : SplSt l c 0 l (List.replicate (splitB c l).length []) :=
 ⟨by simp, by simp, rfl, List.length_pos_iff.2 (splitB_ne c l), Nat.le_refl _⟩
theorem SplSt.next (h : SplSt l c i rest a) (hk : idxB rest c = (k : Int)) : k < rest.length ∧ SplSt l c (i + 1) (rest.drop (k + 1)) (a.set i (rest.take k)) := by
 obtain ⟨h1, h2, h3, h4, h5⟩ := h
 obtain ⟨k', e1, e2, e3⟩ := idxB_nonneg (l := rest) (c := c) (by omega)
 have : k' = k := by omega
 subst this
 rw [e3] at h3
 have h6 := List.drop_eq_getElem_cons h4
 rw [h6] at h3
 have h7 := List.head_eq_of_cons_eq h3
 have h8 := List.tail_eq_of_cons_eq h3
 refine ⟨e2, by simpa using h1, ?_, h8, ?_, by rw [List.length_drop]; omega⟩
 ·
  rw [List.take_succ_eq_append_getElem (by rw [List.length_set]; omega), List.take_succ_eq_append_getElem h4, List.getElem_set_self, List.take_set_of_le (Nat.le_refl _), h2, h7]
 ·
  rcases Nat.lt_or_ge (i + 1) (splitB c l).length with h' | h'
  ·
   exact h'
  ·
   rw [List.drop_eq_nil_of_le h'] at h8
   exact absurd h8.symm (splitB_ne _ _)
theorem SplSt.last (h : SplSt l c i rest a) (hk : idxB rest c < 0) : i + 1 = (splitB c l).length := by
 obtain ⟨h1, h2, h3, h4, h5⟩ := h
 rw [idxB_neg hk] at h3
 have := congrArg List.length h3
 simp only [List.length_drop, List.length_singleton] at this
 omega
theorem SplSt.fin (h : SplSt l c i rest a) (hi : i + 1 = (splitB c l).length) : a.set i rest = splitB c l := by
 obtain ⟨h1, h2, h3, h4, h5⟩ := h
 have h6 : (splitB c rest).length = 1 := by rw [← h3, List.length_drop]; omega
 rw [splitB_one h6] at h3
 have e1 : a.set i rest = (a.set i rest).take (i + 1) := (List.take_of_length_le (by rw [List.length_set]; omega)).symm
 rw [e1, List.take_succ_eq_append_getElem (by rw [List.length_set]; omega), List.getElem_set_self, List.take_set_of_le (Nat.le_refl _), h2]
 conv => rhs; rw [← List.take_append_drop i (splitB c l), h3]
end

def digB (c : UInt8) : Bool := decide (48 ≤ c.toNat) && decide (c.toNat ≤ 57)
def digAcc : Word → Nat → Option Nat
 | [], n => some n
 | c :: l, n => if digB c then digAcc l (10 * n + (c.toNat - 48)) else none
def numBad (s : Word) : Bool := decide (s.length < 1) || decide (13 < s.length) || (decide (1 < s.length) && s.getD 0 0 == 48)
def numV (s : Word) : Option Int := if numBad s then none else match digAcc s 0 with | some n => if 1099511627776 < n then none else some (n : Int) | none => none
def DgSt (s : Word) (i n : Nat) : Prop := i ≤ s.length ∧ digAcc s 0 = digAcc (s.drop i) n ∧ n < 10 ^ i
theorem DgSt.init (s : Word) : DgSt s 0 0 := ⟨Nat.zero_le _, rfl, by omega⟩
theorem DgSt.next {s : Word} {i n : Nat} (h : DgSt s i n) (hi : i < s.length) (hd : digB s[i] = true) : DgSt s (i + 1) (10 * n + (s[i].toNat - 48)) := by
 obtain ⟨h1, h2, h3⟩ := h
 refine ⟨hi, ?_, ?_⟩
 ·
  rw [h2, List.drop_eq_getElem_cons hi, digAcc, if_pos hd]
 ·
  simp only [digB, Bool.and_eq_true, decide_eq_true_eq] at hd
  rw [Nat.pow_succ]
  omega
theorem DgSt.bad {s : Word} {i n : Nat} (h : DgSt s i n) (hi : i < s.length) (hd : digB s[i] = false) : digAcc s 0 = none := by
 rw [h.2.1, List.drop_eq_getElem_cons hi, digAcc, if_neg (by rw [hd]; simp)]
theorem DgSt.fin {s : Word} {i n : Nat} (h : DgSt s i n) (hi : i = s.length) : digAcc s 0 = some n := by
 rw [h.2.1, hi, List.drop_length]; rfl
theorem DgSt.lt {s : Word} {i n : Nat} (h : DgSt s i n) (hs : s.length ≤ 13) : n < 10000000000000 := by
 have : 10 ^ i ≤ 10 ^ 13 := Nat.pow_le_pow_right (by omega) (Nat.le_trans h.1 hs)
 have := h.2.2
 omega
theorem numV_bad {s : Word} (h : numBad s = true) : numV s = none := by unfold numV; rw [if_pos h]
theorem numV_none {s : Word} (h : digAcc s 0 = none) : numV s = none := by unfold numV; split <;> first | rfl | (rw [h])
theorem numV_big {s : Word} {n : Nat} (h : digAcc s 0 = some n) (h1 : 1099511627776 < n) : numV s = none := by
 unfold numV; split
 ·
  rfl
 ·
  rw [h]; simp only; rw [if_pos h1]
theorem numV_ok {s : Word} {n : Nat} (h0 : numBad s = false) (h : digAcc s 0 = some n) (h1 : ¬ 1099511627776 < n) : numV s = some (n : Int) := by
 unfold numV
 rw [if_neg (by rw [h0]; simp), h]; simp only; rw [if_neg h1]
theorem digB_int (c : UInt8) : digB c = (decide ((48 : Int) ≤ (c.toNat : Int)) && decide ((c.toNat : Int) ≤ 57)) := by
 unfold digB
 have h1 : decide ((48 : Int) ≤ (c.toNat : Int)) = decide (48 ≤ c.toNat) := by rw [decide_eq_decide]; omega
 have h2 : decide ((c.toNat : Int) ≤ 57) = decide (c.toNat ≤ 57) := by rw [decide_eq_decide]; omega
 rw [h1, h2]
end Go.Pl

namespace Go.Pl
open Go Go.Hl

end Go.Pl

namespace Go.Pl
open Go Go.Hl

theorem hf_get {d : Half} {i : Nat} (h : i < 16) : CV.getAt i 1 false (hf d) = some (u8 (d.1[i]'(by rw [d.2]; exact h))) := us_get (l := d.1) (by rw [d.2]; exact h)
def fmtH (h : Half) : Word := hexL h.1
def fmtD (d : Dig) : Word := [115, 104, 97, 50, 53, 54, 58] ++ hexL d.1
theorem bytesC_u8 (l : List UInt8) : bytesC (l.map u8) = some l := bytesC_map l
theorem bytesC_one (b : UInt8) : bytesC [CV.int .u8 b.toNat] = some [b] := bytesC_map [b]

def numW (n : Int) : Word := Lib.itoa n
theorem numW_zero : numW 0 = [48] := by unfold numW Lib.itoa; rw [if_neg (by omega)]; simp [Lib.decDigits]
theorem numW_pos {n : Int} (h : 0 ≤ n) : numW n = Lib.decDigits n.natAbs := by unfold numW Lib.itoa; rw [if_neg (by omega)]; congr 1; omega
theorem numW_neg {n : Int} (h : n < 0) : numW n = 45 :: Lib.decDigits n.natAbs := by unfold numW Lib.itoa; rw [if_pos h]
theorem dec_step {v : Nat} (h : v ≠ 0) : Lib.decDigits v = (if v / 10 = 0 then [] else Lib.decDigits (v / 10)) ++ [UInt8.ofNat (48 + v % 10)] := by
 by_cases h1 : v < 10
 ·
  rw [Lib.decDigits, dif_pos h1, if_pos (by omega), show v % 10 = v by omega]; rfl
 ·
  rw [Lib.decDigits, dif_neg h1, if_neg (by omega)]
theorem neg_abs {n : Int} (h : n < 0) (h1 : -9223372036854775808 ≤ n) : IntKind.u64.wrap (-(IntKind.u64.wrap n)) = (n.natAbs : Int) := by
 have e : IntKind.u64.wrap n = n + 18446744073709551616 := by
  have : IntKind.u64.wrap n = n % 18446744073709551616 := by simp [IntKind.wrap, IntKind.bits, IntKind.signed]
  rw [this]; omega
 rw [e]
 have : ∀ m : Int, IntKind.u64.wrap m = m % 18446744073709551616 := fun m => by simp [IntKind.wrap, IntKind.bits, IntKind.signed]
 rw [this]; omega
theorem pos_abs {n : Int} (h : 0 ≤ n) (h1 : n ≤ 9223372036854775807) : IntKind.u64.wrap n = (n.natAbs : Int) := by
 have : IntKind.u64.wrap n = n % 18446744073709551616 := by simp [IntKind.wrap, IntKind.bits, IntKind.signed]
 rw [this]; omega
theorem dig_byte (v : Nat) : IntKind.u8.wrap (IntKind.u64.wrap (48 + Int.tmod (v : Int) 10)) = ((UInt8.ofNat (48 + v % 10)).toNat : Int) := by
 have h1 : Int.tmod (v : Int) 10 = ((v % 10 : Nat) : Int) := rfl
 have h2 : v % 10 < 10 := Nat.mod_lt _ (by omega)
 rw [h1]
 generalize v % 10 = r at h2
 rw [IntWalk.u64_in _ (by omega), IntWalk.u8_in _ (by omega), UInt8.toNat_ofNat', Nat.mod_eq_of_lt (by omega)]
 omega
theorem quo_nat {v : Nat} (h : v < 18446744073709551616) : IntKind.u64.wrap (Int.tdiv (v : Int) 10) = ((v / 10 : Nat) : Int) := by
 rw [show Int.tdiv (v : Int) 10 = ((v / 10 : Nat) : Int) from rfl, IntWalk.u64_in _ (by omega)]
theorem decD_len {u : Nat} (h : u < 18446744073709551616) : (Lib.decDigits u).length ≤ 20 := by rw [Lib.decDigits_length]; exact Lib.nDigits_le20 u h

inductive Av where
 | i (n : Int)
 | l (n : Int)
 | h (x : Half)
 | d (x : Dig)
 | s (w : Word)
def Av.w : Av → Word
 | .i n => numW n
 | .l n => numW n
 | .h x => fmtH x
 | .d x => fmtD x
 | .s w => w
def Av.ok : Av → Prop
 | .i n => -9223372036854775808 ≤ n ∧ n ≤ 9223372036854775807
 | .l n => -9223372036854775808 ≤ n ∧ n ≤ 9223372036854775807
 | _ => True
end Go.Pl

namespace Go.Pl
open Go Go.Hl

def valL (c : UInt8) : Nat := if 48 ≤ c.toNat ∧ c.toNat ≤ 57 then c.toNat - 48 else if 97 ≤ c.toNat ∧ c.toNat ≤ 102 then c.toNat - 87 else 16
def hexDL : List UInt8 := [48, 49, 50, 51, 52, 53, 54, 55, 56, 57, 97, 98, 99, 100, 101, 102]
set_option maxRecDepth 20000 in
theorem idx_hexL (c : UInt8) : idxB hexDL c = if valL c < 16 then (valL c : Int) else -1 := by
 have h : ∀ n : Fin 256, idxB hexDL (UInt8.ofNat n.1) = if valL (UInt8.ofNat n.1) < 16 then (valL (UInt8.ofNat n.1) : Int) else -1 := by decide
 have := h ⟨c.toNat, c.toNat_lt⟩
 simpa only [UInt8.ofNat_toNat] using this
def hX (s : Word) (i : Nat) : UInt8 := s.getD (2 * i) 0
def hY (s : Word) (i : Nat) : UInt8 := s.getD (2 * i + 1) 0
def hB (s : Word) (i : Nat) : UInt8 := UInt8.ofNat (16 * valL (hX s i) + valL (hY s i))
def hOk (s : Word) (i : Nat) : Bool := decide (valL (hX s i) < 16) && decide (valL (hY s i) < 16)
theorem hB_nat {s : Word} {i : Nat} (hx : valL (hX s i) < 16) (hy : valL (hY s i) < 16) : (hB s i).toNat = 16 * valL (hX s i) + valL (hY s i) := by
 unfold hB
 rw [UInt8.toNat_ofNat']
 omega
def unhexV (s : Word) (n : Nat) : Option (List UInt8) := if s.length = 2 * n ∧ (List.range n).all (hOk s) = true then some ((List.range n).map (hB s)) else none
def UhSt (s : Word) (n i : Nat) (l : List UInt8) : Prop := l.length = n ∧ i ≤ n ∧ l.take i = (List.range i).map (hB s) ∧ ∀ j, j < i → hOk s j = true
theorem UhSt.init (s : Word) {n : Nat} {l : List UInt8} (h : l.length = n) : UhSt s n 0 l := ⟨h, Nat.zero_le _, by simp, fun j hj => by omega⟩
theorem UhSt.next {s : Word} {n i : Nat} {l : List UInt8} (h : UhSt s n i l) (hi : i < n) (hk : hOk s i = true) : UhSt s n (i + 1) (l.set i (hB s i)) := by
 obtain ⟨h1, h2, h3, h4⟩ := h
 refine ⟨by simpa using h1, hi, ?_, fun j hj => ?_⟩
 ·
  rw [List.take_succ_eq_append_getElem (by rw [List.length_set]; omega), List.getElem_set_self, List.take_set_of_le (Nat.le_refl _), h3, List.range_succ, List.map_append]
  rfl
 ·
  rcases Nat.lt_or_ge j i with h' | h'
  ·
   exact h4 j h'
  ·
   have : j = i := by omega
   rw [this]; exact hk
theorem UhSt.fin {s : Word} {n : Nat} {l : List UInt8} (h : UhSt s n n l) (hs : s.length = 2 * n) : unhexV s n = some l := by
 obtain ⟨h1, h2, h3, h4⟩ := h
 unfold unhexV
 rw [if_pos ⟨hs, by rw [List.all_eq_true]; intro j hj; exact h4 j (List.mem_range.1 hj)⟩, ← h3, List.take_of_length_le (by omega)]
theorem UhSt.bad {s : Word} {n i : Nat} {l : List UInt8} (_ : UhSt s n i l) (hi : i < n) (hk : hOk s i = false) : unhexV s n = none := by
 unfold unhexV
 rw [if_neg]
 rintro ⟨_, h⟩
 have := List.all_eq_true.1 h i (List.mem_range.2 hi)
 rw [hk] at this; cases this
theorem unhexV_len {s : Word} {n : Nat} (h : s.length ≠ 2 * n) : unhexV s n = none := by unfold unhexV; rw [if_neg fun h' => h h'.1]
theorem unhexV_length {s : Word} {n : Nat} {l : List UInt8} (h : unhexV s n = some l) : l.length = n := by
 unfold unhexV at h
 split at h
 ·
  cases h; simp
 ·
  cases h
theorem all_u8 (l : List UInt8) : (l.map u8).all (fun v => v.cells == 1) = true := by simp [List.all_eq_true, u8, CV.cells]
theorem cellsL_u8 (l : List UInt8) : CV.cellsL (l.map u8) = l.length := cellsL_one (fun _ => rfl) l
theorem setAtL_u8 {l : List UInt8} {i : Nat} (y : UInt8) (h : i < l.length) : CV.setAtL i 1 (.c (.int .u8 (y.toNat : Int))) (l.map u8) = some (((l.set i y).map u8).map .c) := setAtL_one (f := u8) (fun _ => rfl) (fun _ _ => rfl) y l i h
def prefB (s p : Word) : Bool := decide (p.length ≤ s.length) && (s.take p.length == p)
def halfV (s : Word) : Option Half := match h : unhexV s 16 with | some l => some ⟨l, unhexV_length h⟩ | none => none
def shaW : Word := [115, 104, 97, 50, 53, 54, 58]
def digV (s : Word) : Option Dig := if prefB s shaW then match h : unhexV (s.drop 7) 32 with | some l => some ⟨l, unhexV_length h⟩ | none => none else none
theorem halfV_some {s : Word} {l : List UInt8} (h : unhexV s 16 = some l) (hl : l.length = 16) : halfV s = some ⟨l, hl⟩ := by
 unfold halfV
 split
 ·
  rename_i l' h'
  rw [h] at h'; cases h'; rfl
 ·
  rename_i h'
  rw [h] at h'; cases h'
theorem halfV_none {s : Word} (h : unhexV s 16 = none) : halfV s = none := by
 unfold halfV
 split
 ·
  rename_i l' h'
  rw [h] at h'; cases h'
 ·
  rfl
theorem digV_some {s : Word} {l : List UInt8} (hp : prefB s shaW = true) (h : unhexV (s.drop 7) 32 = some l) (hl : l.length = 32) : digV s = some ⟨l, hl⟩ := by
 unfold digV
 rw [if_pos hp]
 split
 ·
  rename_i l' h'
  rw [h] at h'; cases h'; rfl
 ·
  rename_i h'
  rw [h] at h'; cases h'
theorem digV_none {s : Word} (h : prefB s shaW = true → unhexV (s.drop 7) 32 = none) : digV s = none := by
 unfold digV
 split
 ·
  rename_i hp
  split
  ·
   rename_i l' h'
   rw [h hp] at h'; cases h'
  ·
   rfl
 ·
  rfl
theorem hbuild_hf {e : Operand → HV} {K : HV → Prop} {n b : Nat} {d : TyD} : hbuild { size := n, bytes := b, d := d, z := hf zh } [] e K = K (.c (hf zh)) := by
 simp only [hbuild, hf, hfill, hlift_some]
 rw [norm_cs]
theorem hbuild_zd {e : Operand → HV} {K : HV → Prop} {n b : Nat} {d : TyD} : hbuild { size := n, bytes := b, d := d, z := zd } [] e K = K (.c zd) := by
 simp only [hbuild, zd, dg, hfill, hlift_some]
 rw [norm_cs]
end Go.Pl

namespace Go.Hl
open Go Go.Pl

section
variable {P : Program} {n k : Nat} {Q : HPost} {fr : Fr} {ob : Ob} {nx : Nat}
theorem hw_flat {code : Code} (id : Nat) {T : TypeId} {l : List CV} (hb : ob id = some (.box T (.c (.agg [.agg l]))))
  (h : Hw P n k code Q fr (upd ob id (some (.box T (.c (.agg l))))) nx) : Hw P n k code Q fr ob nx := by
 intro c a w hn hk hz hA
 refine h c a w hn hk hz ?_
 obtain ⟨ρ, hA⟩ := hA
 refine ⟨ρ, ⟨fun i o ho => ?_, fun i hi => ?_, hA.s.apart, hA.s.xb⟩, hA.f, hA.mf, fun i o ho => ?_, hA.m0, hA.base, hA.moves, hA.defers, hA.size, hA.xlt⟩
 ·
  by_cases e' : i = id
  ·
   subst e'
   rw [upd_same] at ho
   cases ho
   obtain ⟨b, cs, e1, e2, e3⟩ := hA.s.objs i _ hb
   refine ⟨b, cs, e1, e2, ?_⟩
   simp only [RepH, RepC, RepL] at e3 ⊢
   obtain ⟨c1, c2, rfl, h1, rfl⟩ := e3
   simpa using h1
  ·
   rw [upd_ne _ _ e'] at ho
   exact hA.s.objs i o ho
 ·
  by_cases e' : i = id
  ·
   subst e'; rw [upd_same] at hi; cases hi
  ·
   rw [upd_ne _ _ e'] at hi
   exact hA.s.none i hi
 ·
  by_cases e' : i = id
  ·
   subst e'
   rw [upd_same] at ho
   cases ho
   exact ⟨(hA.mo i _ hb).1, by simp [HO.men, HV.men]⟩
  ·
   rw [upd_ne _ _ e'] at ho
   exact hA.mo i o ho
end

def HFill (P : Program) (f : FuncId) (args : List CV) (n : Nat) (T : TypeId) (l : List UInt8) (R : CV → List UInt8 → Prop) : Prop :=
 HFn P f (args.map .c ++ [.osl 0 n 0 1 n]) 1 (fob [(0, .box T (.c (.agg (l.map u8))))]) (fun r ob' => ∃ u l', r = .c u ∧ ob' = fob [(0, .box T (.c (.agg (l'.map u8))))] ∧ R u l')
theorem locOk_fill (args : List CV) (n : Nat) (T : TypeId) (v : CV) : LocOk 1 (args.map .c ++ [.osl 0 n 0 1 n]) (fob [(0, .box T (.c v))]) := by
 refine ⟨fun j h => ?_, fun id o h => ?_, HV.menL_append.2 ⟨HV.menL_c, by simp [HV.menL, HV.men]⟩⟩
 ·
  have : j = 0 := by omega
  subst this; exact ⟨_, rfl⟩
 ·
  simp only [fob_at, fob_nil] at h
  split at h
  ·
   rename_i e; subst e; cases h; exact ⟨by omega, by simp [HO.men, HV.men]⟩
  ·
   cases h
theorem call_fill {P : Program} {av : List Nat} {f : FuncId} {ob : Ob} {nid id : Nat} {K : HV → Ob → Prop} {args : List CV} {n : Nat} {T : TypeId} {l : List UInt8} {R : CV → List UInt8 → Prop} (h : HFill P f args n T l R) (hid : ob id = some (.box T (.c (.agg (l.map u8))))) (hav : id ∉ av) (hfree : Free4 ob nid)
  (hK : ∀ u l', R u l' → K (.c u) (upd ob id (some (.box T (.c (.agg (l'.map u8))))))) : HCall P av f (args.map .c ++ [.osl id n 0 1 n]) ob nid K := by
 have h0 : sub [id] nid 0 = id := rfl
 have hra : ∀ (m : Nat → Nat) (a : List CV) (b : List HV), HV.renL m (a.map .c ++ b) = a.map .c ++ HV.renL m b := by
  intro m a b
  induction a with
  | nil => rfl
  | cons x a ih => simp only [List.map_cons, List.cons_append, HV.renL, HV.ren, ih]
 refine ⟨[id], _, _, _, h, locOk_fill args n T _, ⟨by simp, by simpa using hav⟩, by rw [hra]; simp only [HV.renL, HV.ren, h0], fun j o hj => ?_, fun r lob' hR _ => ?_⟩
 ·
  simp only [fob_at, fob_nil] at hj
  split at hj
  ·
   rename_i e; subst e; cases hj; simpa [HO.ren, HV.ren] using hid
  ·
   cases hj
 ·
  obtain ⟨u, l', rfl, rfl, hR⟩ := hR
  have e2 : obAfter ob [id] nid (fob [(0, .box T (.c (.agg (l'.map u8))))]) = upd ob id (some (.box T (.c (.agg (l'.map u8))))) := by
   funext i
   by_cases e : i = id
   ·
    subst e
    rw [upd_same]
    simp only [obAfter, List.findIdx?_cons, beq_self_eq_true, if_true, fob_at, Option.map_some, HO.ren, HV.ren]
   ·
    have e' : (id == i) = false := by simp; exact fun h => e h.symm
    rw [upd_ne _ _ e]
    simp only [obAfter, List.findIdx?_cons, e', List.findIdx?_nil, Option.map_none]
    simp only [Bool.false_eq_true, if_false]
    split
    ·
     rename_i hr
     have h2 : [id].length + (i - nid) ≠ 0 := by simp
     rw [fob_at, if_neg h2, fob_nil]
     exact (hfree.all i hr.1 hr.2).symm
    ·
     rfl
  rw [e2]
  exact hK u l' hR
theorem hret_fill {ob : Ob} {T : TypeId} {l' : List UInt8} {r : HV} {R : CV → List UInt8 → Prop} (u : CV) (hr : (r.close ob []).norm = .c u) (ho : ob 0 = some (.box T (.c (.agg (l'.map u8))))) (hR : R u l') :
  HRet 1 r ob (fun r ob' => ∃ u l', r = .c u ∧ ob' = fob [(0, .box T (.c (.agg (l'.map u8))))] ∧ R u l') := by
 refine ⟨[], id, .c u, _, ⟨u, l', rfl, rfl, hR⟩, hr, fun _ _ => rfl, fun _ _ _ _ h => h, by simp [HV.men], fun j o h => ?_⟩
 simp only [fob_at, fob_nil] at h
 split at h
 ·
  rename_i e
  subst e; cases h
  refine ⟨by omega, by simp [HO.men, HV.men], by simp, _, ho, ?_⟩
  have hd : (CV.agg (l'.map u8)).denil = .agg (l'.map u8) := us_denil l'
  simp only [HO.ren, HV.ren, HV.close, hd, HV.norm, HV.toC]
 ·
  cases h
end Go.Hl
