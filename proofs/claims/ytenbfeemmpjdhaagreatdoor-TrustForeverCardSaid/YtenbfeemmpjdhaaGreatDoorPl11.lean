/- Plain Lean: root documents, who vouches, what is valid. By an AI agent. -/
import Derived.Test.YtenbfeemmpjdhaaGreatDoorPl18
import Derived.Sort.KeysCollected
set_option linter.unusedSimpArgs false
set_option linter.unusedVariables false
set_option linter.defProp false
namespace Go.Pl
open Go Go.Hl

abbrev W32 := BitVec 32
def w32 (x : W32) : CV := .int .u32 (x.toNat : Int)
def ws (l : List W32) : CV := .agg (l.map w32)
def u8 (x : UInt8) : CV := .int .u8 (x.toNat : Int)
def us (l : List UInt8) : CV := .agg (l.map u8)

def itN {α : Type} (f : Nat → α → α) : Nat → α → α
 | 0, s => s
 | n + 1, s => f n (itN f n s)
theorem itN_succ {α : Type} (f : Nat → α → α) (n : Nat) (s : α) : itN f (n + 1) s = f n (itN f n s) := rfl

def gw (l : List W32) (i : Nat) : W32 := l.getD i 0
def gb (l : List UInt8) (i : Nat) : UInt8 := l.getD i 0
def rotr (x : W32) (n : Nat) : W32 := (x >>> n) ||| (x <<< (32 - n))
def bw (x : UInt8) : W32 := BitVec.ofNat 32 x.toNat
def be (b : List UInt8) (i : Nat) : W32 := ((bw (gb b (4 * i)) <<< 24 ||| bw (gb b (4 * i + 1)) <<< 16) ||| bw (gb b (4 * i + 2)) <<< 8) ||| bw (gb b (4 * i + 3))
def sg0 (x : W32) : W32 := (rotr x 7 ^^^ rotr x 18) ^^^ (x >>> 3)
def sg1 (x : W32) : W32 := (rotr x 17 ^^^ rotr x 19) ^^^ (x >>> 10)
def wA (b : List UInt8) (n : Nat) : List W32 := itN (fun i w => w.set i (be b i)) n (List.replicate 64 0)
def wB (w : List W32) (n : Nat) : List W32 := itN (fun i w => w.set (i + 16) (((gw w i + sg0 (gw w (i + 1))) + gw w (i + 9)) + sg1 (gw w (i + 14)))) n w
def wsched (b : List UInt8) : List W32 := wB (wA b 16) 48

def K256 : List W32 := [
 0x428a2f98, 0x71374491, 0xb5c0fbcf, 0xe9b5dba5, 0x3956c25b, 0x59f111f1, 0x923f82a4, 0xab1c5ed5,
 0xd807aa98, 0x12835b01, 0x243185be, 0x550c7dc3, 0x72be5d74, 0x80deb1fe, 0x9bdc06a7, 0xc19bf174,
 0xe49b69c1, 0xefbe4786, 0x0fc19dc6, 0x240ca1cc, 0x2de92c6f, 0x4a7484aa, 0x5cb0a9dc, 0x76f988da,
 0x983e5152, 0xa831c66d, 0xb00327c8, 0xbf597fc7, 0xc6e00bf3, 0xd5a79147, 0x06ca6351, 0x14292967,
 0x27b70a85, 0x2e1b2138, 0x4d2c6dfc, 0x53380d13, 0x650a7354, 0x766a0abb, 0x81c2c92e, 0x92722c85,
 0xa2bfe8a1, 0xa81a664b, 0xc24b8b70, 0xc76c51a3, 0xd192e819, 0xd6990624, 0xf40e3585, 0x106aa070,
 0x19a4c116, 0x1e376c08, 0x2748774c, 0x34b0bcb5, 0x391c0cb3, 0x4ed8aa4a, 0x5b9cca4f, 0x682e6ff3,
 0x748f82ee, 0x78a5636f, 0x84c87814, 0x8cc70208, 0x90befffa, 0xa4506ceb, 0xbef9a3f7, 0xc67178f2]

structure St where
 (a b c d e f g h : W32)
def St.l (s : St) : List W32 := [s.a, s.b, s.c, s.d, s.e, s.f, s.g, s.h]
def St0 : St := ⟨0x6a09e667, 0xbb67ae85, 0x3c6ef372, 0xa54ff53a, 0x510e527f, 0x9b05688c, 0x1f83d9ab, 0x5be0cd19⟩
def t1 (s : St) (k w : W32) : W32 := (((s.h + ((rotr s.e 6 ^^^ rotr s.e 11) ^^^ rotr s.e 25)) + ((s.e &&& s.f) ^^^ (~~~ s.e &&& s.g))) + k) + w
def t2 (s : St) : W32 := ((rotr s.a 2 ^^^ rotr s.a 13) ^^^ rotr s.a 22) + (((s.a &&& s.b) ^^^ (s.a &&& s.c)) ^^^ (s.b &&& s.c))
def rnd (w : List W32) (i : Nat) (s : St) : St := ⟨t1 s (gw K256 i) (gw w i) + t2 s, s.a, s.b, s.c, s.d + t1 s (gw K256 i) (gw w i), s.e, s.f, s.g⟩
def addSt (s r : St) : St := ⟨s.a + r.a, s.b + r.b, s.c + r.c, s.d + r.d, s.e + r.e, s.f + r.f, s.g + r.g, s.h + r.h⟩
def comp (s : St) (p : List UInt8) : St := addSt s (itN (rnd (wsched p)) 64 s)
def blk (p : List UInt8) (n : Nat) (s : St) : St := itN (fun i s => comp s ((p.drop (64 * i)).take 64)) n s
def zs (n : Nat) : Nat := (119 - n % 64) % 64
def len8 (n : Nat) : List UInt8 := (List.range 8).map fun i => UInt8.ofNat (8 * n / 2 ^ (8 * (7 - i)))
def pad (b : List UInt8) : List UInt8 := (b ++ [0x80]) ++ List.replicate (zs b.length) 0 ++ len8 b.length
def outB (s : St) : List UInt8 := (List.range 32).map fun i => UInt8.ofNat ((gw s.l (i / 4)) >>> (24 - 8 * (i % 4))).toNat
def sha (b : List UInt8) : Dig := ⟨outB (blk (pad b) ((pad b).length / 64) St0), by simp [outB]⟩

def keyIn (h : UInt8) (r : List UInt8) : List UInt8 := [7, h] ++ r

theorem wrap32 {n : Nat} (h : n < 4294967296) : IntKind.u32.wrap (n : Int) = (n : Int) := IntWalk.u32_in _ (by omega)
theorem ofInt32 (x : W32) : BitVec.ofInt IntKind.u32.bits (x.toNat : Int) = x := by
 show BitVec.ofInt 32 (x.toNat : Int) = x
 simp
theorem wlt (x : W32) : x.toNat < 4294967296 := x.isLt
theorem w_in (x : W32) : IntKind.u32.wrap (x.toNat : Int) = (x.toNat : Int) := wrap32 (wlt x)
theorem w_add (x y : W32) : IntKind.u32.wrap ((x.toNat : Int) + (y.toNat : Int)) = ((x + y).toNat : Int) := by
 rw [IntKind.wrap_u32, BitVec.toNat_add]
 omega
theorem w_and (x y : W32) : IntKind.u32.wrap ((BitVec.ofInt IntKind.u32.bits (x.toNat : Int) &&& BitVec.ofInt IntKind.u32.bits (y.toNat : Int)).toNat : Int) = ((x &&& y).toNat : Int) := by
 rw [ofInt32, ofInt32]; exact w_in _
theorem w_or (x y : W32) : IntKind.u32.wrap ((BitVec.ofInt IntKind.u32.bits (x.toNat : Int) ||| BitVec.ofInt IntKind.u32.bits (y.toNat : Int)).toNat : Int) = ((x ||| y).toNat : Int) := by
 rw [ofInt32, ofInt32]; exact w_in _
theorem w_xor (x y : W32) : IntKind.u32.wrap ((BitVec.ofInt IntKind.u32.bits (x.toNat : Int) ^^^ BitVec.ofInt IntKind.u32.bits (y.toNat : Int)).toNat : Int) = ((x ^^^ y).toNat : Int) := by
 rw [ofInt32, ofInt32]; exact w_in _
theorem w_not (x : W32) : IntKind.u32.wrap ((BitVec.ofInt IntKind.u32.bits (if IntKind.u32.signed then -1 else IntKind.u32.max) ^^^ BitVec.ofInt IntKind.u32.bits (x.toNat : Int)).toNat : Int) = ((~~~ x).toNat : Int) := by
 have h : BitVec.ofInt 32 4294967295 ^^^ BitVec.ofInt 32 (x.toNat : Int) = ~~~ x := by
  have h1 : BitVec.ofInt 32 (x.toNat : Int) = x := ofInt32 x
  have h2 : (BitVec.ofInt 32 4294967295 : BitVec 32) = BitVec.allOnes 32 := by decide
  rw [h1, h2]; exact BitVec.allOnes_xor
 show IntKind.u32.wrap ((BitVec.ofInt 32 4294967295 ^^^ BitVec.ofInt 32 (x.toNat : Int)).toNat : Int) = _
 rw [h]
 exact w_in _
theorem w_shr (x : W32) (n : Nat) (h : n ≤ 32) : Int.fdiv (x.toNat : Int) (2 ^ (min n IntKind.u32.bits)) = ((x >>> n).toNat : Int) := by
 have : min n IntKind.u32.bits = n := Nat.min_eq_left h
 rw [this, BitVec.toNat_ushiftRight, Nat.shiftRight_eq_div_pow, Int.fdiv_eq_ediv_of_nonneg _ (Int.pow_nonneg (by omega))]
 norm_cast
theorem w_shl (x : W32) (n : Nat) (h : n ≤ 32) : IntKind.u32.wrap ((x.toNat : Int) * 2 ^ (min n IntKind.u32.bits)) = ((x <<< n).toNat : Int) := by
 have : min n IntKind.u32.bits = n := Nat.min_eq_left h
 rw [this, BitVec.toNat_shiftLeft, Nat.shiftLeft_eq, IntKind.wrap_u32, show (2 : Nat) ^ 32 = 4294967296 from rfl]
 have hp : (x.toNat : Int) * 2 ^ n = ((x.toNat * 2 ^ n : Nat) : Int) := by rw [Int.natCast_mul, Int.natCast_pow]; rfl
 rw [hp]
 generalize x.toNat * 2 ^ n = p
 omega
theorem w_byte (b : UInt8) : IntKind.u32.wrap (b.toNat : Int) = ((bw b).toNat : Int) := by
 have h := b.toNat_lt
 rw [wrap32 (by omega)]
 simp only [bw, BitVec.toNat_ofNat]
 rw [Nat.mod_eq_of_lt (by omega)]
theorem byte_w (x : W32) : IntKind.u8.wrap (x.toNat : Int) = ((UInt8.ofNat x.toNat).toNat : Int) := by
 rw [IntKind.wrap_u8, UInt8.toNat_ofNat']
 omega

section
variable {α : Type} {f : α → CV}
theorem cellsL_one (hc : ∀ x, (f x).cells = 1) : ∀ l : List α, CV.cellsL (l.map f) = l.length
 | [] => rfl
 | x :: l => by simp only [List.map_cons, CV.cellsL, hc, cellsL_one hc l, List.length_cons]; omega
theorem getAtL_one (hc : ∀ x, (f x).cells = 1) (hg : ∀ x, CV.getAt 0 1 false (f x) = some (f x)) : ∀ (l : List α) (i : Nat) (h : i < l.length), CV.getAtL i 1 false (l.map f) = some (f l[i])
 | [], i, h => by simp at h
 | x :: l, 0, h => by simp only [List.map_cons, CV.getAtL, hc, if_pos (show 0 < 1 by omega), hg, List.getElem_cons_zero]
 | x :: l, i + 1, h => by
  simp only [List.map_cons, CV.getAtL, hc, if_neg (show ¬ i + 1 < 1 by omega), Nat.add_sub_cancel, List.getElem_cons_succ]
  exact getAtL_one hc hg l i (by simpa using h)
theorem getAt_one (hc : ∀ x, (f x).cells = 1) (hg : ∀ x, CV.getAt 0 1 false (f x) = some (f x)) {l : List α} {i : Nat} (h : i < l.length) : CV.getAt i 1 false (.agg (l.map f)) = some (f l[i]) := by
 simp only [CV.getAt, Bool.false_eq_true, and_false, if_false]
 exact getAtL_one hc hg l i h
theorem setAtL_one (hc : ∀ x, (f x).cells = 1) (hs : ∀ x y, CV.setAt 0 1 y (f x) = some y) (y : α) : ∀ (l : List α) (i : Nat), i < l.length → CV.setAtL i 1 (.c (f y)) (l.map f) = some (((l.set i y).map f).map .c)
 | [], i, h => by simp at h
 | x :: l, 0, h => by simp only [List.map_cons, CV.setAtL, hc, if_pos (show 0 < 1 by omega), hs, Option.map_some, List.set_cons_zero]
 | x :: l, i + 1, h => by
  simp only [List.map_cons, CV.setAtL, hc, if_neg (show ¬ i + 1 < 1 by omega), Nat.add_sub_cancel, List.set_cons_succ]
  rw [setAtL_one hc hs y l i (by simpa using h)]
  rfl
theorem setAt_one (hc : ∀ x, (f x).cells = 1) (hs : ∀ x y, CV.setAt 0 1 y (f x) = some y) {y : α} {l : List α} {i : Nat} (h : i < l.length) (h2 : l.length ≠ 1) : CV.setAt i 1 (.c (f y)) (.agg (l.map f)) = some (.agg (((l.set i y).map f).map .c)) := by
 simp only [CV.setAt, cellsL_one hc, h2, and_false, if_false]
 rw [setAtL_one hc hs y l i h]
 rfl
end
theorem toCL_c : ∀ l : List CV, HV.toCL (l.map .c) = some l
 | [] => rfl
 | x :: l => by simp only [List.map_cons, HV.toCL, HV.toC, toCL_c l]
theorem norm_cs (l : List CV) : HV.norm (.agg (l.map .c)) = .c (.agg l) := by simp only [HV.norm, HV.toC, toCL_c, Option.map_some]
theorem ws_cells (l : List W32) : (ws l).cells = l.length := cellsL_one (fun _ => rfl) l
theorem us_cells (l : List UInt8) : (us l).cells = l.length := cellsL_one (fun _ => rfl) l
theorem ws_get {l : List W32} {i : Nat} (h : i < l.length) : CV.getAt i 1 false (ws l) = some (w32 l[i]) := getAt_one (fun _ => rfl) (fun _ => rfl) h
theorem us_get {l : List UInt8} {i : Nat} (h : i < l.length) : CV.getAt i 1 false (us l) = some (u8 l[i]) := getAt_one (fun _ => rfl) (fun _ => rfl) h
theorem ws_set {l : List W32} {i : Nat} (y : W32) (h : i < l.length) (h2 : l.length ≠ 1) : CV.setAt i 1 (.c (w32 y)) (ws l) = some (.agg (((l.set i y).map w32).map .c)) := setAt_one (fun _ => rfl) (fun _ _ => rfl) h h2
theorem us_set {l : List UInt8} {i : Nat} (y : UInt8) (h : i < l.length) (h2 : l.length ≠ 1) : CV.setAt i 1 (.c (u8 y)) (us l) = some (.agg (((l.set i y).map u8).map .c)) := setAt_one (fun _ => rfl) (fun _ _ => rfl) h h2
theorem gw_at {l : List W32} {i : Nat} (h : i < l.length) : gw l i = l[i] := by simp [gw, h]
theorem gb_at {l : List UInt8} {i : Nat} (h : i < l.length) : gb l i = l[i] := by simp [gb, h]
theorem itN_len {α : Type} {f : Nat → List α → List α} (hf : ∀ i l, (f i l).length = l.length) : ∀ (n : Nat) (l : List α), (itN f n l).length = l.length
 | 0, _ => rfl
 | n + 1, l => by rw [itN_succ, hf, itN_len hf n l]
theorem wA_len (b : List UInt8) (n : Nat) : (wA b n).length = 64 := by unfold wA; rw [itN_len (fun i l => by simp)]; simp
theorem wB_len (w : List W32) (n : Nat) : (wB w n).length = w.length := itN_len (fun i l => by simp) n w
theorem wsched_len (b : List UInt8) : (wsched b).length = 64 := by rw [wsched, wB_len, wA_len]
theorem K256_len : K256.length = 64 := rfl
def wz (n : Nat) : List W32 := List.replicate n 0
def uz (n : Nat) : List UInt8 := List.replicate n 0
theorem wz_len (n : Nat) : (wz n).length = n := by simp [wz]
theorem uz_len (n : Nat) : (uz n).length = n := by simp [uz]
end Go.Pl

namespace Go.Hl
open Go

def gd (ops : Array Oper) (o : Oper) : Option (Option (Nat × Bool)) :=
 match o.guard with
 | none => some none
 | some (j, want) => match (ops[j]?).bind (·.dst) with
  | some d => some (some (d, want))
  | none => none
def hgd (g : Option (Nat × Bool)) (fr : Fr) : Option Bool :=
 match g with
 | none => some true
 | some (d, want) => match fr d with
  | .c (.bool b) => some (b == want)
  | .tup _ => some false
  | _ => none
def hop1 (P : Program) (nid : Nat) (av : List Nat) (g : Option (Nat × Bool)) (o : Op) (d : Option Nat) (K : Fr → Ob → Prop) (fr : Fr) (ob : Ob) : Prop :=
 match hgd g fr with
 | some true => hstep P av nid o (ev fr) ob fun v ob' => K (updo fr d v) ob'
 | some false => K (updo fr d (.tup [])) ob
 | none => False
section
variable {P : Program} {ops : Array Oper} {nx i : Nat} {o : Oper} {g : Option (Nat × Bool)} {Q : Fr → Ob → Prop} {fr : Fr} {ob : Ob}

theorem hguard_gd (hg : gd ops o = some g) : hguard ops o fr = hgd g fr := by
 unfold gd at hg
 unfold hguard hgd
 cases h : o.guard with
 | none => rw [h] at hg; cases hg; rfl
 | some p =>
  obtain ⟨j, want⟩ := p
  rw [h] at hg
  simp only at hg ⊢
  cases hd : (ops[j]?).bind (·.dst) with
  | none => rw [hd] at hg; cases hg
  | some d => rw [hd] at hg; cases hg; rfl

theorem hopI_hop1 {av : List Nat} {K : Fr → Ob → Prop} (ho : ops[i]? = some o) (hg : gd ops o = some g) (h : hop1 P (nx + 4 * i) av g o.op o.dst K fr ob) : hopI P ops nx av i K fr ob := by
 unfold hop1 at h
 unfold hopI
 rw [ho]
 simp only [hguard_gd hg]
 exact h

theorem hlex_step {l : List Nat} (ho : ops[i]? = some o) (hg : gd ops o = some g) (h : ∀ K : Fr → Ob → Prop, (∀ fr ob, hlex P ops nx Q l fr ob → K fr ob) → hop1 P (nx + 4 * i) [] g o.op o.dst K fr ob) : hlex P ops nx Q (i :: l) fr ob := by
 simp only [hlex]
 exact hopI_hop1 ho hg (h _ fun _ _ h => h)

theorem hwalk2_step {cr rd : List Nat} {l : Plan} {C : Pend} (ho : ops[i]? = some o) (hg : gd ops o = some g)
  (h : ∀ K : Fr → Ob → Prop, (∀ fr' ob', hwalk2 P ops nx Q l (if isEff o.op = true then C else (i, if hgd g fr = some true then touch o.op (ev fr) else []) :: C) fr' ob' → K fr' ob') →
   hop1 P (nx + 4 * i) (cr.flatMap (ids4 nx) ++ rd.flatMap (getF C)) g o.op o.dst K fr ob) : hwalk2 P ops nx Q ((i, cr, rd) :: l) C fr ob := by
 simp only [hwalk2]
 refine hopI_hop1 ho hg (h _ fun fr' ob' h => ?_)
 rw [ho]
 simp only [hguard_gd hg]
 exact h

theorem closeK_mk {id n sz : Nat} {el : TypeId} {l : List CV} {ob : Ob} {K : HV → Ob → Prop} (hn : n = l.length) (h : K (.c (.slc l)) (upd ob id (some .dead))) : closeK id ob K (.own id n) (upd ob id (some (.row el sz l))) :=
 ⟨n, el, sz, l, rfl, rfl, hn, h⟩
def hop1C (P : Program) (nid : Nat) (av : List Nat) (g : Option (Nat × Bool)) (o : Op) (d : Option Nat) (id : Nat) (K : Fr → Ob → Prop) (fr : Fr) (ob : Ob) : Prop :=
 match hgd g fr with
 | some true => (hcallOf o = none ∧ mkId nid o (ev fr) = some id) ∧ (∀ i ∈ touch o (ev fr), i ∉ av ∧ (ob i).isSome = true) ∧ hop P nid o (ev fr) ob (closeK id ob fun v ob' => K (updo fr d v) ob')
 | some false => K (updo fr d (.tup [])) ob
 | none => False
theorem hopIG_hop1C {av : List Nat} {K : Fr → Ob → Prop} {id : Nat} (ho : ops[i]? = some o) (hg : gd ops o = some g) (h : hop1C P (nx + 4 * i) av g o.op o.dst id K fr ob) : hopIG P ops nx av i K fr ob := by
 unfold hop1C at h
 unfold hopIG
 rw [ho]
 simp only [hguard_gd hg]
 cases hb : hgd g fr with
 | none => rw [hb] at h; exact h.elim
 | some b =>
  rw [hb] at h
  cases b with
  | false => exact h
  | true =>
   obtain ⟨⟨h1, h2⟩, h3, h4⟩ := h
   simp only
   unfold hstepG
   rw [h1]
   exact ⟨h3, .inr ⟨id, h2, h4⟩⟩
theorem hlexG_step {l : List Nat} (ho : ops[i]? = some o) (hg : gd ops o = some g) (h : ∀ K : Fr → Ob → Prop, (∀ fr ob, hlexG P ops nx Q l fr ob → K fr ob) → hop1 P (nx + 4 * i) [] g o.op o.dst K fr ob) : hlexG P ops nx Q (i :: l) fr ob := by
 simp only [hlexG]
 exact hopI_G (fun _ _ h => h) (hopI_hop1 ho hg (h _ fun _ _ h => h))
theorem hlexG_stepC {l : List Nat} (id : Nat) (ho : ops[i]? = some o) (hg : gd ops o = some g) (h : ∀ K : Fr → Ob → Prop, (∀ fr ob, hlexG P ops nx Q l fr ob → K fr ob) → hop1C P (nx + 4 * i) [] g o.op o.dst id K fr ob) : hlexG P ops nx Q (i :: l) fr ob := by
 simp only [hlexG]
 exact hopIG_hop1C ho hg (h _ fun _ _ h => h)
theorem hwalk2G_step {cr rd : List Nat} {l : Plan} {C : Pend} (ho : ops[i]? = some o) (hg : gd ops o = some g)
  (h : ∀ K : Fr → Ob → Prop, (∀ fr' ob', hwalk2G P ops nx Q l (if isEff o.op = true then C else (i, if hgd g fr = some true then touch o.op (ev fr) else []) :: C) fr' ob' → K fr' ob') →
   hop1 P (nx + 4 * i) (cr.flatMap (ids4 nx) ++ rd.flatMap (getF C)) g o.op o.dst K fr ob) : hwalk2G P ops nx Q ((i, cr, rd) :: l) C fr ob := by
 simp only [hwalk2G]
 refine hopI_G (fun _ _ h => h) (hopI_hop1 ho hg (h _ fun fr' ob' h => ?_))
 rw [ho]
 simp only [hguard_gd hg]
 exact h
theorem hwalk2G_stepC {cr rd : List Nat} {l : Plan} {C : Pend} (id : Nat) (ho : ops[i]? = some o) (hg : gd ops o = some g)
  (h : ∀ K : Fr → Ob → Prop, (∀ fr' ob', hwalk2G P ops nx Q l (if isEff o.op = true then C else (i, if hgd g fr = some true then touch o.op (ev fr) else []) :: C) fr' ob' → K fr' ob') →
   hop1C P (nx + 4 * i) (cr.flatMap (ids4 nx) ++ rd.flatMap (getF C)) g o.op o.dst id K fr ob) : hwalk2G P ops nx Q ((i, cr, rd) :: l) C fr ob := by
 simp only [hwalk2G]
 refine hopIG_hop1C ho hg (h _ fun fr' ob' h => ?_)
 rw [ho]
 simp only [hguard_gd hg]
 exact h
end
end Go.Hl

namespace Go.Hl
open Go



theorem obAfter_gone {ob lob : Ob} {σ : List Nat} {nid id : Nat} (hn : σ.Nodup) (h0 : σ[0]? = some id) (hl0 : lob 0 = none) (h1 : ∀ j, 0 < j → j < σ.length → ∃ o, lob j = some o ∧ ob (σ.getD j 0) = some (o.ren (sub σ nid))) (h2 : ∀ j, σ.length ≤ j → lob j = none) (h3 : ∀ i, nid ≤ i → i < nid + 4 → ob i = none) :
  obAfter ob σ nid lob = gone ob id := by
 funext i
 unfold obAfter gone
 split
 ·
  rename_i j hj
  obtain ⟨hjl, hje, _⟩ := List.findIdx?_eq_some_iff_getElem.1 hj
  have this : σ[j] = i := by simpa using hje
  by_cases e : j = 0
  ·
   subst e
   rw [List.getElem?_eq_getElem hjl] at h0
   have e2 : i = id := by rw [← this]; exact Option.some.inj h0
   rw [hl0, if_pos e2]; rfl
  ·
   obtain ⟨o, e1, e2⟩ := h1 j (by omega) hjl
   have hne : i ≠ id := by
    intro e3
    have h0l : 0 < σ.length := by omega
    rw [List.getElem?_eq_getElem h0l] at h0
    have := (List.pairwise_iff_getElem.1 hn) 0 j h0l hjl (by omega)
    exact this ((Option.some.inj h0).trans (e3.symm.trans (by rw [← ‹σ[j] = i›])))
   have e4 : σ.getD j 0 = i := by rw [List.getD_eq_getElem?_getD, List.getElem?_eq_getElem hjl]; simpa using this
   rw [e1, if_neg hne, ← e4, e2]; rfl
 ·
  rename_i hno
  have hne : i ≠ id := by
   rintro rfl
   rw [List.findIdx?_eq_none_iff] at hno
   exact absurd (hno i (List.mem_of_getElem? h0)) (by simp)
  rw [if_neg hne]
  split
  ·
   rename_i h; rw [h2 _ (by omega), h3 i h.1 h.2]; rfl
  ·
   rfl

def Free4 (ob : Ob) (nid : Nat) : Prop := ob nid = none ∧ ob (nid + 1) = none ∧ ob (nid + 2) = none ∧ ob (nid + 3) = none
theorem Free4.all {ob : Ob} {nid : Nat} (h : Free4 ob nid) : ∀ i, nid ≤ i → i < nid + 4 → ob i = none := fun i h1 h2 => by
 have : i = nid ∨ i = nid + 1 ∨ i = nid + 2 ∨ i = nid + 3 := by omega
 rcases this with rfl | rfl | rfl | rfl
 ·
  exact h.1
 ·
  exact h.2.1
 ·
  exact h.2.2.1
 ·
  exact h.2.2.2

def HTake (P : Program) (f : FuncId) (e : TypeId) (sz : Nat) (l : List CV) (R : CV → Prop) : Prop := HFn P f [.own 0 l.length] 1 (fob [(0, .row e sz l)]) (fun r ob' => ∃ u, r = .c u ∧ ob' = none0 ∧ R u)

theorem locOk_clo (T : TypeId) (v : CV) (args : List CV) : LocOk 1 (args.map HV.c ++ [HV.ptr 0 0]) (fob [(0, .box T (.c v))]) := by
 have h := locOk_box T v []
 exact ⟨h.all, h.none, by rw [HV.menL_append]; exact ⟨HV.menL_c, by simp [HV.menL, HV.men]⟩⟩
theorem locOk_take (e : TypeId) (sz n : Nat) (l : List CV) : LocOk 1 [.own 0 n] (fob [(0, .row e sz l)]) := by
 refine ⟨fun j h => ?_, fun id o h => ?_, by simp [HV.menL, HV.men]⟩
 ·
  have : j = 0 := by omega
  subst this; exact ⟨_, rfl⟩
 ·
  simp only [fob_at, fob_nil] at h
  split at h
  ·
   cases h; rename_i e; subst e; exact ⟨by omega, trivial⟩
  ·
   cases h

theorem hret_take {ob : Ob} {r : HV} {R : CV → Prop} (cl : List Nat) (u : CV) (h : (r.close ob cl).norm = .c u) (hR : R u) : HRet 1 r ob (fun r ob' => ∃ u, r = .c u ∧ ob' = none0 ∧ R u) :=
 ⟨cl, id, .c u, none0, ⟨u, rfl, rfl, hR⟩, by rw [h]; rfl, fun _ _ => rfl, fun _ _ _ _ h => h, by simp [HV.men], fun j o h => by simp [none0] at h⟩

section
variable {P : Program} {av : List Nat} {f g : FuncId} {ob : Ob} {nid id id2 n : Nat} {K : HV → Ob → Prop} {T e : TypeId} {sz : Nat} {v : CV} {l : List CV} {R : CV → Prop}

theorem call_take (h : HTake P f e sz l R) (hid : ob id = some (.row e sz l)) (hn : n = l.length) (hav : id ∉ av) (hfree : Free4 ob nid) (hK : ∀ u, R u → K (.c u) (gone ob id)) :
  HCall P av f [.own id n] ob nid K := by
 have h0 : sub [id] nid 0 = id := rfl
 subst hn
 refine ⟨[id], _, _, _, h, locOk_take e sz _ l, ⟨by simp, by simpa using hav⟩, by simp only [HV.renL, HV.ren, h0], fun j o hj => ?_, fun r lob' hR _ => ?_⟩
 ·
  simp only [fob_at, fob_nil] at hj
  split at hj
  ·
   rename_i e; subst e; cases hj; simpa [HO.ren] using hid
  ·
   cases hj
 ·
  obtain ⟨u, rfl, rfl, hR⟩ := hR
  rw [obAfter_gone (lob := none0) (id := id) (by simp) rfl rfl (fun j hj0 hj => ?_) (fun j hj => rfl) hfree.all]
  ·
   exact hK u hR
  ·
   simp at hj; omega
end



theorem obAfter_upd {ob : Ob} {nid id : Nat} {o : HO} (hfree : Free4 ob nid) : obAfter ob [id] nid (fob [(0, o)]) = upd ob id (some (o.ren (sub [id] nid))) := by
 funext i
 by_cases e : i = id
 ·
  subst e
  simp only [obAfter, upd_same, List.findIdx?_cons, beq_self_eq_true, if_true, fob_at, Option.map_some]
 ·
  have e' : (id == i) = false := by simp; exact fun h => e h.symm
  simp only [obAfter, List.findIdx?_cons, e', List.findIdx?_nil, Option.map_none, upd_ne _ _ e]
  simp only [Bool.false_eq_true, if_false]
  split
  ·
   rename_i hr
   have h1 : [id].length + (i - nid) ≠ 0 := by simp
   rw [fob_at, if_neg h1, fob_nil]
   exact (hfree.all i hr.1 hr.2).symm
  ·
   rfl

end Go.Hl

namespace Go.Pl
open Go Go.Hl

theorem Rp.setAll (p : Rp) (x : HV) : CV.setAt 0 97 x p.cv = some x := by
 have := Rp.cells p
 simp only [Rp.cv, CV.cells] at this
 simp only [Rp.cv, CV.setAt, this, and_self, if_true]

def idxP {α : Type} (p : α → Bool) (l : List α) : Int := match l.findIdx? p with | some i => i | none => -1

theorem idxP_hit {α : Type} {p : α → Bool} {l : List α} {i : Nat} (hi : i < l.length) (h : p l[i] = true) (h0 : ∀ x ∈ l.take i, p x = false) : idxP p l = i := by
 unfold idxP
 have : l.findIdx? p = some i := by
  rw [List.findIdx?_eq_some_iff_getElem]
  refine ⟨hi, h, fun j hj => ?_⟩
  have := h0 (l[j]'(by omega)) (by rw [List.mem_take_iff_getElem]; exact ⟨j, by omega, rfl⟩)
  simp [this]
 rw [this]
theorem idxP_none {α : Type} {p : α → Bool} {l : List α} (h0 : ∀ x ∈ l, p x = false) : idxP p l = -1 := by
 unfold idxP
 have : l.findIdx? p = none := by rw [List.findIdx?_eq_none_iff]; exact h0
 rw [this]
theorem idxP_ge {α : Type} {p : α → Bool} {l : List α} : (0 ≤ idxP p l) ↔ l.any p = true := by
 unfold idxP
 cases h : l.findIdx? p with
 | none =>
  rw [List.findIdx?_eq_none_iff] at h
  simp only [List.any_eq_true]
  constructor
  ·
   intro h'; omega
  ·
   rintro ⟨x, hx, hp⟩; rw [h x hx] at hp; cases hp
 | some i =>
  obtain ⟨hi, hp, _⟩ := List.findIdx?_eq_some_iff_getElem.1 h
  simp only [List.any_eq_true]
  exact ⟨fun _ => ⟨l[i], List.getElem_mem hi, hp⟩, fun _ => by omega⟩
end Go.Pl

namespace Go.Hl
open Go Go.RowKit

def leW (x y : List UInt8) : Bool := decide (x ≤ y)
structure MOk (D : MD) : Prop where
 nd : (D.map (·.1)).Nodup
 th : ∀ p ∈ D, p.2.there = true

theorem repL_strs {w : World} {O : Nat → Prop} : ∀ (l : List (List UInt8)), RepL w O (l.map CV.str) (l.map skey)
 | [] => by simp [RepL]
 | x :: l => by simp only [List.map_cons, RepL]; exact ⟨[skey x], _, rfl, by simp [RepC, skey], repL_strs l⟩

section
variable {P : Program} {av : List Nat} {f fi : FuncId} {ob : Ob} {nid id id2 : Nat} {K : HV → Ob → Prop} {T e : TypeId} {sz : Nat} {D : MD}
end

theorem repHV_c' {w : World} {ρ ρ2 : Env} {X : Nat → Prop} (hst : Stay w (Owned ρ X) w (Owned ρ2 X)) : ∀ {l : List CV} {xs : List Value}, RepHV w ρ (Owned ρ X) (l.map .c) xs → RepHV w ρ2 (Owned ρ2 X) (l.map .c) xs
 | [], xs, h => by simpa only [List.map_nil, RepHV] using h
 | v :: l, xs, h => by
  rw [List.map_cons, repHV_cons] at h ⊢
  obtain ⟨y, ys, rfl, ⟨h1, h2⟩, h3⟩ := h
  exact ⟨y, ys, rfl, ⟨by simp only [RepH] at h1 ⊢; exact h1.stay hst, h2⟩, repHV_c' hst h3⟩
theorem repHV_append2 {w : World} {ρ : Env} {O : Nat → Prop} : ∀ {l1 l2 : List HV} {xs : List Value}, RepHV w ρ O (l1 ++ l2) xs ↔ ∃ y1 y2, xs = y1 ++ y2 ∧ RepHV w ρ O l1 y1 ∧ RepHV w ρ O l2 y2
 | [], l2, xs => by simp only [List.nil_append, RepHV]; exact ⟨fun h => ⟨[], xs, rfl, rfl, h⟩, fun ⟨y1, y2, h, h1, h2⟩ => by subst h1; subst h; exact h2⟩
 | v :: l1, l2, xs => by
  simp only [List.cons_append, repHV_cons, repHV_append2 (l1 := l1)]
  constructor
  ·
   rintro ⟨y, ys, rfl, h1, a, b, rfl, h2, h3⟩
   exact ⟨y :: a, b, rfl, ⟨y, a, rfl, h1, h2⟩, h3⟩
  ·
   rintro ⟨y1, y2, rfl, ⟨y, ys, rfl, h1, h2⟩, h3⟩
   exact ⟨y, ys ++ y2, rfl, h1, ys, y2, rfl, h2, h3⟩

theorem hfn_closeArg {P : Program} {f : FuncId} {e : TypeId} {sz : Nat} {l pre post : List CV} {R : CV → Prop} (h : HPure P f (pre ++ .slc l :: post) R) :
  HFn P f (pre.map .c ++ .own 0 l.length :: post.map .c) 1 (fob [(0, .row e sz l)]) (fun r ob' => ∃ u, r = .c u ∧ ob' = none0 ∧ R u) := by
 refine ⟨h.1, fun w ρ X xs hS hA hX => ?_⟩
 obtain ⟨hd, ys, hρ0, hl, hcs, how⟩ := hS.objs 0 (.row e sz l) rfl
 let ρc : Env := fun _ => none
 have hown : ∀ b, ¬ Own ρc b := fun b ⟨_, _, h1, _⟩ => by cases h1
 have hst : Stay w (Owned ρ X) w (Owned ρc X) := Stay.same (fun b _ hb => hb.imp (fun x => x) (fun h => (hown b h).elim))
 have hSc : RepS w ρc X none0 := ⟨fun _ _ h => (by simp [none0] at h), fun _ _ => rfl, fun _ _ _ _ _ h => (by cases h), fun _ _ _ h => (by cases h)⟩
 have hA2 : RepHV w ρc (Owned ρc X) ((pre ++ .slc l :: post).map .c) xs := by
  rw [List.map_append, List.map_cons]
  rw [repHV_append2] at hA ⊢
  obtain ⟨y1, y2, rfl, h1, h2⟩ := hA
  refine ⟨y1, y2, rfl, repHV_c' hst h1, ?_⟩
  rw [repHV_cons] at h2 ⊢
  obtain ⟨y, zs, rfl, hy, hz⟩ := h2
  refine ⟨y, zs, rfl, ?_, repHV_c' hst hz⟩
  obtain ⟨hy1, hy2⟩ := hy
  have hag : Value.isAgg' y = false := by rw [← hy2]; rfl
  rw [cells_single hag] at hy1
  simp only [RepH, List.cons.injEq, and_true] at hy1
  obtain ⟨x, rfl, hx1, hx2⟩ := hy1
  obtain ⟨q1, q2⟩ := hx2 hd hρ0
  refine repV_single ?_ rfl hag
  simp only [RepC]
  rcases how.2 with ⟨rfl, hz0⟩ | ⟨g, cap, cur, rfl, hg0, hg, hcap, _⟩
  ·
   have := q2 (by simp [hlen, hz0])
   exact ⟨none, 0, ys, sz, by rw [this, hz0], hl.stay hst, hcs, by omega, fun _ => rfl, fun ad had => (by cases had)⟩
  ·
   have := q2 (by simp [hlen])
   refine ⟨some ⟨g, 0, none⟩, cap, ys, sz, by rw [this], hl.stay hst, hcs, hcap, fun hh => (by cases hh), fun ad had => ?_⟩
   cases had
   refine ⟨how.cells (g := g) rfl, fun _ => ?_⟩
   rintro (hx | hx)
   ·
    exact hS.xb 0 _ g hρ0 rfl hx
   ·
    exact hown _ hx
 refine (h.2 w ρc X xs hSc hA2 hX).mono ?_
 rintro ex w' ⟨r, ob', ρ', x, rfl, ⟨v, rfl, hR, rfl⟩, hg⟩
 have hρ' : ∀ i, ρ' i = none := fun i => hg.s.none i rfl
 refine ⟨_, _, ρ', x, rfl, ⟨v, rfl, rfl, hR⟩, hg.v, hg.s, by simp [HV.men], fun i o ho => (by simp [none0] at ho), ?_, fun i L _ hL => (by rw [hρ' i] at hL; cases hL)⟩
 exact ⟨fun b hb _ => hg.stay.block b hb (hown b), fun b hb => (hg.stay.own b hb).imp (fun h => (hown b h).elim) (fun x => x), hg.stay.size, hg.stay.os, hg.stay.tape, hg.stay.output⟩

theorem renL_c' {m : Nat → Nat} : ∀ (l : List CV), HV.renL m (l.map .c) = l.map .c
 | [] => rfl
 | v :: l => by simp only [List.map_cons, HV.renL, HV.ren, renL_c' l]
theorem renL_append {m : Nat → Nat} : ∀ (l1 l2 : List HV), HV.renL m (l1 ++ l2) = HV.renL m l1 ++ HV.renL m l2
 | [], l2 => rfl
 | v :: l1, l2 => by simp only [List.cons_append, HV.renL, renL_append l1 l2]

theorem call_close {P : Program} {av : List Nat} {f : FuncId} {ob : Ob} {nid id n : Nat} {K : HV → Ob → Prop} {e : TypeId} {sz : Nat} {l : List CV} {R : CV → Prop} (pre post : List CV) (h : HPure P f (pre ++ .slc l :: post) R) (hid : ob id = some (.row e sz l)) (hn : n = l.length)
  (hav : id ∉ av) (hfree : Free4 ob nid) (hK : ∀ u, R u → K (.c u) (gone ob id)) : HCall P av f (pre.map .c ++ .own id n :: post.map .c) ob nid K := by
 have h0 : sub [id] nid 0 = id := rfl
 subst hn
 have hloc : LocOk 1 (pre.map HV.c ++ HV.own 0 l.length :: post.map HV.c) (fob [(0, .row e sz l)]) := by
  have := locOk_take e sz l.length l
  refine ⟨this.all, this.none, ?_⟩
  rw [HV.menL_append]
  exact ⟨HV.menL_c, by simp only [HV.menL, HV.men]; exact ⟨by omega, HV.menL_c⟩⟩
 refine ⟨[id], _, _, _, hfn_closeArg h, hloc, ⟨by simp, by simpa using hav⟩, by simp only [renL_append, renL_c', HV.renL, HV.ren, h0], fun j o hj => ?_, fun r lob' hR _ => ?_⟩
 ·
  simp only [fob_at, fob_nil] at hj
  split at hj
  ·
   rename_i e; subst e; cases hj; simpa [HO.ren] using hid
  ·
   cases hj
 ·
  obtain ⟨u, rfl, rfl, hR⟩ := hR
  rw [obAfter_gone (lob := none0) (id := id) (by simp) rfl rfl (fun j hj0 hj => ?_) (fun j hj => rfl) hfree.all]
  ·
   exact hK u hR
  ·
   simp at hj; omega
end Go.Hl

namespace Go.Pl
open Go Go.Hl

end Go.Pl

namespace Go.Pl
open Go Go.Hl

abbrev Asc (l : List Word) : Prop := l.Pairwise (· < ·)
theorem bl_iff : ∀ (a b : Word), Op.bytesLess a b = true ↔ a < b
 | _, [] => by simp [Op.bytesLess]
 | [], _ :: _ => by simp [Op.bytesLess]
 | a :: x, b :: y => by
  simp only [Op.bytesLess, Bool.or_eq_true, decide_eq_true_eq, Bool.and_eq_true, beq_iff_eq, bl_iff x y, List.cons_lt_cons_iff]
theorem slt_iff {a b : Word} : slt a b = true ↔ a < b := bl_iff a b
theorem asc_ext {a b : List Word} (ha : Asc a) (hb : Asc b) (h : ∀ w, w ∈ a ↔ w ∈ b) : a = b := by
 have nd : ∀ {l : List Word}, Asc l → l.Nodup := fun hl => hl.imp (fun {x y} h e => by subst e; exact List.lt_irrefl _ h)
 refine List.Perm.eq_of_pairwise (le := (· < ·)) (fun x y _ _ h1 h2 => absurd (List.lt_trans h1 h2) (List.lt_irrefl _)) ha hb ((List.perm_ext_iff_of_nodup (nd ha) (nd hb)).2 h)
theorem lt_of_le_ne {a b : Word} (h : a ≤ b) (hne : a ≠ b) : a < b := by
 apply Classical.byContradiction
 intro h2
 exact hne (List.le_antisymm h (List.not_lt.1 h2))
theorem mem_tw {α : Type} {p : α → Bool} : ∀ {l : List α} {x : α}, x ∈ l.takeWhile p → p x = true
 | [], x, h => by simp at h
 | a :: l, x, h => by
  by_cases ha : p a = true
  ·
   rw [List.takeWhile_cons_of_pos ha, List.mem_cons] at h
   rcases h with rfl | h
   ·
    exact ha
   ·
    exact mem_tw h
  ·
   rw [List.takeWhile_cons_of_neg ha] at h; simp at h
theorem mem_addW {l : List Word} {w v : Word} : v ∈ addW l w ↔ v ∈ l ∨ v = w := by
 unfold addW
 split
 ·
  rename_i h
  have : w ∈ l := by simpa using h
  constructor
  ·
   exact .inl
  ·
   rintro (h | rfl)
   ·
    exact h
   ·
    exact this
 ·
  have : l = l.takeWhile (slt · w) ++ l.dropWhile (slt · w) := (List.takeWhile_append_dropWhile).symm
  constructor
  ·
   intro h
   simp only [List.mem_append, List.mem_cons] at h
   rcases h with h | rfl | h
   ·
    exact .inl (by rw [this]; exact List.mem_append_left _ h)
   ·
    exact .inr rfl
   ·
    exact .inl (by rw [this]; exact List.mem_append_right _ h)
  ·
   rintro (h | rfl)
   ·
    rw [this] at h
    simp only [List.mem_append, List.mem_cons]
    rcases List.mem_append.1 h with h | h
    ·
     exact .inl h
    ·
     exact .inr (.inr h)
   ·
    simp
theorem asc_addW {l : List Word} (h : Asc l) (w : Word) : Asc (addW l w) := by
 unfold addW
 split
 ·
  exact h
 ·
  rename_i hc
  have hw : w ∉ l := by simpa using hc
  have e : l = l.takeWhile (slt · w) ++ l.dropWhile (slt · w) := (List.takeWhile_append_dropWhile).symm
  have h' := h
  rw [e] at h'
  obtain ⟨p1, p2, p3⟩ := List.pairwise_append.1 h'
  have t1 : ∀ x ∈ l.takeWhile (slt · w), x < w := fun x hx => slt_iff.1 (mem_tw (p := (slt · w)) hx)
  have t2 : ∀ y ∈ l.dropWhile (slt · w), w < y := by
   cases hd : l.dropWhile (slt · w) with
   | nil => simp
   | cons y r =>
    rw [hd] at p2 e
    have hy : slt y w = false := by
     have := List.head_dropWhile_not (slt · w) (l := l) (by rw [hd]; simp)
     simpa [hd] using this
    have hyl : y ∈ l := by rw [e]; simp
    have hwy : w < y := by
     have h1 : ¬ y < w := fun h => by rw [slt_iff.2 h] at hy; cases hy
     exact lt_of_le_ne (List.not_lt.1 h1) (fun h => hw (h ▸ hyl))
    intro z hz
    rcases List.mem_cons.1 hz with rfl | hz
    ·
     exact hwy
    ·
     exact List.lt_trans hwy ((List.pairwise_cons.1 p2).1 z hz)
  refine List.pairwise_append.2 ⟨p1, List.pairwise_cons.2 ⟨t2, p2⟩, fun x hx y hy => ?_⟩
  rcases List.mem_cons.1 hy with rfl | hy
  ·
   exact t1 x hx
  ·
   exact List.lt_trans (t1 x hx) (t2 y hy)

section
variable {s r o : Dig} {t : Int} {l : List Rb}
end
end Go.Pl

namespace Go.Pl
open Go Go.Hl

section
variable {s r o : Dig} {t : Int} {l l' : List Rb}
end
theorem nodup_len : ∀ (s l : List Word), l.Nodup → (∀ x ∈ l, x ∈ s) → l.length ≤ s.length
 | [], l, _, h => by
  cases l with
  | nil => exact Nat.le_refl _
  | cons x l => exact absurd (h x (by simp)) (by simp)
 | a :: s, l, hn, h => by
  by_cases ha : a ∈ l
  ·
   have h1 := nodup_len s (l.erase a) (hn.erase a) (fun x hx => by
    obtain ⟨hne, hx⟩ := (List.Nodup.mem_erase_iff hn).1 hx
    exact (List.mem_cons.1 (h x hx)).resolve_left hne)
   rw [List.length_erase_of_mem ha] at h1
   simp only [List.length_cons]; omega
  ·
   have h1 := nodup_len s l hn (fun x hx => (List.mem_cons.1 (h x hx)).resolve_left (fun e => ha (e ▸ hx)))
   simp only [List.length_cons]; omega
section
variable {s r o d : Dig} {t : Int} {m : List Rb} {w : Word}
end
end Go.Pl

namespace Go.Pl
open Go Go.Hl

abbrev Half := {l : List UInt8 // l.length = 16}
def hf (h : Half) : CV := .agg (h.1.map u8)
theorem hf_cells (h : Half) : (hf h).cells = 16 := by rw [← h.2]; exact us_cells h.1
theorem hf_denil (h : Half) : (hf h).denil = hf h := by simp only [hf, CV.denil]; rw [denilL_map (f := u8) (fun _ => rfl)]
theorem hf_isAgg (h : Half) : (hf h).isAgg = true := rfl
theorem hf_getAt (h : Half) : CV.getAt 0 16 true (hf h) = some (hf h) := by
 have := hf_cells h
 simp only [hf, CV.cells] at this
 simp only [hf, CV.getAt, this, and_self, if_true]
theorem hf_setAt (h : Half) (x : HV) : CV.setAt 0 16 x (hf h) = some x := by
 have := hf_cells h
 simp only [hf, CV.cells] at this
 simp only [hf, CV.setAt, this, and_self, if_true]
def zh : Half := ⟨List.replicate 16 0, by simp⟩
def zhf : CV := hf zh
theorem zhf_eq : zhf = hf zh := rfl
theorem denilL_dg (l : List Dig) : CV.denilL (l.map dg) = l.map dg := denilL_map dg_denil l
theorem dg_us (d : Dig) : dg d = .agg (d.1.map u8) := rfl
theorem hf_us (h : Half) : hf h = .agg (h.1.map u8) := rfl
theorem cells_u8 {l : List UInt8} : (∀ v ∈ l.map u8, v.cells = 1) ↔ True := by simp [u8, CV.cells]

structure Pk where
 h : Int
 r : Half
def Pk.cv (x : Pk) : CV := .agg [.int .i64 x.h, hf x.r]
theorem Pk.cells (x : Pk) : x.cv.cells = 17 := by simp [Pk.cv, CV.cells, CV.cellsL, dg_cells, hf_cells]
theorem Pk.denil (x : Pk) : x.cv.denil = x.cv := by simp only [Pk.cv, CV.denil, CV.denilL, dg_denil, hf_denil, denilL_str, denilL_dg]
theorem denilL_Pk (l : List Pk) : CV.denilL (l.map Pk.cv) = l.map Pk.cv := denilL_map Pk.denil l
theorem Pk.isAgg (x : Pk) : x.cv.isAgg = true := rfl
theorem Pk.getAll (x : Pk) : CV.getAt 0 17 true x.cv = some x.cv := by
 have := Pk.cells x
 simp only [Pk.cv, CV.cells] at this
 simp only [Pk.cv, CV.getAt, this, and_self, if_true]
theorem Pk.setAll (x : Pk) (y : HV) : CV.setAt 0 17 y x.cv = some y := by
 have := Pk.cells x
 simp only [Pk.cv, CV.cells] at this
 simp only [Pk.cv, CV.setAt, this, and_self, if_true]
theorem Pk.fold (h : Int) (r : Half) : CV.agg [.int .i64 h, hf r] = Pk.cv ⟨h, r⟩ := rfl
theorem Pk.get_h (x : Pk) : CV.getAt 0 1 false x.cv = some (.int .i64 x.h) := by simp [Pk.cv, CV.getAt, CV.getAtL, CV.cells, CV.cellsL, dg_cells, hf_cells]
theorem Pk.set_h (x : Pk) (y : HV) : CV.setAt 0 1 y x.cv = some (.agg [y, .c (hf x.r)]) := by simp [Pk.cv, CV.setAt, CV.setAtL, CV.cells, CV.cellsL, dg_cells, hf_cells]
theorem Pk.get_r (x : Pk) : CV.getAt 1 16 true x.cv = some (hf x.r) := by simp [Pk.cv, CV.getAt, CV.getAtL, CV.cells, CV.cellsL, dg_cells, hf_cells, hf_getAt]
theorem Pk.set_r (x : Pk) (y : HV) : CV.setAt 1 16 y x.cv = some (.agg [.c (.int .i64 x.h), y]) := by simp [Pk.cv, CV.setAt, CV.setAtL, CV.cells, CV.cellsL, dg_cells, hf_cells, hf_setAt]

structure Ky where
 p : Pk
 o : Word
 rs : List Word
 fr : Int
 un : Int
def Ky.cv (x : Ky) : CV := .agg [x.p.cv, .str x.o, .slc (x.rs.map .str), .int .i64 x.fr, .int .i64 x.un]
theorem Ky.cells (x : Ky) : x.cv.cells = 21 := by simp [Ky.cv, CV.cells, CV.cellsL, dg_cells, hf_cells, Pk.cells]
theorem Ky.denil (x : Ky) : x.cv.denil = x.cv := by simp only [Ky.cv, CV.denil, CV.denilL, dg_denil, hf_denil, denilL_str, denilL_dg, Pk.denil]
theorem denilL_Ky (l : List Ky) : CV.denilL (l.map Ky.cv) = l.map Ky.cv := denilL_map Ky.denil l
theorem Ky.isAgg (x : Ky) : x.cv.isAgg = true := rfl
theorem Ky.getAll (x : Ky) : CV.getAt 0 21 true x.cv = some x.cv := by
 have := Ky.cells x
 simp only [Ky.cv, CV.cells] at this
 simp only [Ky.cv, CV.getAt, this, and_self, if_true]
theorem Ky.setAll (x : Ky) (y : HV) : CV.setAt 0 21 y x.cv = some y := by
 have := Ky.cells x
 simp only [Ky.cv, CV.cells] at this
 simp only [Ky.cv, CV.setAt, this, and_self, if_true]
theorem Ky.fold (p : Pk) (o : Word) (rs : List Word) (fr : Int) (un : Int) : CV.agg [p.cv, .str o, .slc (rs.map .str), .int .i64 fr, .int .i64 un] = Ky.cv ⟨p, o, rs, fr, un⟩ := rfl
theorem Ky.get_p (x : Ky) : CV.getAt 0 17 true x.cv = some (x.p.cv) := by simp [Ky.cv, CV.getAt, CV.getAtL, CV.cells, CV.cellsL, dg_cells, hf_cells, Pk.cells, Pk.getAll]
theorem Ky.set_p (x : Ky) (y : HV) : CV.setAt 0 17 y x.cv = some (.agg [y, .c (.str x.o), .c (.slc (x.rs.map .str)), .c (.int .i64 x.fr), .c (.int .i64 x.un)]) := by simp [Ky.cv, CV.setAt, CV.setAtL, CV.cells, CV.cellsL, dg_cells, hf_cells, Pk.cells, Pk.setAll]
theorem Ky.get_o (x : Ky) : CV.getAt 17 1 false x.cv = some (.str x.o) := by simp [Ky.cv, CV.getAt, CV.getAtL, CV.cells, CV.cellsL, dg_cells, hf_cells, Pk.cells]
theorem Ky.set_o (x : Ky) (y : HV) : CV.setAt 17 1 y x.cv = some (.agg [.c (x.p.cv), y, .c (.slc (x.rs.map .str)), .c (.int .i64 x.fr), .c (.int .i64 x.un)]) := by simp [Ky.cv, CV.setAt, CV.setAtL, CV.cells, CV.cellsL, dg_cells, hf_cells, Pk.cells]
theorem Ky.get_rs (x : Ky) : CV.getAt 18 1 false x.cv = some (.slc (x.rs.map .str)) := by simp [Ky.cv, CV.getAt, CV.getAtL, CV.cells, CV.cellsL, dg_cells, hf_cells, Pk.cells]
theorem Ky.set_rs (x : Ky) (y : HV) : CV.setAt 18 1 y x.cv = some (.agg [.c (x.p.cv), .c (.str x.o), y, .c (.int .i64 x.fr), .c (.int .i64 x.un)]) := by simp [Ky.cv, CV.setAt, CV.setAtL, CV.cells, CV.cellsL, dg_cells, hf_cells, Pk.cells]
theorem Ky.get_fr (x : Ky) : CV.getAt 19 1 false x.cv = some (.int .i64 x.fr) := by simp [Ky.cv, CV.getAt, CV.getAtL, CV.cells, CV.cellsL, dg_cells, hf_cells, Pk.cells]
theorem Ky.set_fr (x : Ky) (y : HV) : CV.setAt 19 1 y x.cv = some (.agg [.c (x.p.cv), .c (.str x.o), .c (.slc (x.rs.map .str)), y, .c (.int .i64 x.un)]) := by simp [Ky.cv, CV.setAt, CV.setAtL, CV.cells, CV.cellsL, dg_cells, hf_cells, Pk.cells]
theorem Ky.get_un (x : Ky) : CV.getAt 20 1 false x.cv = some (.int .i64 x.un) := by simp [Ky.cv, CV.getAt, CV.getAtL, CV.cells, CV.cellsL, dg_cells, hf_cells, Pk.cells]
theorem Ky.set_un (x : Ky) (y : HV) : CV.setAt 20 1 y x.cv = some (.agg [.c (x.p.cv), .c (.str x.o), .c (.slc (x.rs.map .str)), .c (.int .i64 x.fr), y]) := by simp [Ky.cv, CV.setAt, CV.setAtL, CV.cells, CV.cellsL, dg_cells, hf_cells, Pk.cells]

structure Qt where
 r : Word
 n : Int
def Qt.cv (x : Qt) : CV := .agg [.str x.r, .int .i64 x.n]
theorem Qt.cells (x : Qt) : x.cv.cells = 2 := by simp [Qt.cv, CV.cells, CV.cellsL, dg_cells, hf_cells]
theorem Qt.denil (x : Qt) : x.cv.denil = x.cv := by simp only [Qt.cv, CV.denil, CV.denilL, dg_denil, hf_denil, denilL_str, denilL_dg]
theorem denilL_Qt (l : List Qt) : CV.denilL (l.map Qt.cv) = l.map Qt.cv := denilL_map Qt.denil l
theorem Qt.isAgg (x : Qt) : x.cv.isAgg = true := rfl
theorem Qt.getAll (x : Qt) : CV.getAt 0 2 true x.cv = some x.cv := by
 have := Qt.cells x
 simp only [Qt.cv, CV.cells] at this
 simp only [Qt.cv, CV.getAt, this, and_self, if_true]
theorem Qt.setAll (x : Qt) (y : HV) : CV.setAt 0 2 y x.cv = some y := by
 have := Qt.cells x
 simp only [Qt.cv, CV.cells] at this
 simp only [Qt.cv, CV.setAt, this, and_self, if_true]
theorem Qt.fold (r : Word) (n : Int) : CV.agg [.str r, .int .i64 n] = Qt.cv ⟨r, n⟩ := rfl
theorem Qt.get_r (x : Qt) : CV.getAt 0 1 false x.cv = some (.str x.r) := by simp [Qt.cv, CV.getAt, CV.getAtL, CV.cells, CV.cellsL, dg_cells, hf_cells]
theorem Qt.set_r (x : Qt) (y : HV) : CV.setAt 0 1 y x.cv = some (.agg [y, .c (.int .i64 x.n)]) := by simp [Qt.cv, CV.setAt, CV.setAtL, CV.cells, CV.cellsL, dg_cells, hf_cells]
theorem Qt.get_n (x : Qt) : CV.getAt 1 1 false x.cv = some (.int .i64 x.n) := by simp [Qt.cv, CV.getAt, CV.getAtL, CV.cells, CV.cellsL, dg_cells, hf_cells]
theorem Qt.set_n (x : Qt) (y : HV) : CV.setAt 1 1 y x.cv = some (.agg [.c (.str x.r), y]) := by simp [Qt.cv, CV.setAt, CV.setAtL, CV.cells, CV.cellsL, dg_cells, hf_cells]

structure Rv where
 k : Dig
 t : Int
def Rv.cv (x : Rv) : CV := .agg [dg x.k, .int .i64 x.t]
theorem Rv.cells (x : Rv) : x.cv.cells = 33 := by simp [Rv.cv, CV.cells, CV.cellsL, dg_cells, hf_cells]
theorem Rv.denil (x : Rv) : x.cv.denil = x.cv := by simp only [Rv.cv, CV.denil, CV.denilL, dg_denil, hf_denil, denilL_str, denilL_dg]
theorem denilL_Rv (l : List Rv) : CV.denilL (l.map Rv.cv) = l.map Rv.cv := denilL_map Rv.denil l
theorem Rv.isAgg (x : Rv) : x.cv.isAgg = true := rfl
theorem Rv.getAll (x : Rv) : CV.getAt 0 33 true x.cv = some x.cv := by
 have := Rv.cells x
 simp only [Rv.cv, CV.cells] at this
 simp only [Rv.cv, CV.getAt, this, and_self, if_true]
theorem Rv.setAll (x : Rv) (y : HV) : CV.setAt 0 33 y x.cv = some y := by
 have := Rv.cells x
 simp only [Rv.cv, CV.cells] at this
 simp only [Rv.cv, CV.setAt, this, and_self, if_true]
theorem Rv.fold (k : Dig) (t : Int) : CV.agg [dg k, .int .i64 t] = Rv.cv ⟨k, t⟩ := rfl
theorem Rv.get_k (x : Rv) : CV.getAt 0 32 true x.cv = some (dg x.k) := by simp [Rv.cv, CV.getAt, CV.getAtL, CV.cells, CV.cellsL, dg_cells, hf_cells, dg_getAt]
theorem Rv.set_k (x : Rv) (y : HV) : CV.setAt 0 32 y x.cv = some (.agg [y, .c (.int .i64 x.t)]) := by simp [Rv.cv, CV.setAt, CV.setAtL, CV.cells, CV.cellsL, dg_cells, hf_cells, dg_setAt]
theorem Rv.get_t (x : Rv) : CV.getAt 32 1 false x.cv = some (.int .i64 x.t) := by simp [Rv.cv, CV.getAt, CV.getAtL, CV.cells, CV.cellsL, dg_cells, hf_cells]
theorem Rv.set_t (x : Rv) (y : HV) : CV.setAt 32 1 y x.cv = some (.agg [.c (dg x.k), y]) := by simp [Rv.cv, CV.setAt, CV.setAtL, CV.cells, CV.cellsL, dg_cells, hf_cells]

structure Rt where
 v : Int
 e : Int
 q : List Qt
 k : List Ky
 x : List Rv
def Rt.cv (x : Rt) : CV := .agg [.int .i64 x.v, .int .i64 x.e, .slc (x.q.map Qt.cv), .slc (x.k.map Ky.cv), .slc (x.x.map Rv.cv)]
theorem Rt.cells (x : Rt) : x.cv.cells = 5 := by simp [Rt.cv, CV.cells, CV.cellsL, dg_cells, hf_cells]
theorem Rt.denil (x : Rt) : x.cv.denil = x.cv := by simp only [Rt.cv, CV.denil, CV.denilL, dg_denil, hf_denil, denilL_str, denilL_dg, denilL_Qt, denilL_Ky, denilL_Rv]
theorem denilL_Rt (l : List Rt) : CV.denilL (l.map Rt.cv) = l.map Rt.cv := denilL_map Rt.denil l
theorem Rt.isAgg (x : Rt) : x.cv.isAgg = true := rfl
theorem Rt.getAll (x : Rt) : CV.getAt 0 5 true x.cv = some x.cv := by
 have := Rt.cells x
 simp only [Rt.cv, CV.cells] at this
 simp only [Rt.cv, CV.getAt, this, and_self, if_true]
theorem Rt.setAll (x : Rt) (y : HV) : CV.setAt 0 5 y x.cv = some y := by
 have := Rt.cells x
 simp only [Rt.cv, CV.cells] at this
 simp only [Rt.cv, CV.setAt, this, and_self, if_true]
theorem Rt.fold (v : Int) (e : Int) (q : List Qt) (k : List Ky) (x : List Rv) : CV.agg [.int .i64 v, .int .i64 e, .slc (q.map Qt.cv), .slc (k.map Ky.cv), .slc (x.map Rv.cv)] = Rt.cv ⟨v, e, q, k, x⟩ := rfl
theorem Rt.get_v (x : Rt) : CV.getAt 0 1 false x.cv = some (.int .i64 x.v) := by simp [Rt.cv, CV.getAt, CV.getAtL, CV.cells, CV.cellsL, dg_cells, hf_cells]
theorem Rt.set_v (x : Rt) (y : HV) : CV.setAt 0 1 y x.cv = some (.agg [y, .c (.int .i64 x.e), .c (.slc (x.q.map Qt.cv)), .c (.slc (x.k.map Ky.cv)), .c (.slc (x.x.map Rv.cv))]) := by simp [Rt.cv, CV.setAt, CV.setAtL, CV.cells, CV.cellsL, dg_cells, hf_cells]
theorem Rt.get_e (x : Rt) : CV.getAt 1 1 false x.cv = some (.int .i64 x.e) := by simp [Rt.cv, CV.getAt, CV.getAtL, CV.cells, CV.cellsL, dg_cells, hf_cells]
theorem Rt.set_e (x : Rt) (y : HV) : CV.setAt 1 1 y x.cv = some (.agg [.c (.int .i64 x.v), y, .c (.slc (x.q.map Qt.cv)), .c (.slc (x.k.map Ky.cv)), .c (.slc (x.x.map Rv.cv))]) := by simp [Rt.cv, CV.setAt, CV.setAtL, CV.cells, CV.cellsL, dg_cells, hf_cells]
theorem Rt.get_q (x : Rt) : CV.getAt 2 1 false x.cv = some (.slc (x.q.map Qt.cv)) := by simp [Rt.cv, CV.getAt, CV.getAtL, CV.cells, CV.cellsL, dg_cells, hf_cells]
theorem Rt.set_q (x : Rt) (y : HV) : CV.setAt 2 1 y x.cv = some (.agg [.c (.int .i64 x.v), .c (.int .i64 x.e), y, .c (.slc (x.k.map Ky.cv)), .c (.slc (x.x.map Rv.cv))]) := by simp [Rt.cv, CV.setAt, CV.setAtL, CV.cells, CV.cellsL, dg_cells, hf_cells]
theorem Rt.get_k (x : Rt) : CV.getAt 3 1 false x.cv = some (.slc (x.k.map Ky.cv)) := by simp [Rt.cv, CV.getAt, CV.getAtL, CV.cells, CV.cellsL, dg_cells, hf_cells]
theorem Rt.set_k (x : Rt) (y : HV) : CV.setAt 3 1 y x.cv = some (.agg [.c (.int .i64 x.v), .c (.int .i64 x.e), .c (.slc (x.q.map Qt.cv)), y, .c (.slc (x.x.map Rv.cv))]) := by simp [Rt.cv, CV.setAt, CV.setAtL, CV.cells, CV.cellsL, dg_cells, hf_cells]
theorem Rt.get_x (x : Rt) : CV.getAt 4 1 false x.cv = some (.slc (x.x.map Rv.cv)) := by simp [Rt.cv, CV.getAt, CV.getAtL, CV.cells, CV.cellsL, dg_cells, hf_cells]
theorem Rt.set_x (x : Rt) (y : HV) : CV.setAt 4 1 y x.cv = some (.agg [.c (.int .i64 x.v), .c (.int .i64 x.e), .c (.slc (x.q.map Qt.cv)), .c (.slc (x.k.map Ky.cv)), y]) := by simp [Rt.cv, CV.setAt, CV.setAtL, CV.cells, CV.cellsL, dg_cells, hf_cells]

def maxN : Int := 1099511627776
def al (c : UInt8) : Bool := (decide (97 ≤ c) && decide (c ≤ 122)) || (decide (48 ≤ c) && decide (c ≤ 57))
def nc (c : UInt8) : Bool := al c || (c == 46 || (c == 95 || c == 45))
def nameB : Word → Bool
 | [] => false
 | c :: r => decide ((c :: r).length ≤ 64) && (al c && r.all nc)
def namesB (l : List Word) : Bool := l.all nameB && ascB l
def inN (t : Int) : Bool := decide (0 ≤ t) && decide (t ≤ maxN)
def dlt (a b : Dig) : Bool := slt a.1 b.1
def ascD : List Dig → Bool
 | a :: b :: l => dlt a b && ascD (b :: l)
 | _ => true
def quotaB (q : Qt) : Bool := nameB q.r && (decide (1 ≤ q.n) && decide (q.n ≤ 32))
def quotasB (l : List Qt) : Bool := l.all quotaB && (ascB (l.map Qt.r) && decide (l.length ≤ 12))
def pid (p : Pk) : Dig := sha (keyIn (UInt8.ofNat (p.h.emod 256).toNat) p.r.1)
def kid (k : Ky) : Dig := pid k.p
def keyB (k : Ky) : Bool := (decide (0 ≤ k.p.h) && decide (k.p.h ≤ 6)) && (nameB k.o && ((decide (1 ≤ k.rs.length) && decide (k.rs.length ≤ 12)) && (namesB k.rs && (inN k.fr && (inN k.un && decide (k.fr < k.un))))))
def keysB (l : List Ky) : Bool := l.all keyB && (ascD (l.map kid) && decide (l.length ≤ 32))
def revsB (l : List Rv) : Bool := l.all (fun x => inN x.t) && (ascD (l.map Rv.k) && decide (l.length ≤ 64))
def need (l : List Qt) (role : Word) : Int := match l.find? (fun q => q.r == role) with | some q => q.n | none => 0
def setW (l : List Word) : List Word := l.foldl addW []
def ownF (l : List Ky) (role : Word) (p : Ky → Bool) : List Word := (l.filter fun k => k.rs.contains role && p k).map Ky.o
def ownB (l : List Ky) (role : Word) (p : Ky → Bool) : List Word := setW (ownF l role p)
def wRoot : Word := [114, 111, 111, 116]
def validR (r : Rt) : Bool :=
 (decide (1 ≤ r.v) && decide (r.v ≤ maxN)) && (inN r.e && (quotasB r.q && (keysB r.k && (revsB r.x && (decide (0 < need r.q wRoot) && decide (need r.q wRoot ≤ (ownB r.k wRoot fun _ => true).length))))))
def revoked (l : List Rv) (d : Dig) : Option Int := (l.find? fun x => x.k == d).map Rv.t
def findK (l : List Ky) (d : Dig) : Option Ky := l.find? fun k => kid k == d
def goneB (l : List Rv) (d : Dig) (t : Int) : Bool := match revoked l d with | some a => decide (a ≤ t) | none => false
def liveB (r : Rt) (k : Ky) (t : Int) : Bool := decide (k.fr ≤ t) && (decide (t < k.un) && (decide (t < r.e) && !goneB r.x (kid k) t))
def vouched (r : Rt) (role : Word) (l : List Dig) (t : Int) : List Word := if validR r then ownB r.k role fun k => l.contains (kid k) && liveB r k t else []
def needV (r : Rt) (role : Word) : Int := if validR r then need r.q role else 0
def enough (r : Rt) (role : Word) (l : List Dig) (t : Int) : Bool := decide (0 < needV r role) && decide (needV r role ≤ (vouched r role l t).length)
end Go.Pl
