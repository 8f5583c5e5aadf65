/- Reports: more on how they lie; the plain laws of the functions that choose among them. By an AI agent. -/
import Derived.Test.YtbdgmfbhiihcfaaGreatPl18
set_option linter.unusedSimpArgs false
set_option linter.unusedVariables false
set_option linter.defProp false
namespace Go.Pl
open Go Go.Hl

abbrev W32 := BitVec 32
def w32 (x : W32) : CV := .int .u32 (x.toNat : Int)
def ws (l : List W32) : CV := .agg (l.map w32)
def u8 (x : UInt8) : CV := .int .u8 (x.toNat : Int)
def us (l : List UInt8) : CV := .agg (l.map u8)

def itN {α : Type} (f : Nat → α → α) : Nat → α → α
  | 0, s => s
  | n + 1, s => f n (itN f n s)
theorem itN_succ {α : Type} (f : Nat → α → α) (n : Nat) (s : α) : itN f (n + 1) s = f n (itN f n s) := rfl

def gw (l : List W32) (i : Nat) : W32 := l.getD i 0
def gb (l : List UInt8) (i : Nat) : UInt8 := l.getD i 0
def rotr (x : W32) (n : Nat) : W32 := (x >>> n) ||| (x <<< (32 - n))
def bw (x : UInt8) : W32 := BitVec.ofNat 32 x.toNat
def be (b : List UInt8) (i : Nat) : W32 := ((bw (gb b (4 * i)) <<< 24 ||| bw (gb b (4 * i + 1)) <<< 16) ||| bw (gb b (4 * i + 2)) <<< 8) ||| bw (gb b (4 * i + 3))
def sg0 (x : W32) : W32 := (rotr x 7 ^^^ rotr x 18) ^^^ (x >>> 3)
def sg1 (x : W32) : W32 := (rotr x 17 ^^^ rotr x 19) ^^^ (x >>> 10)
def wA (b : List UInt8) (n : Nat) : List W32 := itN (fun i w => w.set i (be b i)) n (List.replicate 64 0)
def wB (w : List W32) (n : Nat) : List W32 := itN (fun i w => w.set (i + 16) (((gw w i + sg0 (gw w (i + 1))) + gw w (i + 9)) + sg1 (gw w (i + 14)))) n w
def wsched (b : List UInt8) : List W32 := wB (wA b 16) 48

def K256 : List W32 := [
  0x428a2f98, 0x71374491, 0xb5c0fbcf, 0xe9b5dba5, 0x3956c25b, 0x59f111f1, 0x923f82a4, 0xab1c5ed5,
  0xd807aa98, 0x12835b01, 0x243185be, 0x550c7dc3, 0x72be5d74, 0x80deb1fe, 0x9bdc06a7, 0xc19bf174,
  0xe49b69c1, 0xefbe4786, 0x0fc19dc6, 0x240ca1cc, 0x2de92c6f, 0x4a7484aa, 0x5cb0a9dc, 0x76f988da,
  0x983e5152, 0xa831c66d, 0xb00327c8, 0xbf597fc7, 0xc6e00bf3, 0xd5a79147, 0x06ca6351, 0x14292967,
  0x27b70a85, 0x2e1b2138, 0x4d2c6dfc, 0x53380d13, 0x650a7354, 0x766a0abb, 0x81c2c92e, 0x92722c85,
  0xa2bfe8a1, 0xa81a664b, 0xc24b8b70, 0xc76c51a3, 0xd192e819, 0xd6990624, 0xf40e3585, 0x106aa070,
  0x19a4c116, 0x1e376c08, 0x2748774c, 0x34b0bcb5, 0x391c0cb3, 0x4ed8aa4a, 0x5b9cca4f, 0x682e6ff3,
  0x748f82ee, 0x78a5636f, 0x84c87814, 0x8cc70208, 0x90befffa, 0xa4506ceb, 0xbef9a3f7, 0xc67178f2]

structure St where
  (a b c d e f g h : W32)
def St.l (s : St) : List W32 := [s.a, s.b, s.c, s.d, s.e, s.f, s.g, s.h]
def St0 : St := ⟨0x6a09e667, 0xbb67ae85, 0x3c6ef372, 0xa54ff53a, 0x510e527f, 0x9b05688c, 0x1f83d9ab, 0x5be0cd19⟩
def t1 (s : St) (k w : W32) : W32 := (((s.h + ((rotr s.e 6 ^^^ rotr s.e 11) ^^^ rotr s.e 25)) + ((s.e &&& s.f) ^^^ (~~~ s.e &&& s.g))) + k) + w
def t2 (s : St) : W32 := ((rotr s.a 2 ^^^ rotr s.a 13) ^^^ rotr s.a 22) + (((s.a &&& s.b) ^^^ (s.a &&& s.c)) ^^^ (s.b &&& s.c))
def rnd (w : List W32) (i : Nat) (s : St) : St := ⟨t1 s (gw K256 i) (gw w i) + t2 s, s.a, s.b, s.c, s.d + t1 s (gw K256 i) (gw w i), s.e, s.f, s.g⟩
def addSt (s r : St) : St := ⟨s.a + r.a, s.b + r.b, s.c + r.c, s.d + r.d, s.e + r.e, s.f + r.f, s.g + r.g, s.h + r.h⟩
/-- One block of 64 bytes. -/
def comp (s : St) (p : List UInt8) : St := addSt s (itN (rnd (wsched p)) 64 s)
/-- The first n blocks. -/
def blk (p : List UInt8) (n : Nat) (s : St) : St := itN (fun i s => comp s ((p.drop (64 * i)).take 64)) n s
def zs (n : Nat) : Nat := (119 - n % 64) % 64
def len8 (n : Nat) : List UInt8 := (List.range 8).map fun i => UInt8.ofNat (8 * n / 2 ^ (8 * (7 - i)))
def pad (b : List UInt8) : List UInt8 := (b ++ [0x80]) ++ List.replicate (zs b.length) 0 ++ len8 b.length
def outB (s : St) : List UInt8 := (List.range 32).map fun i => UInt8.ofNat ((gw s.l (i / 4)) >>> (24 - 8 * (i % 4))).toNat
def sha (b : List UInt8) : Dig := ⟨outB (blk (pad b) ((pad b).length / 64) St0), by simp [outB]⟩

/-- The key's name. -/
def keyIn (h : UInt8) (r : List UInt8) : List UInt8 := [7, h] ++ r

/-! ## Words in the walk -/
theorem wrap32 {n : Nat} (h : n < 4294967296) : IntKind.u32.wrap (n : Int) = (n : Int) := IntWalk.u32_in _ (by omega)
theorem ofInt32 (x : W32) : BitVec.ofInt IntKind.u32.bits (x.toNat : Int) = x := by
  show BitVec.ofInt 32 (x.toNat : Int) = x
  simp
theorem wlt (x : W32) : x.toNat < 4294967296 := x.isLt
theorem w_in (x : W32) : IntKind.u32.wrap (x.toNat : Int) = (x.toNat : Int) := wrap32 (wlt x)
theorem w_add (x y : W32) : IntKind.u32.wrap ((x.toNat : Int) + (y.toNat : Int)) = ((x + y).toNat : Int) := by
  rw [IntKind.wrap_u32, BitVec.toNat_add]
  omega
theorem w_and (x y : W32) : IntKind.u32.wrap ((BitVec.ofInt IntKind.u32.bits (x.toNat : Int) &&& BitVec.ofInt IntKind.u32.bits (y.toNat : Int)).toNat : Int) = ((x &&& y).toNat : Int) := by
  rw [ofInt32, ofInt32]; exact w_in _
theorem w_or (x y : W32) : IntKind.u32.wrap ((BitVec.ofInt IntKind.u32.bits (x.toNat : Int) ||| BitVec.ofInt IntKind.u32.bits (y.toNat : Int)).toNat : Int) = ((x ||| y).toNat : Int) := by
  rw [ofInt32, ofInt32]; exact w_in _
theorem w_xor (x y : W32) : IntKind.u32.wrap ((BitVec.ofInt IntKind.u32.bits (x.toNat : Int) ^^^ BitVec.ofInt IntKind.u32.bits (y.toNat : Int)).toNat : Int) = ((x ^^^ y).toNat : Int) := by
  rw [ofInt32, ofInt32]; exact w_in _
theorem w_not (x : W32) : IntKind.u32.wrap ((BitVec.ofInt IntKind.u32.bits (if IntKind.u32.signed then -1 else IntKind.u32.max) ^^^ BitVec.ofInt IntKind.u32.bits (x.toNat : Int)).toNat : Int) = ((~~~ x).toNat : Int) := by
  have h : BitVec.ofInt 32 4294967295 ^^^ BitVec.ofInt 32 (x.toNat : Int) = ~~~ x := by
    have h1 : BitVec.ofInt 32 (x.toNat : Int) = x := ofInt32 x
    have h2 : (BitVec.ofInt 32 4294967295 : BitVec 32) = BitVec.allOnes 32 := by decide
    rw [h1, h2]; exact BitVec.allOnes_xor
  show IntKind.u32.wrap ((BitVec.ofInt 32 4294967295 ^^^ BitVec.ofInt 32 (x.toNat : Int)).toNat : Int) = _
  rw [h]
  exact w_in _
theorem w_shr (x : W32) (n : Nat) (h : n ≤ 32) : Int.fdiv (x.toNat : Int) (2 ^ (min n IntKind.u32.bits)) = ((x >>> n).toNat : Int) := by
  have : min n IntKind.u32.bits = n := Nat.min_eq_left h
  rw [this, BitVec.toNat_ushiftRight, Nat.shiftRight_eq_div_pow, Int.fdiv_eq_ediv_of_nonneg _ (Int.pow_nonneg (by omega))]
  norm_cast
theorem w_shl (x : W32) (n : Nat) (h : n ≤ 32) : IntKind.u32.wrap ((x.toNat : Int) * 2 ^ (min n IntKind.u32.bits)) = ((x <<< n).toNat : Int) := by
  have : min n IntKind.u32.bits = n := Nat.min_eq_left h
  rw [this, BitVec.toNat_shiftLeft, Nat.shiftLeft_eq, IntKind.wrap_u32, show (2 : Nat) ^ 32 = 4294967296 from rfl]
  have hp : (x.toNat : Int) * 2 ^ n = ((x.toNat * 2 ^ n : Nat) : Int) := by rw [Int.natCast_mul, Int.natCast_pow]; rfl
  rw [hp]
  generalize x.toNat * 2 ^ n = p
  omega
theorem w_byte (b : UInt8) : IntKind.u32.wrap (b.toNat : Int) = ((bw b).toNat : Int) := by
  have h := b.toNat_lt
  rw [wrap32 (by omega)]
  simp only [bw, BitVec.toNat_ofNat]
  rw [Nat.mod_eq_of_lt (by omega)]
theorem byte_w (x : W32) : IntKind.u8.wrap (x.toNat : Int) = ((UInt8.ofNat x.toNat).toNat : Int) := by
  rw [IntKind.wrap_u8, UInt8.toNat_ofNat']
  omega

/-! ## Arrays of one-cell elements -/
section
variable {α : Type} {f : α → CV}
theorem cellsL_one (hc : ∀ x, (f x).cells = 1) : ∀ l : List α, CV.cellsL (l.map f) = l.length
  | [] => rfl
  | x :: l => by simp only [List.map_cons, CV.cellsL, hc, cellsL_one hc l, List.length_cons]; omega
theorem getAtL_one (hc : ∀ x, (f x).cells = 1) (hg : ∀ x, CV.getAt 0 1 false (f x) = some (f x)) : ∀ (l : List α) (i : Nat) (h : i < l.length), CV.getAtL i 1 false (l.map f) = some (f l[i])
  | [], i, h => by simp at h
  | x :: l, 0, h => by simp only [List.map_cons, CV.getAtL, hc, if_pos (show 0 < 1 by omega), hg, List.getElem_cons_zero]
  | x :: l, i + 1, h => by
    simp only [List.map_cons, CV.getAtL, hc, if_neg (show ¬ i + 1 < 1 by omega), Nat.add_sub_cancel, List.getElem_cons_succ]
    exact getAtL_one hc hg l i (by simpa using h)
theorem getAt_one (hc : ∀ x, (f x).cells = 1) (hg : ∀ x, CV.getAt 0 1 false (f x) = some (f x)) {l : List α} {i : Nat} (h : i < l.length) : CV.getAt i 1 false (.agg (l.map f)) = some (f l[i]) := by
  simp only [CV.getAt, Bool.false_eq_true, and_false, if_false]
  exact getAtL_one hc hg l i h
theorem setAtL_one (hc : ∀ x, (f x).cells = 1) (hs : ∀ x y, CV.setAt 0 1 y (f x) = some y) (y : α) : ∀ (l : List α) (i : Nat), i < l.length → CV.setAtL i 1 (.c (f y)) (l.map f) = some (((l.set i y).map f).map .c)
  | [], i, h => by simp at h
  | x :: l, 0, h => by simp only [List.map_cons, CV.setAtL, hc, if_pos (show 0 < 1 by omega), hs, Option.map_some, List.set_cons_zero]
  | x :: l, i + 1, h => by
    simp only [List.map_cons, CV.setAtL, hc, if_neg (show ¬ i + 1 < 1 by omega), Nat.add_sub_cancel, List.set_cons_succ]
    rw [setAtL_one hc hs y l i (by simpa using h)]
    rfl
theorem setAt_one (hc : ∀ x, (f x).cells = 1) (hs : ∀ x y, CV.setAt 0 1 y (f x) = some y) {y : α} {l : List α} {i : Nat} (h : i < l.length) (h2 : l.length ≠ 1) : CV.setAt i 1 (.c (f y)) (.agg (l.map f)) = some (.agg (((l.set i y).map f).map .c)) := by
  simp only [CV.setAt, cellsL_one hc, h2, and_false, if_false]
  rw [setAtL_one hc hs y l i h]
  rfl
end
theorem toCL_c : ∀ l : List CV, HV.toCL (l.map .c) = some l
  | [] => rfl
  | x :: l => by simp only [List.map_cons, HV.toCL, HV.toC, toCL_c l]
theorem norm_cs (l : List CV) : HV.norm (.agg (l.map .c)) = .c (.agg l) := by simp only [HV.norm, HV.toC, toCL_c, Option.map_some]
theorem ws_cells (l : List W32) : (ws l).cells = l.length := cellsL_one (fun _ => rfl) l
theorem us_cells (l : List UInt8) : (us l).cells = l.length := cellsL_one (fun _ => rfl) l
theorem ws_get {l : List W32} {i : Nat} (h : i < l.length) : CV.getAt i 1 false (ws l) = some (w32 l[i]) := getAt_one (fun _ => rfl) (fun _ => rfl) h
theorem us_get {l : List UInt8} {i : Nat} (h : i < l.length) : CV.getAt i 1 false (us l) = some (u8 l[i]) := getAt_one (fun _ => rfl) (fun _ => rfl) h
theorem ws_set {l : List W32} {i : Nat} (y : W32) (h : i < l.length) (h2 : l.length ≠ 1) : CV.setAt i 1 (.c (w32 y)) (ws l) = some (.agg (((l.set i y).map w32).map .c)) := setAt_one (fun _ => rfl) (fun _ _ => rfl) h h2
theorem us_set {l : List UInt8} {i : Nat} (y : UInt8) (h : i < l.length) (h2 : l.length ≠ 1) : CV.setAt i 1 (.c (u8 y)) (us l) = some (.agg (((l.set i y).map u8).map .c)) := setAt_one (fun _ => rfl) (fun _ _ => rfl) h h2
theorem gw_at {l : List W32} {i : Nat} (h : i < l.length) : gw l i = l[i] := by simp [gw, h]
theorem gb_at {l : List UInt8} {i : Nat} (h : i < l.length) : gb l i = l[i] := by simp [gb, h]
theorem itN_len {α : Type} {f : Nat → List α → List α} (hf : ∀ i l, (f i l).length = l.length) : ∀ (n : Nat) (l : List α), (itN f n l).length = l.length
  | 0, _ => rfl
  | n + 1, l => by rw [itN_succ, hf, itN_len hf n l]
theorem wA_len (b : List UInt8) (n : Nat) : (wA b n).length = 64 := by unfold wA; rw [itN_len (fun i l => by simp)]; simp
theorem wB_len (w : List W32) (n : Nat) : (wB w n).length = w.length := itN_len (fun i l => by simp) n w
theorem wsched_len (b : List UInt8) : (wsched b).length = 64 := by rw [wsched, wB_len, wA_len]
theorem K256_len : K256.length = 64 := rfl
def wz (n : Nat) : List W32 := List.replicate n 0
def uz (n : Nat) : List UInt8 := List.replicate n 0
theorem wz_len (n : Nat) : (wz n).length = n := by simp [wz]
theorem uz_len (n : Nat) : (uz n).length = n := by simp [uz]
end Go.Pl

namespace Go.Hl
open Go

def gd (ops : Array Oper) (o : Oper) : Option (Option (Nat × Bool)) :=
  match o.guard with
  | none => some none
  | some (j, want) => match (ops[j]?).bind (·.dst) with
    | some d => some (some (d, want))
    | none => none
def hgd (g : Option (Nat × Bool)) (fr : Fr) : Option Bool :=
  match g with
  | none => some true
  | some (d, want) => match fr d with
    | .c (.bool b) => some (b == want)
    | .tup _ => some false
    | _ => none
def hop1 (P : Program) (nid : Nat) (av : List Nat) (g : Option (Nat × Bool)) (o : Op) (d : Option Nat) (K : Fr → Ob → Prop) (fr : Fr) (ob : Ob) : Prop :=
  match hgd g fr with
  | some true => hstep P av nid o (ev fr) ob fun v ob' => K (updo fr d v) ob'
  | some false => K (updo fr d (.tup [])) ob
  | none => False
section
variable {P : Program} {ops : Array Oper} {nx i : Nat} {o : Oper} {g : Option (Nat × Bool)} {Q : Fr → Ob → Prop} {fr : Fr} {ob : Ob}

theorem hguard_gd (hg : gd ops o = some g) : hguard ops o fr = hgd g fr := by
  unfold gd at hg
  unfold hguard hgd
  cases h : o.guard with
  | none => rw [h] at hg; cases hg; rfl
  | some p =>
    obtain ⟨j, want⟩ := p
    rw [h] at hg
    simp only at hg ⊢
    cases hd : (ops[j]?).bind (·.dst) with
    | none => rw [hd] at hg; cases hg
    | some d => rw [hd] at hg; cases hg; rfl

theorem hopI_hop1 {av : List Nat} {K : Fr → Ob → Prop} (ho : ops[i]? = some o) (hg : gd ops o = some g) (h : hop1 P (nx + 4 * i) av g o.op o.dst K fr ob) : hopI P ops nx av i K fr ob := by
  unfold hop1 at h
  unfold hopI
  rw [ho]
  simp only [hguard_gd hg]
  exact h

theorem hlex_step {l : List Nat} (ho : ops[i]? = some o) (hg : gd ops o = some g) (h : ∀ K : Fr → Ob → Prop, (∀ fr ob, hlex P ops nx Q l fr ob → K fr ob) → hop1 P (nx + 4 * i) [] g o.op o.dst K fr ob) : hlex P ops nx Q (i :: l) fr ob := by
  simp only [hlex]
  exact hopI_hop1 ho hg (h _ fun _ _ h => h)

theorem hwalk2_step {cr rd : List Nat} {l : Plan} {C : Pend} (ho : ops[i]? = some o) (hg : gd ops o = some g)
    (h : ∀ K : Fr → Ob → Prop, (∀ fr' ob', hwalk2 P ops nx Q l (if isEff o.op = true then C else (i, if hgd g fr = some true then touch o.op (ev fr) else []) :: C) fr' ob' → K fr' ob') →
      hop1 P (nx + 4 * i) (cr.flatMap (ids4 nx) ++ rd.flatMap (getF C)) g o.op o.dst K fr ob) : hwalk2 P ops nx Q ((i, cr, rd) :: l) C fr ob := by
  simp only [hwalk2]
  refine hopI_hop1 ho hg (h _ fun fr' ob' h => ?_)
  rw [ho]
  simp only [hguard_gd hg]
  exact h
end
end Go.Hl

namespace Go.Hl
open Go

mutual
def CV.flatv : CV → Bool
  | .bool _ => true
  | .int _ _ => true
  | .str _ => true
  | .agg l => CV.flatvL l
  | _ => false
def CV.flatvL : List CV → Bool
  | [] => true
  | v :: l => v.flatv && CV.flatvL l
end

theorem obAfter_same {ob lob : Ob} {σ : List Nat} {nid : Nat} (hn : σ.Nodup) (h1 : ∀ j, j < σ.length → ∃ o, lob j = some o ∧ ob (σ.getD j 0) = some (o.ren (sub σ nid))) (h2 : ∀ j, σ.length ≤ j → lob j = none) (h3 : ∀ i, nid ≤ i → i < nid + 4 → ob i = none) :
    obAfter ob σ nid lob = ob := by
  funext i
  unfold obAfter
  split
  · rename_i j hj
    obtain ⟨hjl, hje, _⟩ := List.findIdx?_eq_some_iff_getElem.1 hj
    obtain ⟨o, e1, e2⟩ := h1 j hjl
    have : σ.getD j 0 = i := by rw [List.getD_eq_getElem?_getD, List.getElem?_eq_getElem hjl]; simpa using hje
    rw [e1, ← this, e2]; rfl
  · split
    · rename_i h; rw [h2 _ (by omega), h3 i h.1 h.2]; rfl
    · rfl
theorem obAfter_gone {ob lob : Ob} {σ : List Nat} {nid id : Nat} (hn : σ.Nodup) (h0 : σ[0]? = some id) (hl0 : lob 0 = none) (h1 : ∀ j, 0 < j → j < σ.length → ∃ o, lob j = some o ∧ ob (σ.getD j 0) = some (o.ren (sub σ nid))) (h2 : ∀ j, σ.length ≤ j → lob j = none) (h3 : ∀ i, nid ≤ i → i < nid + 4 → ob i = none) :
    obAfter ob σ nid lob = gone ob id := by
  funext i
  unfold obAfter gone
  split
  · rename_i j hj
    obtain ⟨hjl, hje, _⟩ := List.findIdx?_eq_some_iff_getElem.1 hj
    have this : σ[j] = i := by simpa using hje
    by_cases e : j = 0
    · subst e
      rw [List.getElem?_eq_getElem hjl] at h0
      have e2 : i = id := by rw [← this]; exact Option.some.inj h0
      rw [hl0, if_pos e2]; rfl
    · obtain ⟨o, e1, e2⟩ := h1 j (by omega) hjl
      have hne : i ≠ id := by
        intro e3
        have h0l : 0 < σ.length := by omega
        rw [List.getElem?_eq_getElem h0l] at h0
        have := (List.pairwise_iff_getElem.1 hn) 0 j h0l hjl (by omega)
        exact this ((Option.some.inj h0).trans (e3.symm.trans (by rw [← ‹σ[j] = i›])))
      have e4 : σ.getD j 0 = i := by rw [List.getD_eq_getElem?_getD, List.getElem?_eq_getElem hjl]; simpa using this
      rw [e1, if_neg hne, ← e4, e2]; rfl
  · rename_i hno
    have hne : i ≠ id := by
      rintro rfl
      rw [List.findIdx?_eq_none_iff] at hno
      exact absurd (hno i (List.mem_of_getElem? h0)) (by simp)
    rw [if_neg hne]
    split
    · rename_i h; rw [h2 _ (by omega), h3 i h.1 h.2]; rfl
    · rfl

def Free4 (ob : Ob) (nid : Nat) : Prop := ob nid = none ∧ ob (nid + 1) = none ∧ ob (nid + 2) = none ∧ ob (nid + 3) = none
theorem Free4.all {ob : Ob} {nid : Nat} (h : Free4 ob nid) : ∀ i, nid ≤ i → i < nid + 4 → ob i = none := fun i h1 h2 => by
  have : i = nid ∨ i = nid + 1 ∨ i = nid + 2 ∨ i = nid + 3 := by omega
  rcases this with rfl | rfl | rfl | rfl
  · exact h.1
  · exact h.2.1
  · exact h.2.2.1
  · exact h.2.2.2

/-! ## The contracts -/
/-- What hands back a closed value and leaves the box as it was. -/
def keeps (T : TypeId) (v : CV) (R : CV → Prop) : HV → Ob → Prop := fun r ob' => ∃ u v', r = .c u ∧ ob' = fob [(0, .box T (.c v'))] ∧ (v' = v ∧ u.flatv = true ∧ R u)
/-- A function literal that has captured one box. -/
def HClo (P : Program) (f : FuncId) (T : TypeId) (v : CV) (args : List CV) (R : CV → Prop) : Prop := HFn P f (args.map HV.c ++ [HV.ptr 0 0]) 1 (fob [(0, .box T (.c v))]) (keeps T v R)
/-- A function over a closed slice and such a function value. -/
def HIdx (P : Program) (f : FuncId) (g : FuncId) (T : TypeId) (v : CV) (l : List CV) (R : CV → Prop) : Prop := HFn P f [.c (.slc l), .clo g [.ptr 0 0]] 1 (fob [(0, .box T (.c v))]) (keeps T v R)
/-- A function that uses up a row of one's own, and is handed such a function value. -/
def HDel (P : Program) (f : FuncId) (g : FuncId) (T : TypeId) (v : CV) (e : TypeId) (sz : Nat) (l : List CV) (R : CV → Prop) : Prop :=
  HFn P f [.own 0 l.length, .clo g [.ptr 1 0]] 2 (fob [(0, .row e sz l), (1, .box T (.c v))]) (fun r ob' => ∃ u, r = .c u ∧ ob' = fob [(1, .box T (.c v))] ∧ R u)
/-- A function that uses up a row of one's own. -/
def HTake (P : Program) (f : FuncId) (e : TypeId) (sz : Nat) (l : List CV) (R : CV → Prop) : Prop := HFn P f [.own 0 l.length] 1 (fob [(0, .row e sz l)]) (fun r ob' => ∃ u, r = .c u ∧ ob' = none0 ∧ R u)

theorem locOk_clo (T : TypeId) (v : CV) (args : List CV) : LocOk 1 (args.map HV.c ++ [HV.ptr 0 0]) (fob [(0, .box T (.c v))]) := by
  have h := locOk_box T v []
  exact ⟨h.all, h.none, by rw [HV.menL_append]; exact ⟨HV.menL_c, by simp [HV.menL, HV.men]⟩⟩
theorem locOk_idx (g : FuncId) (T : TypeId) (v : CV) (l : List CV) : LocOk 1 [.c (.slc l), .clo g [.ptr 0 0]] (fob [(0, .box T (.c v))]) := by
  have h := locOk_box T v []
  exact ⟨h.all, h.none, by simp [HV.menL, HV.men]⟩
theorem locOk_del (g : FuncId) (T : TypeId) (v : CV) (e : TypeId) (sz n : Nat) (l : List CV) : LocOk 2 [.own 0 n, .clo g [.ptr 1 0]] (fob [(0, .row e sz l), (1, .box T (.c v))]) := by
  refine ⟨fun j h => ?_, fun id o h => ?_, by simp [HV.menL, HV.men]⟩
  · have : j = 0 ∨ j = 1 := by omega
    rcases this with rfl | rfl
    · exact ⟨_, rfl⟩
    · exact ⟨_, rfl⟩
  · simp only [fob_at, fob_nil] at h
    split at h
    · cases h; rename_i e; subst e; exact ⟨by omega, trivial⟩
    · split at h
      · cases h; rename_i e; subst e; exact ⟨by omega, by simp [HO.men, HV.men]⟩
      · cases h
theorem locOk_take (e : TypeId) (sz n : Nat) (l : List CV) : LocOk 1 [.own 0 n] (fob [(0, .row e sz l)]) := by
  refine ⟨fun j h => ?_, fun id o h => ?_, by simp [HV.menL, HV.men]⟩
  · have : j = 0 := by omega
    subst this; exact ⟨_, rfl⟩
  · simp only [fob_at, fob_nil] at h
    split at h
    · cases h; rename_i e; subst e; exact ⟨by omega, trivial⟩
    · cases h

/-! ## Returns -/
theorem hret_keeps {ob : Ob} {r : HV} {T : TypeId} {R : CV → Prop} {w : HV} (cl : List Nat) (u v : CV) (h : (r.close ob cl).norm = .c u) (hb : ob 0 = some (.box T w)) (hw : (w.close ob cl).norm = .c v) (h0 : 0 ∉ cl) (hu : u.flatv = true) (hR : R u) : HRet 1 r ob (keeps T v R) :=
  hret_box cl u v h hb hw h0 ⟨rfl, hu, hR⟩
theorem hret_del {ob : Ob} {r : HV} {T : TypeId} {R : CV → Prop} {w : HV} (cl : List Nat) (u v : CV) (h : (r.close ob cl).norm = .c u) (hb : ob 1 = some (.box T w)) (hw : (w.close ob cl).norm = .c v) (h0 : 1 ∉ cl) (hR : R u) :
    HRet 2 r ob (fun r ob' => ∃ u, r = .c u ∧ ob' = fob [(1, .box T (.c v))] ∧ R u) := by
  refine ⟨cl, id, .c u, fob [(1, .box T (.c v))], ⟨u, rfl, rfl, hR⟩, by rw [h]; rfl, fun _ _ => rfl, fun _ _ _ _ h => h, by simp [HV.men], fun j o ho => ?_⟩
  simp only [fob_at, fob_nil] at ho
  split at ho
  · rename_i e; subst e
    cases ho
    refine ⟨by omega, by simp [HO.men, HV.men], h0, .box T w, hb, ?_⟩
    simp only [hw]; rfl
  · cases ho
theorem hret_take {ob : Ob} {r : HV} {R : CV → Prop} (cl : List Nat) (u : CV) (h : (r.close ob cl).norm = .c u) (hR : R u) : HRet 1 r ob (fun r ob' => ∃ u, r = .c u ∧ ob' = none0 ∧ R u) :=
  ⟨cl, id, .c u, none0, ⟨u, rfl, rfl, hR⟩, by rw [h]; rfl, fun _ _ => rfl, fun _ _ _ _ h => h, by simp [HV.men], fun j o h => by simp [none0] at h⟩

/-! ## Calls -/
section
variable {P : Program} {av : List Nat} {f g : FuncId} {ob : Ob} {nid id id2 n : Nat} {K : HV → Ob → Prop} {T e : TypeId} {sz : Nat} {v : CV} {l : List CV} {R : CV → Prop}

theorem call_clo {args : List CV} (h : HClo P f T v args R) (hid : ob id = some (.box T (.c v))) (hav : id ∉ av) (hfree : Free4 ob nid) (hK : ∀ u, R u → K (.c u) ob) : HCall P av f (args.map HV.c ++ [HV.ptr id 0]) ob nid K := by
  have hsub : sub [id] nid 0 = id := rfl
  refine ⟨[id], (args.map HV.c ++ [HV.ptr 0 0] : List HV), fob [(0, .box T (.c v))], keeps T v R, h, locOk_clo T v args, ⟨by simp, by simpa using hav⟩, ?_, fun j o hj => ?_, fun r lob' hR _ => ?_⟩
  · have : ∀ l1 l2 : List HV, HV.renL (sub [id] nid) (l1 ++ l2) = HV.renL (sub [id] nid) l1 ++ HV.renL (sub [id] nid) l2 := by
      intro l1 l2; induction l1 with
      | nil => rfl
      | cons x l ih => simp only [List.cons_append, HV.renL, ih]
    rw [this, HV.renL_c]; simp only [HV.renL, HV.ren, hsub]
  · simp only [fob_at, fob_nil] at hj
    split at hj
    · rename_i e; subst e; cases hj; simpa [HO.ren, HV.ren] using hid
    · cases hj
  · obtain ⟨u, v', rfl, rfl, rfl, _, hR⟩ := hR
    rw [obAfter_same (by simp) (fun j hj => ?_) (fun j hj => ?_) hfree.all]
    · exact hK u hR
    · have : j = 0 := by simp at hj; omega
      subst this; exact ⟨_, rfl, by simpa [HO.ren, HV.ren] using hid⟩
    · simp only [List.length_cons, List.length_nil] at hj
      rw [fob_at, if_neg (by omega)]; rfl

theorem call_idx (h : HIdx P f g T v l R) (hid : ob id = some (.box T (.c v))) (hav : id ∉ av) (hfree : Free4 ob nid) (hK : ∀ u, R u → K (.c u) ob) : HCall P av f [.c (.slc l), .clo g [.ptr id 0]] ob nid K := by
  have hsub : sub [id] nid 0 = id := rfl
  refine ⟨[id], _, _, _, h, locOk_idx g T v l, ⟨by simp, by simpa using hav⟩, by simp only [HV.renL, HV.ren, hsub], fun j o hj => ?_, fun r lob' hR _ => ?_⟩
  · simp only [fob_at, fob_nil] at hj
    split at hj
    · rename_i e; subst e; cases hj; simpa [HO.ren, HV.ren] using hid
    · cases hj
  · obtain ⟨u, v', rfl, rfl, rfl, _, hR⟩ := hR
    rw [obAfter_same (by simp) (fun j hj => ?_) (fun j hj => ?_) hfree.all]
    · exact hK u hR
    · have : j = 0 := by simp at hj; omega
      subst this; exact ⟨_, rfl, by simpa [HO.ren, HV.ren] using hid⟩
    · simp only [List.length_cons, List.length_nil] at hj
      rw [fob_at, if_neg (by omega)]; rfl

theorem call_del (h : HDel P f g T v e sz l R) (hid : ob id = some (.row e sz l)) (hid2 : ob id2 = some (.box T (.c v))) (hn : n = l.length) (hav : id ∉ av ∧ id2 ∉ av) (hfree : Free4 ob nid) (hK : ∀ u, R u → K (.c u) (gone ob id)) :
    HCall P av f [.own id n, .clo g [.ptr id2 0]] ob nid K := by
  have hne : id ≠ id2 := by rintro rfl; rw [hid] at hid2; cases hid2
  have h0 : sub [id, id2] nid 0 = id := rfl
  have h1 : sub [id, id2] nid 1 = id2 := rfl
  subst hn
  refine ⟨[id, id2], _, _, _, h, locOk_del g T v e sz _ l, ⟨by simp [hne], by simpa using hav⟩, by simp only [HV.renL, HV.ren, h0, h1], fun j o hj => ?_, fun r lob' hR _ => ?_⟩
  · simp only [fob_at, fob_nil] at hj
    split at hj
    · rename_i e; subst e; cases hj; simpa [HO.ren] using hid
    · split at hj
      · rename_i e; subst e; cases hj; simpa [HO.ren, HV.ren] using hid2
      · cases hj
  · obtain ⟨u, rfl, rfl, hR⟩ := hR
    rw [obAfter_gone (id := id) (by simp [hne]) rfl rfl (fun j hj0 hj => ?_) (fun j hj => ?_) hfree.all]
    · exact hK u hR
    · have : j = 1 := by simp at hj; omega
      subst this; exact ⟨_, rfl, by simpa [HO.ren, HV.ren] using hid2⟩
    · simp only [List.length_cons, List.length_nil] at hj
      rw [fob_at, if_neg (by omega)]; rfl

theorem call_take (h : HTake P f e sz l R) (hid : ob id = some (.row e sz l)) (hn : n = l.length) (hav : id ∉ av) (hfree : Free4 ob nid) (hK : ∀ u, R u → K (.c u) (gone ob id)) :
    HCall P av f [.own id n] ob nid K := by
  have h0 : sub [id] nid 0 = id := rfl
  subst hn
  refine ⟨[id], _, _, _, h, locOk_take e sz _ l, ⟨by simp, by simpa using hav⟩, by simp only [HV.renL, HV.ren, h0], fun j o hj => ?_, fun r lob' hR _ => ?_⟩
  · simp only [fob_at, fob_nil] at hj
    split at hj
    · rename_i e; subst e; cases hj; simpa [HO.ren] using hid
    · cases hj
  · obtain ⟨u, rfl, rfl, hR⟩ := hR
    rw [obAfter_gone (lob := none0) (id := id) (by simp) rfl rfl (fun j hj0 hj => ?_) (fun j hj => rfl) hfree.all]
    · exact hK u hR
    · simp at hj; omega
end

/-! ## A row of one's own, lent for a call as a closed slice -/
mutual
theorem flatv_rep {w w' : World} {O O' : Nat → Prop} : ∀ {u : CV} {cs : List Value}, u.flatv = true → RepC w O u cs → RepC w' O' u cs
  | .bool _, cs, _, h => by simpa only [RepC] using h
  | .int _ _, cs, _, h => by simpa only [RepC] using h
  | .str _, cs, _, h => by simpa only [RepC] using h
  | .agg l, cs, hu, h => by simp only [RepC, CV.flatv] at h hu ⊢; exact flatvL_rep hu h
  | .nils, cs, hu, _ => by simp [CV.flatv] at hu
  | .slc _, cs, hu, _ => by simp [CV.flatv] at hu
  | .rp _, cs, hu, _ => by simp [CV.flatv] at hu
  | .fn _, cs, hu, _ => by simp [CV.flatv] at hu
  | .nilp, cs, hu, _ => by simp [CV.flatv] at hu
  | .nilf, cs, hu, _ => by simp [CV.flatv] at hu
  | .nili, cs, hu, _ => by simp [CV.flatv] at hu
  | .nilm, cs, hu, _ => by simp [CV.flatv] at hu
  | .ifc _ _, cs, hu, _ => by simp [CV.flatv] at hu
theorem flatvL_rep {w w' : World} {O O' : Nat → Prop} : ∀ {l : List CV} {cs : List Value}, CV.flatvL l = true → RepL w O l cs → RepL w' O' l cs
  | [], cs, _, h => by simpa only [RepL] using h
  | v :: l, cs, hu, h => by
    simp only [RepL, CV.flatvL, Bool.and_eq_true] at h hu ⊢
    obtain ⟨c1, c2, h1, h2, h3⟩ := h
    exact ⟨c1, c2, h1, flatv_rep hu.1 h2, flatvL_rep hu.2 h3⟩
end

theorem hfn_borrow {P : Program} {f g : FuncId} {T e : TypeId} {sz : Nat} {v : CV} {l : List CV} {R : CV → Prop} (hv : v.flatv = true) (h : HIdx P f g T v l R) :
    HFn P f [.own 1 l.length, .clo g [.ptr 0 0]] 2 (fob [(0, .box T (.c v)), (1, .row e sz l)]) (fun r ob' => ∃ u, r = .c u ∧ ob' = fob [(0, .box T (.c v)), (1, .row e sz l)] ∧ R u) := by
  refine ⟨h.1, fun w ρ X xs hS hA hX => ?_⟩
  let ρc : Env := fun i => if i = 1 then none else ρ i
  have hρc : ∀ i L, ρc i = some L → ρ i = some L ∧ i ≠ 1 := fun i L hL => by
    simp only [ρc] at hL; split at hL
    · cases hL
    · exact ⟨hL, by assumption⟩
  have hownc : ∀ b, Own ρc b → Own ρ b := fun b ⟨i, L, h1, h2⟩ => ⟨i, L, (hρc i L h1).1, h2⟩
  have hst : Stay w (Owned ρ X) w (Owned ρc X) := Stay.same (fun b _ hb => hb.imp (fun x => x) (hownc b))
  have hmv : ∀ M, Moves M ρ ρc := fun M i L _ hL => ⟨L, (hρc i L hL).1, .inl rfl⟩
  obtain ⟨hd, ys, hρ1, hl, hcs, how⟩ := hS.objs 1 (.row e sz l) rfl
  have hSc : RepS w ρc X (fob [(0, .box T (.c v))]) := by
    refine ⟨fun i o ho => ?_, fun i hi => ?_, fun i j L L' b h1 h2 => hS.apart i j L L' b (hρc _ _ h1).1 (hρc _ _ h2).1, fun i L b h1 => hS.xb i L b (hρc _ _ h1).1⟩
    · simp only [fob_at, fob_nil] at ho
      split at ho
      · rename_i e; subst e
        cases ho
        exact RepO.stay (M := fun _ => True) hst (hmv _) (by simp [HO.men, HV.men]) rfl (fun _ _ _ _ => rfl) (hS.objs 0 _ rfl)
      · cases ho
    · simp only [ρc]
      split
      · rfl
      · rename_i h1
        refine hS.none i ?_
        simp only [fob_at, fob_nil] at hi ⊢
        split at hi
        · cases hi
        · simp [*]
  have hA2 : RepHV w ρc (Owned ρc X) [.c (.slc l), .clo g [.ptr 0 0]] xs := by
    rw [repHV_cons] at hA ⊢
    obtain ⟨y, zs, rfl, hy, hz⟩ := hA
    refine ⟨y, zs, rfl, ?_, RepHV.stay (M := fun _ => True) hst (hmv _) (by simp [HV.menL, HV.men]) hz⟩
    obtain ⟨hy1, hy2⟩ := hy
    have hag : Value.isAgg' y = false := by rw [← hy2]; rfl
    rw [cells_single hag] at hy1
    simp only [RepH, List.cons.injEq, and_true] at hy1
    obtain ⟨x, rfl, hx1, hx2⟩ := hy1
    obtain ⟨q1, q2⟩ := hx2 hd hρ1
    have hrc : RepC w (Owned ρc X) (.slc l) [y] := by
      simp only [RepC]
      rcases how.2 with ⟨rfl, hz⟩ | ⟨g', cap, cur, rfl, hg0, hg, hcap, _⟩
      · have := q2 (by simp [hlen, hz])
        exact ⟨none, 0, ys, sz, by rw [this, hz], hl.stay hst, hcs, by omega, fun _ => rfl, fun ad had => (by cases had)⟩
      · have := q2 (by simp [hlen])
        refine ⟨some ⟨g', 0, none⟩, cap, ys, sz, by rw [this], hl.stay hst, hcs, hcap, fun hh => (by cases hh), fun ad had => ?_⟩
        cases had
        refine ⟨how.cells (g := g') rfl, fun _ => ?_⟩
        rintro (hx | ⟨i, L, h4, h5⟩)
        · exact hS.xb 1 _ g' hρ1 rfl hx
        · obtain ⟨h6, h7⟩ := hρc i L h4
          exact h7 (hS.apart i 1 L _ g' h6 hρ1 h5 rfl)
    exact ⟨by simp only [RepH]; rw [cells_single hag]; exact hrc, hag.symm⟩
  refine (h.2 w ρc X xs hSc hA2 hX).mono ?_
  rintro ex w' ⟨r, ob', ρ', x, rfl, ⟨u, v', rfl, rfl, rfl, hu, hR⟩, hg⟩
  let ρn : Env := fun i => if i = 1 then ρ 1 else ρ' i
  have hρ'1 : ρ' 1 = none := hg.s.none 1 rfl
  have hnb : ∀ b, (Loc.hdr hd).has b → ¬ Own ρc b := fun b hb ⟨i, L, h1, h2⟩ => by
    obtain ⟨h6, h7⟩ := hρc i L h1
    exact h7 (hS.apart i 1 L _ b h6 hρ1 h2 hb)
  have hblk : ∀ b, (Loc.hdr hd).has b → w'.heap[b]? = w.heap[b]? := fun b hb => hg.stay.block b (Owned.lt hS hρ1 hb) (hnb b hb)
  have hnb' : ∀ b, (Loc.hdr hd).has b → ¬ Own ρ' b := fun b hb ho => (hg.stay.own b ho).elim (hnb b hb) (fun h => absurd (Owned.lt hS hρ1 hb) (Nat.not_lt.2 h))
  have hownn : ∀ b, Own ρn b ↔ (Own ρ' b ∨ (Loc.hdr hd).has b) := fun b => by
    constructor
    · rintro ⟨i, L, h1, h2⟩
      simp only [ρn] at h1
      split at h1
      · rw [hρ1] at h1; cases h1; exact .inr h2
      · exact .inl ⟨i, L, h1, h2⟩
    · rintro (⟨i, L, h1, h2⟩ | h2)
      · refine ⟨i, L, ?_, h2⟩
        simp only [ρn]
        split
        · rename_i e; subst e; rw [hρ'1] at h1; cases h1
        · exact h1
      · exact ⟨1, _, by simp only [ρn, if_pos]; exact hρ1, h2⟩
  have hs2 : Stay2 w (Own ρ) w' (Own ρn) := by
    refine ⟨fun b hb hO => hg.stay.block b hb (fun h1 => hO (hownc b h1)), fun b hb => ?_, hg.stay.size, hg.stay.os, hg.stay.tape, hg.stay.output⟩
    rcases (hownn b).1 hb with hb | hb
    · exact (hg.stay.own b hb).imp (hownc b) (fun x => x)
    · exact .inl ⟨1, _, hρ1, hb⟩
  have hstn : Stay w (Owned ρ X) w' (Owned ρn X) := hs2.stay X
  have hmvn : Moves (· < 2) ρ ρn := fun i L hi hL => by
    simp only [ρn] at hL
    split at hL
    · rename_i e; subst e; exact ⟨L, hL, .inl rfl⟩
    · rename_i e
      have : i = 0 := by omega
      subst this
      obtain ⟨L0, h1, h2⟩ := hg.moves 0 L (by omega) hL
      exact ⟨L0, (hρc 0 L0 h1).1, h2⟩
  have hst' : Stay w' (Owned ρ' X) w' (Owned ρ' X) := ⟨fun b _ hO => ⟨rfl, hO⟩⟩
  refine ⟨_, _, ρn, x, rfl, ⟨u, rfl, rfl, hR⟩, ⟨by simpa only [RepH] using flatv_rep hu (by simpa only [RepH] using hg.v.1), hg.v.2⟩, ⟨fun i o ho => ?_, fun i hi => ?_, fun i j L L' b h1 h2 h3 h4 => ?_, fun i L b h1 h2 hx => ?_⟩, by simp [HV.men], fun i o ho => ?_, hs2, hmvn⟩
  · simp only [fob_at, fob_nil] at ho
    split at ho
    · rename_i e; subst e
      cases ho
      obtain ⟨b', cs', f1, f2, f3⟩ := hg.s.objs 0 _ rfl
      refine ⟨b', cs', by simp only [ρn]; exact f1, f2, ?_⟩
      simp only [RepH] at f3 ⊢
      exact flatv_rep hv f3
    · split at ho
      · rename_i e; subst e
        cases ho
        exact RepO.stay (M := (· < 2)) hstn hmvn trivial (by simp only [ρn, if_pos]) (fun L b h1 h2 => by rw [hρ1] at h1; cases h1; exact hblk b h2) (hS.objs 1 _ rfl)
      · cases ho
  · simp only [fob_at, fob_nil] at hi
    split at hi
    · cases hi
    · split at hi
      · cases hi
      · simp only [ρn]
        rw [if_neg (by assumption)]
        refine hg.s.none i ?_
        simp [fob_at, fob_nil, *]
  · have norm : ∀ i L, ρn i = some L → (i = 1 ∧ L = .hdr hd) ∨ (i ≠ 1 ∧ ρ' i = some L) := fun i L hL => by
      simp only [ρn] at hL
      split at hL
      · rename_i e; subst e; rw [hρ1] at hL; cases hL; exact .inl ⟨rfl, rfl⟩
      · exact .inr ⟨by assumption, hL⟩
    rcases norm i L h1 with ⟨rfl, rfl⟩ | ⟨n1, e1⟩ <;> rcases norm j L' h2 with ⟨rfl, rfl⟩ | ⟨n2, e2⟩
    · rfl
    · exact absurd ⟨j, L', e2, h4⟩ (hnb' b h3)
    · exact absurd ⟨i, L, e1, h3⟩ (hnb' b h4)
    · exact hg.s.apart i j L L' b e1 e2 h3 h4
  · simp only [ρn] at h1
    split at h1
    · rename_i e; subst e; exact hS.xb 1 L b h1 h2 hx
    · exact hg.s.xb i L b h1 h2 hx
  · simp only [fob_at, fob_nil] at ho
    split at ho
    · rename_i e; subst e; cases ho; exact ⟨by omega, by simp [HO.men, HV.men]⟩
    · split at ho
      · rename_i e; subst e; cases ho; exact ⟨by omega, trivial⟩
      · cases ho

theorem obAfter_upd {ob : Ob} {nid id : Nat} {o : HO} (hfree : Free4 ob nid) : obAfter ob [id] nid (fob [(0, o)]) = upd ob id (some (o.ren (sub [id] nid))) := by
  funext i
  by_cases e : i = id
  · subst e
    simp only [obAfter, upd_same, List.findIdx?_cons, beq_self_eq_true, if_true, fob_at, Option.map_some]
  · have e' : (id == i) = false := by simp; exact fun h => e h.symm
    simp only [obAfter, List.findIdx?_cons, e', List.findIdx?_nil, Option.map_none, upd_ne _ _ e]
    simp only [Bool.false_eq_true, if_false]
    split
    · rename_i hr
      have h1 : [id].length + (i - nid) ≠ 0 := by simp
      rw [fob_at, if_neg h1, fob_nil]
      exact (hfree.all i hr.1 hr.2).symm
    · rfl

theorem call_borrow {P : Program} {av : List Nat} {f g : FuncId} {ob : Ob} {nid id id2 n : Nat} {K : HV → Ob → Prop} {T e : TypeId} {sz : Nat} {v : CV} {l : List CV} {R : CV → Prop} (h : HIdx P f g T v l R) (hv : v.flatv = true) (hid : ob id = some (.row e sz l)) (hid2 : ob id2 = some (.box T (.c v)))
    (hn : n = l.length) (hav : id ∉ av ∧ id2 ∉ av) (hfree : Free4 ob nid) (hK : ∀ u, R u → K (.c u) ob) : HCall P av f [.own id n, .clo g [.ptr id2 0]] ob nid K := by
  have hne : id ≠ id2 := by rintro rfl; rw [hid] at hid2; cases hid2
  have h0 : sub [id2, id] nid 0 = id2 := rfl
  have h1 : sub [id2, id] nid 1 = id := rfl
  subst hn
  have hloc : LocOk 2 [HV.own 1 l.length, .clo g [.ptr 0 0]] (fob [(0, .box T (.c v)), (1, .row e sz l)]) := by
    refine ⟨fun j h => ?_, fun id o h => ?_, by simp [HV.menL, HV.men]⟩
    · have : j = 0 ∨ j = 1 := by omega
      rcases this with rfl | rfl
      · exact ⟨_, rfl⟩
      · exact ⟨_, rfl⟩
    · simp only [fob_at, fob_nil] at h
      split at h
      · rename_i e; subst e; cases h; exact ⟨by omega, by simp [HO.men, HV.men]⟩
      · split at h
        · rename_i e; subst e; cases h; exact ⟨by omega, trivial⟩
        · cases h
  refine ⟨[id2, id], _, _, _, hfn_borrow (e := e) (sz := sz) hv h, hloc, ⟨by simp [Ne.symm hne], by simpa using hav.symm⟩, by simp only [HV.renL, HV.ren, h0, h1], fun j o hj => ?_, fun r lob' hR _ => ?_⟩
  · simp only [fob_at, fob_nil] at hj
    split at hj
    · rename_i e; subst e; cases hj; simpa [HO.ren, HV.ren] using hid2
    · split at hj
      · rename_i e; subst e; cases hj; simpa [HO.ren] using hid
      · cases hj
  · obtain ⟨u, rfl, rfl, hR⟩ := hR
    rw [obAfter_same (by simp [Ne.symm hne]) (fun j hj => ?_) (fun j hj => ?_) hfree.all]
    · exact hK u hR
    · have : j = 0 ∨ j = 1 := by simp at hj; omega
      rcases this with rfl | rfl
      · exact ⟨_, rfl, by simpa [HO.ren, HV.ren] using hid2⟩
      · exact ⟨_, rfl, by simpa [HO.ren] using hid⟩
    · simp only [List.length_cons, List.length_nil] at hj
      rw [fob_at, if_neg (by omega), fob_at, if_neg (by omega)]; rfl

/-! ## A row of a map, used up by a call -/
theorem hfn_mrow {P : Program} {f : FuncId} {e : TypeId} {sz : Nat} {l : List CV} {R : CV → Prop} (h : HTake P f e sz l R) {D : MD} {k : List UInt8} (hk : mget D k = some (.row l)) :
    HFn P f [.mrow 0 k l.length] 1 (fob [(0, .mp e sz D)]) (fun r ob' => ∃ u, r = .c u ∧ ob' = fob [(0, .mp e sz (mput D k .lent))] ∧ R u) := by
  refine ⟨h.1, fun w ρ X xs hS hA hX => ?_⟩
  obtain ⟨b, hf, hρ0, hM⟩ := hS.objs 0 (.mp e sz D) rfl
  have hρi : ∀ i, i ≠ 0 → ρ i = none := fun i hi => hS.none i (by rw [fob_at, if_neg hi, fob_nil])
  obtain ⟨hd, hhd, hlen, hone⟩ := rowM hM (k := k) (by rw [hk]; simp)
  obtain ⟨hnb, ys, hl, hcs, how⟩ := hM.row k hd hhd
  rw [hk] at hlen hl hcs how
  simp only [rowOf] at hlen hl hcs how
  let ρc : Env := fun i => if i = 0 then some (.hdr hd) else none
  let X' : Nat → Prop := fun g => X g ∨ g = b ∨ ∃ k' h', k' ≠ k ∧ hf k' = some h' ∧ h'.ownBlock = some g
  have hown0 : ∀ g, Own ρc g ↔ hd.ownBlock = some g := fun g => by
    constructor
    · rintro ⟨i, L, h1, h2⟩
      simp only [ρc] at h1
      split at h1
      · cases h1; exact h2
      · cases h1
    · exact fun h1 => ⟨0, _, rfl, h1⟩
  have hownρ : ∀ g, Own ρ g ↔ (Loc.mp b hf).has g := fun g => by
    constructor
    · rintro ⟨i, L, h1, h2⟩
      by_cases hi : i = 0
      · subst hi; rw [hρ0] at h1; cases h1; exact h2
      · rw [hρi i hi] at h1; cases h1
    · exact fun h1 => ⟨0, _, hρ0, h1⟩
  have howned : ∀ g, Owned ρc X' g → Owned ρ X g := by
    rintro g ((hx | rfl | ⟨k', h', _, h2, h3⟩) | hg)
    · exact .inl hx
    · exact .inr ((hownρ g).2 (.inl rfl))
    · exact .inr ((hownρ g).2 (.inr ⟨k', h', h2, h3⟩))
    · exact .inr ((hownρ g).2 (.inr ⟨k, hd, hhd, (hown0 g).1 hg⟩))
  have hst : Stay w (Owned ρ X) w (Owned ρc X') := Stay.same (fun g _ hg => howned g hg)
  have hSc : RepS w ρc X' (fob [(0, .row e sz l)]) := by
    refine ⟨fun i o ho => ?_, fun i hi => ?_, fun i j L L' g h1 h2 _ _ => ?_, fun i L g h1 h2 => ?_⟩
    · simp only [fob_at, fob_nil] at ho
      split at ho
      · rename_i e0; subst e0; cases ho
        exact ⟨hd, ys, rfl, hl.stay hst, hcs, how⟩
      · cases ho
    · simp only [ρc]
      split
      · rename_i e0; subst e0; simp [fob_at] at hi
      · rfl
    · have hi : i = 0 := by simp only [ρc] at h1; split at h1; assumption; cases h1
      have hj : j = 0 := by simp only [ρc] at h2; split at h2; assumption; cases h2
      rw [hi, hj]
    · simp only [ρc] at h1
      split at h1
      · cases h1
        rintro (hx | rfl | ⟨k', h', h3, h4, h5⟩)
        · exact hS.xb 0 _ g hρ0 (.inr ⟨k, hd, hhd, h2⟩) hx
        · exact hnb h2
        · exact h3 (hM.apart k' k h' hd g h4 hhd h5 h2)
      · cases h1
  have hA2 : RepHV w ρc (Owned ρc X') [.own 0 l.length] xs := by
    rw [repHV_cons] at hA ⊢
    obtain ⟨y, zs, rfl, hy, hz⟩ := hA
    refine ⟨y, zs, rfl, ?_, by simpa only [RepHV] using hz⟩
    obtain ⟨hy1, hy2⟩ := hy
    have hag : Value.isAgg' y = false := by rw [← hy2]; rfl
    rw [cells_single hag] at hy1
    simp only [RepH, List.cons.injEq, and_true] at hy1
    obtain ⟨x, rfl, hx1, hx2⟩ := hy1
    obtain ⟨q1, q2⟩ := hx2 b hf hd hρ0 hhd
    refine repV_mk ?_ rfl hag
    simp only [RepH]
    refine ⟨y, rfl, hx1, fun h' hh => ?_⟩
    simp only [ρc, if_true, Option.some.injEq, Loc.hdr.injEq] at hh
    subst hh
    exact ⟨q1, q2⟩
  have hX2 : ∀ g, X' g → g < w.heap.size := by
    rintro g (hx | rfl | ⟨k', h', _, h2, h3⟩)
    · exact hX g hx
    · exact hM.lt g (.inl rfl)
    · exact hM.lt g (.inr ⟨k', h', h2, h3⟩)
  refine (h.2 w ρc X' xs hSc hA2 hX2).mono ?_
  rintro ex w' ⟨r, ob', ρ', x, rfl, ⟨u, rfl, rfl, hR⟩, hg⟩
  have hρ' : ∀ i, ρ' i = none := fun i => hg.s.none i rfl
  let hf' : List UInt8 → Option Value := fun k' => if k' = k then none else hf k'
  let ρn : Env := fun i => if i = 0 then some (.mp b hf') else none
  have hf'o : ∀ k' h', hf' k' = some h' → k' ≠ k ∧ hf k' = some h' := fun k' h' hh => by
    simp only [hf'] at hh
    split at hh
    · cases hh
    · exact ⟨by assumption, hh⟩
  have hownn : ∀ g, Own ρn g → (Loc.mp b hf').has g := by
    rintro g ⟨i, L, h1, h2⟩
    simp only [ρn] at h1
    split at h1
    · cases h1; exact h2
    · cases h1
  have hownX : ∀ g, (Loc.mp b hf').has g → X' g ∧ Own ρ g := by
    rintro g (rfl | ⟨k', h', h2, h3⟩)
    · exact ⟨.inr (.inl rfl), (hownρ g).2 (.inl rfl)⟩
    · obtain ⟨h4, h5⟩ := hf'o k' h' h2
      exact ⟨.inr (.inr ⟨k', h', h4, h5, h3⟩), (hownρ g).2 (.inr ⟨k', h', h5, h3⟩)⟩
  have hs2 : Stay2 w (Own ρ) w' (Own ρn) := by
    refine ⟨fun g hg' hO => hg.stay.block g hg' (fun h1 => hO ((hownρ g).2 (.inr ⟨k, hd, hhd, (hown0 g).1 h1⟩))), fun g hg' => .inl (hownX g (hownn g hg')).2, hg.stay.size, hg.stay.os, hg.stay.tape, hg.stay.output⟩
  have hstn : Stay w (Owned ρ X) w' (Owned ρn X) := hs2.stay X
  have hst' : Stay w' (Owned ρ' X') w' (Owned ρn X) := Stay.same (fun g _ hg' => hg'.elim (fun hx => .inl (.inl hx)) (fun hx => .inl (hownX g (hownn g hx)).1))
  have hbnot : ¬ Own ρc b := fun hb => hnb ((hown0 b).1 hb)
  have hMn : RepM w' (Owned ρn X) e sz (mput D k .lent) b hf' := by
    obtain ⟨es, clock, hb, hs0, h4, h5⟩ := hM.blk
    refine ⟨⟨es, clock, by rw [hg.stay.block b (hM.lt b (.inl rfl)) hbnot]; exact hb, hs0, fun z hz => ?_, fun k' m' hg' ht => ?_⟩, fun k' h' hk' => ?_, fun k' => ?_, fun k' h' hk' hn' => ?_, fun k1 k2 v1 v2 g e1 e2 => hM.apart k1 k2 v1 v2 g (hf'o _ _ e1).2 (hf'o _ _ e2).2⟩
    · obtain ⟨k', m', e1, e2, e3, e4⟩ := h4 z hz
      by_cases hkk : k' = k
      · subst hkk; exact ⟨k', .lent, mget_put_same _ _ _, e2, e3, trivial⟩
      · refine ⟨k', m', by rw [mget_put_other _ _ hkk]; exact e1, e2, e3, ?_⟩
        have : hf' k' = hf k' := if_neg hkk
        rw [this]; exact e4.stay hstn
    · by_cases hkk : k' = k
      · subst hkk; exact h5 k' _ hk rfl
      · rw [mget_put_other _ _ hkk] at hg'; exact h5 k' m' hg' ht
    · obtain ⟨h6, h7⟩ := hf'o _ _ hk'
      rw [mget_put_other _ _ h6]
      obtain ⟨q1, zs, q2, q3, q4⟩ := hM.row k' h' h7
      refine ⟨q1, zs, q2.stay hstn, q3, ownsRow_stay q4 (fun g hg' => hg.stay.block g (q4.lt g hg').2 (fun ho => h6 (hM.apart k' k h' hd g h7 hhd hg' ((hown0 g).1 ho))))⟩
    · by_cases hkk : k' = k
      · subst hkk; rw [mget_put_same]; simp [hf']
      · have : hf' k' = hf k' := if_neg hkk
        rw [this, mget_put_other _ _ hkk]; exact hM.lent k'
    · obtain ⟨h6, h7⟩ := hf'o _ _ hk'
      rw [mget_put_other _ _ h6] at hn'
      exact hM.nil k' h' h7 hn'
  refine ⟨_, _, ρn, x, rfl, ⟨u, rfl, rfl, hR⟩, ⟨by have := hg.v.1; simp only [RepH] at this ⊢; exact this.stay hst', hg.v.2⟩, ⟨fun i o ho => ?_, fun i hi => ?_, fun i j L L' g h1 h2 _ _ => ?_, fun i L g h1 h2 hx => ?_⟩, by simp [HV.men], fun i o ho => ?_, hs2, fun i L hi hL => ?_⟩
  · simp only [fob_at, fob_nil] at ho
    split at ho
    · rename_i e0; subst e0; cases ho; exact ⟨b, hf', rfl, hMn⟩
    · cases ho
  · simp only [ρn]
    split
    · rename_i e0; subst e0; simp [fob_at] at hi
    · rfl
  · have hi : i = 0 := by simp only [ρn] at h1; split at h1; assumption; cases h1
    have hj : j = 0 := by simp only [ρn] at h2; split at h2; assumption; cases h2
    rw [hi, hj]
  · simp only [ρn] at h1
    split at h1
    · cases h1
      have := (hownX g h2).2
      obtain ⟨i', L', e1, e2⟩ := this
      exact hS.xb i' L' g e1 e2 hx
    · cases h1
  · simp only [fob_at, fob_nil] at ho
    split at ho
    · rename_i e0; subst e0; cases ho; exact ⟨by omega, trivial⟩
    · cases ho
  · have : i = 0 := by omega
    subst this
    simp only [ρn, if_true, Option.some.injEq] at hL
    subst hL
    exact ⟨_, hρ0, .inr (.inr ⟨_, _, _, rfl, rfl, fun k' h' hk' => ⟨h', (hf'o k' h' hk').2, .inl rfl⟩⟩)⟩

theorem call_mrow {P : Program} {av : List Nat} {f : FuncId} {ob : Ob} {nid id n : Nat} {K : HV → Ob → Prop} {e : TypeId} {sz : Nat} {l : List CV} {R : CV → Prop} {D : MD} {k : List UInt8} (h : HTake P f e sz l R) (hid : ob id = some (.mp e sz D)) (hk : mget D k = some (.row l)) (hn : n = l.length)
    (hav : id ∉ av) (hfree : Free4 ob nid) (hK : ∀ u, R u → K (.c u) (upd ob id (some (.mp e sz (mput D k .lent))))) : HCall P av f [.mrow id k n] ob nid K := by
  have h0 : sub [id] nid 0 = id := rfl
  subst hn
  have hloc : LocOk 1 [HV.mrow 0 k l.length] (fob [(0, .mp e sz D)]) := by
    refine ⟨fun j h => ?_, fun id o h => ?_, by simp [HV.menL, HV.men]⟩
    · have : j = 0 := by omega
      subst this; exact ⟨_, rfl⟩
    · simp only [fob_at, fob_nil] at h
      split at h
      · rename_i e; subst e; cases h; exact ⟨by omega, trivial⟩
      · cases h
  refine ⟨[id], _, _, _, hfn_mrow h hk, hloc, ⟨by simp, by simpa using hav⟩, by simp only [HV.renL, HV.ren, h0], fun j o hj => ?_, fun r lob' hR _ => ?_⟩
  · simp only [fob_at, fob_nil] at hj
    split at hj
    · rename_i e; subst e; cases hj; simpa [HO.ren] using hid
    · cases hj
  · obtain ⟨u, rfl, rfl, hR⟩ := hR
    rw [obAfter_upd hfree]
    exact hK u hR
end Go.Hl

namespace Go.Pl
open Go Go.Hl

theorem Rp.getO (p : Rp) : CV.getAt 64 32 true p.cv = some (dg p.o) := by
  simp [Rp.cv, CV.getAt, CV.getAtL, CV.cells, CV.cellsL, dg_cells, dg_getAt]
theorem Rp.setAll (p : Rp) (x : HV) : CV.setAt 0 97 x p.cv = some x := by
  have := Rp.cells p
  simp only [Rp.cv, CV.cells] at this
  simp only [Rp.cv, CV.setAt, this, and_self, if_true]

/-- The place of the first element with 'p', or -1. -/
def idxP {α : Type} (p : α → Bool) (l : List α) : Int := match l.findIdx? p with | some i => i | none => -1

theorem idxP_hit {α : Type} {p : α → Bool} {l : List α} {i : Nat} (hi : i < l.length) (h : p l[i] = true) (h0 : ∀ x ∈ l.take i, p x = false) : idxP p l = i := by
  unfold idxP
  have : l.findIdx? p = some i := by
    rw [List.findIdx?_eq_some_iff_getElem]
    refine ⟨hi, h, fun j hj => ?_⟩
    have := h0 (l[j]'(by omega)) (by rw [List.mem_take_iff_getElem]; exact ⟨j, by omega, rfl⟩)
    simp [this]
  rw [this]
theorem idxP_none {α : Type} {p : α → Bool} {l : List α} (h0 : ∀ x ∈ l, p x = false) : idxP p l = -1 := by
  unfold idxP
  have : l.findIdx? p = none := by rw [List.findIdx?_eq_none_iff]; exact h0
  rw [this]
theorem idxP_ge {α : Type} {p : α → Bool} {l : List α} : (0 ≤ idxP p l) ↔ l.any p = true := by
  unfold idxP
  cases h : l.findIdx? p with
  | none =>
    rw [List.findIdx?_eq_none_iff] at h
    simp only [List.any_eq_true]
    constructor
    · intro h'; omega
    · rintro ⟨x, hx, hp⟩; rw [h x hx] at hp; cases hp
  | some i =>
    obtain ⟨hi, hp, _⟩ := List.findIdx?_eq_some_iff_getElem.1 h
    simp only [List.any_eq_true]
    exact ⟨fun _ => ⟨l[i], List.getElem_mem hi, hp⟩, fun _ => by omega⟩
/-- What 'idxP' says. -/
theorem idxP_cases {α : Type} (p : α → Bool) (l : List α) : (idxP p l = -1 ∧ ∀ x ∈ l, p x = false) ∨ ∃ (i : Nat) (hi : i < l.length), idxP p l = i ∧ p l[i] = true ∧ ∀ x ∈ l.take i, p x = false := by
  unfold idxP
  cases h : l.findIdx? p with
  | none => rw [List.findIdx?_eq_none_iff] at h; exact .inl ⟨rfl, h⟩
  | some i =>
    obtain ⟨hi, hp, hj⟩ := List.findIdx?_eq_some_iff_getElem.1 h
    refine .inr ⟨i, hi, rfl, hp, fun x hx => ?_⟩
    obtain ⟨j, hj', rfl⟩ := List.mem_take_iff_getElem.1 hx
    have := hj j (by omega)
    simpa using this

/-- The state of slices.DeleteFunc's loop: the first 'i' are what stays of the first 'j'; the rest of the row is what it was. -/
theorem del_step {α : Type} {p : α → Bool} {l r : List α} {i j : Nat} (hr : r.length = l.length) (hij : i < j) (hj : j < l.length) (h1 : r.take i = (l.take j).filter (fun x => !p x)) (h2 : r.drop j = l.drop j) :
    r[j]'(by omega) = l[j] ∧ (p l[j] = true → r.take i = (l.take (j + 1)).filter (fun x => !p x) ∧ r.drop (j + 1) = l.drop (j + 1)) ∧
    (p l[j] = false → (r.set i l[j]).take (i + 1) = (l.take (j + 1)).filter (fun x => !p x) ∧ (r.set i l[j]).drop (j + 1) = l.drop (j + 1)) := by
  have hrj : r[j]'(by omega) = l[j] := by
    have e1 : (r.drop j)[0]? = (l.drop j)[0]? := by rw [h2]
    rw [List.getElem?_drop, List.getElem?_drop, Nat.add_zero, List.getElem?_eq_getElem (by omega), List.getElem?_eq_getElem hj] at e1
    exact Option.some.inj e1
  have e2 : r.drop (j + 1) = l.drop (j + 1) := by
    rw [← List.drop_drop, ← List.drop_drop, h2]
  have e3 : l.take (j + 1) = l.take j ++ [l[j]] := List.take_succ_eq_append_getElem hj
  refine ⟨hrj, fun hp => ⟨?_, e2⟩, fun hp => ⟨?_, ?_⟩⟩
  · rw [e3, List.filter_append, h1]; simp [hp]
  · rw [e3, List.filter_append, ← h1]
    rw [List.take_set, List.take_succ_eq_append_getElem (by omega)]
    simp only [List.filter_cons, hp, Bool.not_false, if_true, List.filter_nil]
    rw [List.set_append_right _ _ (by simp; omega)]
    have : i - (List.take i r).length = 0 := by simp; omega
    rw [this]; rfl
  · rw [List.drop_set_of_lt (by omega)]; exact e2

/-- The greatest time. -/
def maxAt (a : Int) (l : List Rp) : Int := l.foldl (fun a r => if r.at_ > a then r.at_ else a) a
theorem maxAt_succ (a : Int) {l : List Rp} {i : Nat} (h : i < l.length) : maxAt a (l.take (i + 1)) = if l[i].at_ > maxAt a (l.take i) then l[i].at_ else maxAt a (l.take i) := by
  rw [List.take_succ_eq_append_getElem h]
  simp only [maxAt, List.foldl_append, List.foldl_cons, List.foldl_nil]
  rfl
/-- The reports with the greatest time. -/
def latestL (l : List Rp) : List Rp := match l with
  | [] => []
  | x :: _ => l.filter fun r => r.at_ == maxAt x.at_ l
theorem latestL_eq (l : List Rp) (h : 0 < l.length) : latestL l = l.filter fun r => r.at_ == maxAt l[0].at_ l := by
  cases l with
  | nil => simp at h
  | cons x l => rfl
end Go.Pl
