/- HL, part B: objects, states, and how a state lies in a world; the steps that worlds take. By an AI agent. -/
import Derived.WalkKit
import Derived.Deep.MidRow
set_option linter.unusedSimpArgs false
set_option linter.unusedVariables false
set_option linter.defProp false
set_option linter.defProp false
namespace Go
def A0:=@Int.natCast_nonneg
def A1:=@And.intro
def A2:=@List.length_map
def A3:=@List.length_append
def A4:=@Int.ofNat_lt
def A5:=@Int.toNat_natCast
def A6:=@Bool.and_eq_true
def A7:=@if_neg
def A8:=@Go.IntWalk.i64_in
def A9:=@Bool.false_or
def B0:=@List.length_cons
def B1:=@Bool.true_and
def B2:=@List.drop_eq_getElem_cons
def B3:=@List.take_succ_eq_append_getElem
def B4:=@Bool.true_or
def B5:=@List.getElem?_eq_getElem
def B6:=@if_pos
def B7:=@Bool.false_and
def B8:=@List.length_drop
def B9:=@decide_eq_true_eq
def C0:=@List.getElem_mem
def C4:=@Nat.le_of_ble_eq_true
def C5:=@List.map_append
def C6:=@decide_eq_false_iff_not
def C7:=@List.getD_eq_getElem?_getD
def C8:=@Option.map_eq_some_iff
def C9:=@Bool.and_false
def D0:=@List.map_cons
def D3:=@Go.run_underlying
def D4:=@Bool.and_true
def D5:=@List.eq_nil_of_length_eq_zero
def D6:=@Option.some.injEq
def D7:=@Bool.not_false
def D8:=@Bool.not_true
def D9:=@List.length_take
def E0:=@Option.getD_some
def E1:=@Bool.or_false
def E2:=@List.take_length
def E3:=@Bool.and_self
def E4:=@Go.Result.andThen_ok
def E5:=@List.length_nil
def E6:=@List.take_of_length_le
def E7:=@Bool.false_eq_true
def E8:=@List.append_assoc
def E9:=@List.mem_cons
def F0:=@Bool.or_true
def F1:=@Bool.or_self
def F2:=@Nat.le_refl
def F3:=@Nat.zero_add
def F4:=@List.mem_append
def F5:=@List.mem_cons_of_mem
def F6:=@List.mem_cons_self
def F7:=@if_true
def F8:=@Go.Sem.run_bind
def F9:=@Nat.zero_le
def G0:=@List.mem_singleton
def G1:=@List.mem_of_mem_drop
def G2:=@Option.isSome_some
def G3:=@Option.isSome_iff_exists
def G4:=@List.cons.injEq
def G5:=@Nat.min_eq_left
def G6:=@Array.getElem?_eq_some_iff
def G7:=@Nat.lt_of_lt_of_le
def G8:=@Nat.sub_zero
def G9:=@beq_iff_eq
def H0:=@Nat.lt_or_ge
def H1:=@List.map_nil
def H2:=@Int.ofNat_le
def H3:=@Int.toNat_zero
def H4:=@beq_false_of_ne
def H5:=@List.mem_of_mem_take
def H6:=@List.all_eq_true
def H7:=@Nat.lt_succ_self
def H8:=@Option.map_some
def H9:=@List.drop_eq_nil_of_le
def I0:=@beq_eq_false_iff_ne
def I1:=@List.flatMap_cons
def I2:=@List.getElem?_eq_some_iff
def I3:=@List.nodup_nil
def I4:=@Array.toArray_toList
def I5:=@Go.Sem.run_pure
def I6:=@List.size_toArray
def I7:=@List.not_mem_nil
def I8:=@Nat.mul_le_mul_right
def I9:=@List.nil_append
def J0:=@List.length_pos_iff
def J1:=@List.findIdx?_eq_some_iff_getElem
def J2:=@if_false
def J4:=@List.cons_append
def J5:=@List.mem_append_right
def J6:=@List.append_nil
def J7:=@and_self
def J8:=@Bool.not_eq_true'
def J9:=@Option.isSome_none
def K0:=@Nat.add_mul
def K3:=@List.map_take
def K4:=@List.mem_or_eq_of_mem_set
def K5:=@List.flatMap_nil
def K6:=@List.mem_flatMap
def K7:=@Bool.or_eq_false_iff
def K8:=@Array.getD_eq_getD_getElem?
def K9:=@Bool.and_eq_false_iff
def L3:=@List.mem_map
def L4:=@List.getElem_of_mem
def L5:=@Nat.succ_pos
def L6:=@List.map_eq_nil_iff
def L7:=@List.drop_zero
def L8:=@and_true
def L9:=@beq_self_eq_true
def M1:=@List.map_drop
def M2:=@List.length_singleton
def M3:=@List.getElem?_cons_zero
def M4:=@List.getElem?_append_right
def M5:=@List.mem_append_left
def M6:=@List.length_set
def M7:=@decide_eq_false
def M8:=@List.getElem?_append_left
def M9:=@List.mapM_cons
def N0:=@Nat.add_zero
def N1:=@List.findIdx?_cons
def N2:=@List.getElem?_cons_succ
def N3:=@List.getElem?_map
def N4:=@List.map_set
def N5:=@Go.MapKept.run_getObj_map
def N6:=@Array.length_toList
def N7:=@List.map_congr_left
def N8:=@Bool.or_eq_true
def N9:=@UInt8.toNat_inj
def O0:=@List.findIdx?_eq_none_iff
def O1:=@List.getElem?_toArray
def O2:=@List.getElem?_take
def O3:=@Option.getD_none
def O4:=@Nat.add_comm
def O5:=@Go.heap_alloc_new
def O6:=@decide_eq_true
def O7:=@List.dropLast_concat_getLast
def O8:=@List.getElem_cons_zero
def O9:=@Array.toList_map
def P0:=@List.set_cons_succ
def P1:=@or_false
def P2:=@List.take_zero
def P3:=@Int.tmod_lt_of_pos
def P4:=@Array.mem_of_getElem?
def P5:=@List.getElem?_eq_none
def P6:=@Option.some.inj
def P7:=@List.map_map
def P8:=@Go.IntWalk.u8_in
def P9:=@List.take_succ_cons
def Q0:=@List.flatMap_append
def Q1:=@List.getD_cons_zero
def Q2:=@Go.RowKit.Below.heap_alloc
def Q3:=@List.mem_range
def Q4:=@Go.wpIn_mono
def Q5:=@Int.one_nonneg
def Q6:=@Go.setRow_other
def Q7:=@Nat.not_lt_zero
def Q8:=@List.headD_cons
def Q9:=@Int.natCast_pos
def R1:=@Prod.mk.injEq
def R3:=@List.take_append_drop
def R4:=@UInt8.le_iff_toNat_le
def R5:=@List.flatten_cons
def R6:=@of_decide_eq_true
def R7:=@Go.setRow_heap
def R8:=@List.range_eq_range'
def R9:=@List.take_take
def S1:=@Int.le_refl
def S2:=@List.mem_iff_getElem
def S3:=@List.drop_length
def S4:=@List.any_eq_true
def S5:=@Nat.le_of_lt
def S6:=@Array.mapM_eq_mapM_toList
def S7:=@Go.ByteArray.toList_mk
def S8:=@bne_eq_false_iff_eq
def S9:=@Nat.add_assoc
def T1:=@Option.map_none
def T7:=@Bool.eq_iff_iff
def T8:=@Bool.not_eq_false'
def T9:=@Int.lt_tmod_of_pos
def U0:=@Nat.add_sub_cancel
def U1:=@Nat.mul_one
def U2:=@List.length_eq_zero_iff
def U3:=@not_false_eq_true
def U4:=@Option.map_eq_none_iff
def U5:=@Array.all_eq_true_iff_forall_mem
def U6:=@List.findIdx?_nil
def U7:=@List.getElem_cons_succ
def U8:=@Nat.sub_self
def U9:=@Array.getElem?_toList
def V0:=@List.length_replicate
def V1:=@List.set_append_right
def V2:=@List.range'_succ
def V3:=@Nat.lt_irrefl
def V4:=@Go.Oper.semAt_eq
def V5:=@true_and
def V6:=@Go.setRow_size
def V7:=@List.mem_of_getElem?
def V8:=@Go.fenced_calm
def V9:=@List.take_left'
def W5:=@Int.max_eq_left
def W6:=@List.getElem?_range
def W7:=@Ne.symm
def W8:=@Iff.rfl
def W9:=@List.set_cons_zero
def X0:=@List.getElem?_drop
def X1:=@Go.grownCap_le_maxLen
def X2:=@List.take_left
def X3:=@Array.getElem?_append_left
def X4:=@List.contains_cons
def X5:=@List.tail_cons
def X6:=@Option.isSome_eq_false_iff
def X7:=@List.pairwise_iff_getElem
def X8:=@Go.ChangeShapes.trodAll_cons
def X9:=@Decidable.byContradiction
def Y0:=@Option.isNone_iff_eq_none
def Y1:=@Go.run_storeCells_at
def Y2:=@Go.heap_alloc_old
def Y3:=@Array.size_append
def Y4:=@Go.World.ownsRow_nil
def Y5:=@decide_true
def Y6:=@List.length_range
def Y7:=@Go.ChangeShapes.trodAll_nil
def Y8:=@Go.ChangeShapes.trodAll_mk0
def Y9:=@List.range'_eq_map_range
def Z0:=@Option.bind_eq_some_iff
def Z1:=@Nat.le_mul_of_pos_right
def Z2:=@List.mem_toArray
def Z3:=@Option.bind_some
def Z4:=@Go.World.size_alloc
def Z5:=@List.ext_getElem
def Z6:=@List.getLast_eq_getElem
def Z7:=@Nat.succ_mul
def Z8:=@Go.MapKept.run_setObj_map
def Z9:=@Nat.sub_le
def AA:=@List.nodup_cons
def AB:=@List.range_succ
def AC:=@Int.tmod_nonneg
def AD:=@List.contains_iff_mem
def AF:=@Go.cell_of_row
def AG:=@ne_eq
def AH:=@Go.size_zeroCells
def AJ:=@List.drop_take
def AK:=@List.forall_mem_cons
def AL:=@Nat.pow_le_pow_right
def AM:=@Option.map_map
def AN:=@List.contains_append
def AO:=@List.set_append_left
def AP:=@Bool.and_assoc
def AQ:=@Go.mem_ready
def AR:=@List.drop_succ_cons
def AS:=@List.replicate_succ
def AT:=@Array.toList_append
def AV:=@List.toList_toArray
def AW:=@Go.StepsIn.trans
def AY:=@Go.mapM_some_get
def AZ:=@Nat.not_lt
def BB:=@List.mem_replicate
def BC:=@List.find?_eq_none
def BD:=@UInt8.toNat_ofNat'
def BE:=@Nat.pos_of_ne_zero
def BF:=@Nat.sub_add_cancel
def BH:=@Nat.le_trans
def BI:=@List.ext_getElem?
def BJ:=@List.getElem?_set
def BK:=@Decidable.not_not
def BL:=@Nat.add_left_comm
def BM:=@Array.toList_push
def BN:=@implies_true
def BO:=@List.sum_nil
def BP:=@List.getLast_cons
def BQ:=@List.contains_nil
def BR:=@Bool.eq_false_iff
def BS:=@List.reverse_cons
def CE:=@Go.grownCap_ge
def CH:=@Go.getD_set_ne
def CZ:=@Prod.ext
def EG:=@dif_pos
def EJ:=@Eq.symm
end Go
namespace Go.Hl
open Go
inductive CV where
 |bool (b:Bool)
 |int (k:IntKind) (n:Int)
 |str (s:List UInt8)
 |agg (l:List CV)
 |nils
 |slc (l:List CV)
 |rp (v:CV)
 |fn (f:FuncId)
 |nilp|nilf|nili|nilm
 |ifc (t:TypeId) (v:CV)
 deriving Inhabited
mutual
def CV.cells :CV→Nat
 | .agg l=>CV.cellsL l
 |_=>1
def CV.cellsL :List CV→Nat
 |[]=>0
 |v::vs=>v.cells+CV.cellsL vs
end
def CV.isAgg :CV→Bool
 | .agg _=>true
 |_=>false
def eP (agg:Bool)(cs:List Value):Value:=if agg then .agg cs.toArray else cs.headD (.tuple #[])
def Reads (w:World)(O:Nat→Prop)(ad:Addr)(xs:List Value):Prop:=
 (∀j u,xs[j]? =some u→w.cell? (ad.add j)=some u)∧(xs≠[]→ ¬O ad.block)
mutual
def RepC (w:World)(O:Nat→Prop):CV→List Value→Prop
 | .bool b,cs=>cs=[.bool b]
 | .int k n,cs=>cs=[.int k n]
 | .str s,cs=>cs=[.string ⟨s.toArray⟩]
 | .agg l,cs=>RepL w O l cs
 | .nils,cs=>cs=[.slice none 0 0]
 | .slc l,cs=> ∃a cap xs sz,cs=[.slice a l.length cap]∧RepL w O l xs∧(∀v∈l,v.cells=sz)∧l.length≤cap∧(a=none→cap=0)∧ ∀ad,a=some ad→Reads w O ad xs
 | .rp v,cs=> ∃ad xs,cs=[.pointer (some ad)]∧RepC w O v xs∧Reads w O ad xs
 | .fn f,cs=>cs=[.func (.func f) #[] #[]]
 | .nilp,cs=>cs=[.pointer none]
 | .nilf,cs=>cs=[.nilFunc]
 | .nili,cs=>cs=[.nilIface]
 | .nilm,cs=>cs=[.map none]
 | .ifc t v,cs=> ∃xs,RepC w O v xs∧cs=[.iface t (eP v.isAgg xs)]
def RepL (w:World)(O:Nat→Prop):List CV→List Value→Prop
 |[],cs=>cs=[]
 |v::vs,cs=> ∃c1 c2,cs=c1++c2∧RepC w O v c1∧RepL w O vs c2
end
theorem eQ {w:World}{O:Nat→Prop}: ∀{l1 l2:List CV} {cs:List Value},RepL w O (l1++l2) cs↔ ∃c1 c2,cs=c1++c2∧RepL w O l1 c1∧RepL w O l2 c2
 |[],l2,cs=>by simp only[List.nil_append,RepL];grind
 |v::l1,l2,cs=>by
  simp only[List.cons_append,RepL,eQ (l1:=l1)];grind
mutual
theorem bS {w:World}{O:Nat→Prop}: ∀{v:CV} {cs:List Value},RepC w O v cs→cs.length=v.cells
 | .agg l,cs,h=>by simp only[RepC]at h;simpa[CV.cells]using oC h
 | .bool _,cs,h=>by grind[RepC,CV.cells]
 | .int _ _,cs,h=>by grind[RepC,CV.cells]
 | .str _,cs,h=>by grind[RepC,CV.cells]
 | .nils,cs,h=>by grind[RepC,CV.cells]
 | .slc _,cs,h=>by simp only[RepC]at h;obtain⟨a,cap,xs,sz,rfl,_⟩:=h;simp[CV.cells]
 | .rp _,cs,h=>by simp only[RepC]at h;obtain⟨a,xs,rfl,_⟩:=h;simp[CV.cells]
 | .fn _,cs,h=>by grind[RepC,CV.cells]
 | .nilp,cs,h=>by grind[RepC,CV.cells]
 | .nilf,cs,h=>by grind[RepC,CV.cells]
 | .nili,cs,h=>by grind[RepC,CV.cells]
 | .nilm,cs,h=>by grind[RepC,CV.cells]
 | .ifc _ _,cs,h=>by simp only[RepC]at h;obtain⟨xs,_,rfl⟩:=h;simp[CV.cells]
theorem oC {w:World}{O:Nat→Prop}: ∀{l:List CV} {cs:List Value},RepL w O l cs→cs.length=CV.cellsL l
 |[],cs,h=>by grind[RepL,CV.cellsL]
 |v::vs,cs,h=>by
  simp only[RepL]at h;obtain⟨c1,c2,rfl,h1,h2⟩:=h;simp[CV.cellsL,bS h1,oC h2]
end
def CellsAt (w:World)(b:Nat):Prop:= ∃cs t fz,w.heap[b]? =some (.cells cs t fz)
theorem CellsAt.lt {w:World}{b:Nat}(h:CellsAt w b):b<w.heap.size:=let⟨_,_,_,h⟩:=h;(Array.getElem?_eq_some_iff.1 h).1
theorem uD {w:World}{ad:Addr}{u:Value}(h:w.cell? ad=some u):CellsAt w ad.block:=by
 simp only[World.cell?]at h;split at h
 · rename_i cs t fz hb;exact⟨cs,t,fz,hb⟩
 grind
structure Stay (w:World)(O:Nat→Prop)(w':World)(O':Nat→Prop):Prop where
 block: ∀b,CellsAt w b→ ¬O b→w'.heap[b]? =w.heap[b]? ∧ ¬O' b
theorem Reads.stay {w w':World}{O O':Nat→Prop}(hs:Stay w O w' O'){ad:Addr}{xs:List Value}(h:Reads w O ad xs):Reads w' O' ad xs:=by
 by_cases hx:xs=[]
 · subst hx;exact⟨by simp,by simp⟩
 ·
  have hO:=h.2 hx;have hb:CellsAt w ad.block:=by
   cases xs with
   |nil=>grind
   |cons u us=>
    have:=uD (h.1 0 u (by simp));grind[Addr.add]
  obtain⟨h1,h2⟩:=hs.block _ hb hO;refine⟨fun j u hj=>?_,fun _=>h2⟩;have:=h.1 j u hj;grind[Addr.add,World.cell?_of_block]
mutual
theorem RepC.stay {w w':World}{O O':Nat→Prop}(hs:Stay w O w' O'): ∀{v:CV} {cs:List Value},RepC w O v cs→RepC w' O' v cs
 | .agg l,cs,h=>by simp only[RepC]at h⊢;exact RepL.stay hs h
 | .bool _,cs,h=>by simpa only[RepC]using h
 | .int _ _,cs,h=>by simpa only[RepC]using h
 | .str _,cs,h=>by simpa only[RepC]using h
 | .nils,cs,h=>by simpa only[RepC]using h
 | .slc l,cs,h=>by
  simp only[RepC]at h⊢;obtain⟨a,cap,xs,sz,h1,h2,h3,h4,h5,h6⟩:=h;exact⟨a,cap,xs,sz,h1,RepL.stay hs h2,h3,h4,h5,fun ad he=>(h6 ad he).stay hs⟩
 | .rp v,cs,h=>by
  simp only[RepC]at h⊢;obtain⟨a,xs,h1,h2,h3⟩:=h;exact⟨a,xs,h1,RepC.stay hs h2,h3.stay hs⟩
 | .fn _,cs,h=>by simpa only[RepC]using h
 | .nilp,cs,h=>by simpa only[RepC]using h
 | .nilf,cs,h=>by simpa only[RepC]using h
 | .nili,cs,h=>by simpa only[RepC]using h
 | .nilm,cs,h=>by simpa only[RepC]using h
 | .ifc _ v,cs,h=>by
  simp only[RepC]at h⊢;obtain⟨xs,h1,h2⟩:=h;exact⟨xs,RepC.stay hs h1,h2⟩
theorem RepL.stay {w w':World}{O O':Nat→Prop}(hs:Stay w O w' O'): ∀{l:List CV} {cs:List Value},RepL w O l cs→RepL w' O' l cs
 |[],cs,h=>by simpa only[RepL]using h
 |v::vs,cs,h=>by
  simp only[RepL]at h⊢;obtain⟨c1,c2,h1,h2,h3⟩:=h;exact⟨c1,c2,h1,RepC.stay hs h2,RepL.stay hs h3⟩
end
inductive HV where
 |junk
 |c (v:CV)
 |agg (l:List HV)
 |own (id n:Nat)
 |ptr (id off:Nat)
 |eptr (id n i sz off:Nat)
 |osl (id n lo sz hi:Nat)
 |mapr (id:Nat)
 |mrow (id:Nat) (k:List UInt8) (n:Nat)
 |clo (f:FuncId) (caps:List HV)
 |opq (v:Value)
 |tup (l:List HV)
 deriving Inhabited
inductive Loc where
 |blk (b:Nat)
 |hdr (v:Value)
 |mp (b:Nat) (hf:List UInt8→Option Value)
def Loc.has :Loc→Nat→Prop
 | .blk b,b'=>b'=b
 | .hdr v,b'=>v.ownBlock=some b'
 | .mp b hf,b'=>b'=b∨ ∃k h,hf k=some h∧h.ownBlock=some b'
abbrev Env :=Nat→Option Loc
def Own (ρ:Env)(b:Nat):Prop:= ∃id L,ρ id=some L∧L.has b
def Owned (ρ:Env)(X:Nat→Prop)(b:Nat):Prop:=X b∨Own ρ b
def hlen :Value→Nat
 | .slice _ n _=>n
 |_=>0
mutual
def HV.cells :HV→Nat
 | .c v=>v.cells
 | .agg l=>HV.cellsL l
 |_=>1
def HV.cellsL :List HV→Nat
 |[]=>0
 |v::vs=>v.cells+HV.cellsL vs
end
def HV.isAgg :HV→Bool
 | .c v=>v.isAgg
 | .agg _=>true
 |_=>false
def Value.isAgg' :Value→Bool
 | .agg _=>true
 |_=>false
mutual
def RepH (w:World)(ρ:Env)(O:Nat→Prop):HV→List Value→Prop
 | .junk,_=>False
 | .c v,cs=>RepC w O v cs
 | .agg l,cs=>RepHL w ρ O l cs
 | .own id n,cs=> ∃x,cs=[x]∧x.oneCell'=true∧ ∀h,ρ id=some (.hdr h)→n≤hlen h∧(hlen h=n→x=h)
 | .ptr id off,cs=> ∃x,cs=[x]∧x.oneCell'=true∧ ∀b,ρ id=some (.blk b)→x= .pointer (some ⟨b,off,none⟩)
 | .eptr id n i sz off,cs=> ∃x,cs=[x]∧x.oneCell'=true∧ ∀h,ρ id=some (.hdr h)→n≤hlen h∧(hlen h=n→ ∀g cap,h= .slice (some ⟨g,0,none⟩) n cap→x= .pointer (some ⟨g,i*sz+off,none⟩))
 | .osl id n i sz off,cs=> ∃x,cs=[x]∧x.oneCell'=true∧(∀h,ρ id=some (.hdr h)→n≤hlen h∧(hlen h=n→ ∀g cap,h= .slice (some ⟨g,0,none⟩) n cap→x= .slice (some ⟨g,if cap=i then 0 else i*sz,none⟩) (off-i) (cap-i)))∧
  ∀b,ρ id=some (.blk b)→x= .slice (some ⟨b,if n=i then 0 else i*sz,none⟩) (off-i) (n-i)
 | .mapr id,cs=> ∃x,cs=[x]∧x.oneCell'=true∧ ∀b hf,ρ id=some (.mp b hf)→x= .map (some b)
 | .mrow id k n,cs=> ∃x,cs=[x]∧x.oneCell'=true∧ ∀b hf h,ρ id=some (.mp b hf)→hf k=some h→n≤hlen h∧(hlen h=n→x=h)
 | .clo f caps,cs=> ∃xs,cs=[.func (.func f) #[] xs.toArray]∧RepHV w ρ O caps xs
 | .opq v,cs=>cs=[v]∧v.oneCell'=true
 | .tup l,cs=> ∃xs,cs=[.tuple xs.toArray]∧RepHV w ρ O l xs
def RepHL (w:World)(ρ:Env)(O:Nat→Prop):List HV→List Value→Prop
 |[],cs=>cs=[]
 |v::vs,cs=> ∃c1 c2,cs=c1++c2∧RepH w ρ O v c1∧RepHL w ρ O vs c2
def RepHV (w:World)(ρ:Env)(O:Nat→Prop):List HV→List Value→Prop
 |[],xs=>xs=[]
 |v::vs,xs=> ∃y ys,xs=y::ys∧(RepH w ρ O v y.cells.toList∧v.isAgg=Value.isAgg' y)∧RepHV w ρ O vs ys
end
def RepV (w:World)(ρ:Env)(O:Nat→Prop)(v:HV)(x:Value):Prop:=RepH w ρ O v x.cells.toList∧v.isAgg=Value.isAgg' x
theorem bY {w:World}{ρ:Env}{O:Nat→Prop}{v:HV}{vs:List HV}{xs:List Value}:
  RepHV w ρ O (v::vs) xs↔ ∃y ys,xs=y::ys∧RepV w ρ O v y∧RepHV w ρ O vs ys:=by simp only[RepHV,RepV]
mutual
theorem bZ {w:World}{ρ:Env}{O:Nat→Prop}: ∀{v:HV} {cs:List Value},RepH w ρ O v cs→cs.length=v.cells
 | .junk,cs,h=>by simp only[RepH]at h
 | .c v,cs,h=>by grind[RepH,HV.cells,bS]
 | .agg l,cs,h=>by simp only[RepH]at h;simpa[HV.cells]using mK h
 | .own ..,cs,h=>by simp only[RepH]at h;obtain⟨x,rfl,_⟩:=h;simp[HV.cells]
 | .ptr ..,cs,h=>by simp only[RepH]at h;obtain⟨x,rfl,_⟩:=h;simp[HV.cells]
 | .eptr ..,cs,h=>by simp only[RepH]at h;obtain⟨x,rfl,_⟩:=h;simp[HV.cells]
 | .osl ..,cs,h=>by simp only[RepH]at h;obtain⟨x,rfl,_⟩:=h;simp[HV.cells]
 | .mapr ..,cs,h=>by simp only[RepH]at h;obtain⟨x,rfl,_⟩:=h;simp[HV.cells]
 | .mrow ..,cs,h=>by simp only[RepH]at h;obtain⟨x,rfl,_⟩:=h;simp[HV.cells]
 | .clo ..,cs,h=>by simp only[RepH]at h;obtain⟨x,rfl,_⟩:=h;simp[HV.cells]
 | .opq _,cs,h=>by grind[RepH,HV.cells]
 | .tup ..,cs,h=>by simp only[RepH]at h;obtain⟨x,rfl,_⟩:=h;simp[HV.cells]
theorem mK {w:World}{ρ:Env}{O:Nat→Prop}: ∀{l:List HV} {cs:List Value},RepHL w ρ O l cs→cs.length=HV.cellsL l
 |[],cs,h=>by grind[RepHL,HV.cellsL]
 |v::vs,cs,h=>by
  simp only[RepHL]at h;obtain⟨c1,c2,rfl,h1,h2⟩:=h;simp[HV.cellsL,bZ h1,mK h2]
end
theorem sD {w:World}{ρ:Env}{O:Nat→Prop}: ∀{l1 l2:List HV} {cs:List Value},RepHL w ρ O (l1++l2) cs↔ ∃c1 c2,cs=c1++c2∧RepHL w ρ O l1 c1∧RepHL w ρ O l2 c2
 |[],l2,cs=>by simp only[List.nil_append,RepHL];grind
 |v::l1,l2,cs=>by
  simp only[List.cons_append,RepHL,sD (l1:=l1)];grind
theorem sF {w:World}{ρ:Env}{O:Nat→Prop}: ∀{l:List CV} {cs:List Value},RepHL w ρ O (l.map .c) cs↔RepL w O l cs
 |[],cs=>by simp[RepHL,RepL]
 |v::vs,cs=>by simp only[List.map_cons,RepHL,RepL,RepH,sF (l:=vs)]
/- The ids that a value mentions all lie in 'M'. -/
mutual
def HV.men (M:Nat→Prop):HV→Prop
 | .junk=>True
 | .c _=>True
 | .agg l=>HV.menL M l
 | .own id _=>M id
 | .ptr id _=>M id
 | .eptr id _ _ _ _=>M id
 | .osl id _ _ _ _=>M id
 | .mapr id=>M id
 | .mrow id _ _=>M id
 | .clo _ caps=>HV.menL M caps
 | .opq _=>True
 | .tup l=>HV.menL M l
def HV.menL (M:Nat→Prop):List HV→Prop
 |[]=>True
 |v::vs=>v.men M∧HV.menL M vs
end
mutual
theorem HV.men_mono {M M':Nat→Prop}(h: ∀i,M i→M' i): ∀{v:HV},v.men M→v.men M'
 | .junk,_=>by simp[HV.men]
 | .c _,_=>by simp[HV.men]
 | .agg l,hv=>by simp only[HV.men]at hv⊢;exact HV.menL_mono h hv
 | .own ..,hv=>by simp only[HV.men]at hv⊢;exact h _ hv
 | .ptr ..,hv=>by simp only[HV.men]at hv⊢;exact h _ hv
 | .eptr ..,hv=>by simp only[HV.men]at hv⊢;exact h _ hv
 | .osl ..,hv=>by simp only[HV.men]at hv⊢;exact h _ hv
 | .mapr ..,hv=>by simp only[HV.men]at hv⊢;exact h _ hv
 | .mrow ..,hv=>by simp only[HV.men]at hv⊢;exact h _ hv
 | .clo _ caps,hv=>by simp only[HV.men]at hv⊢;exact HV.menL_mono h hv
 | .opq _,_=>by simp[HV.men]
 | .tup l,hv=>by simp only[HV.men]at hv⊢;exact HV.menL_mono h hv
theorem HV.menL_mono {M M':Nat→Prop}(h: ∀i,M i→M' i): ∀{l:List HV},HV.menL M l→HV.menL M' l
 |[],_=>by simp[HV.menL]
 |v::vs,hv=>by simp only[HV.menL]at hv⊢;exact⟨HV.men_mono h hv.1,HV.menL_mono h hv.2⟩
end
theorem HV.menL_append {M:Nat→Prop}: ∀{l1 l2:List HV},HV.menL M (l1++l2)↔HV.menL M l1∧HV.menL M l2
 |[],l2=>by simp[HV.menL]
 |v::l1,l2=>by simp_all[List.cons_append,HV.menL,HV.menL_append,and_assoc]
theorem HV.menL_c {M:Nat→Prop}: ∀{l:List CV},HV.menL M (l.map .c)
 |[]=>by simp[HV.menL]
 |v::vs=>by simp_all[List.map_cons,HV.menL,HV.men,true_and,HV.menL_c]
def Moves (M:Nat→Prop)(ρ ρ':Env):Prop:=
 ∀id L',M id→ρ' id=some L'→ ∃L,ρ id=some L∧(L=L'∨(∃h h',L= .hdr h∧L'= .hdr h'∧hlen h<hlen h')∨ ∃b f f',L= .mp b f∧L'= .mp b f'∧ ∀k h',f' k=some h'→ ∃h,f k=some h∧(h=h'∨hlen h<hlen h'))
theorem Moves.refl (M:Nat→Prop)(ρ:Env):Moves M ρ ρ:=fun _ L' _ h=>⟨L',h,.inl rfl⟩
theorem Moves.trans {M M':Nat→Prop}{a b c:Env}(hM: ∀i,M i→M' i)(h:Moves M a b)(h':Moves M' b c):Moves M a c:=by
 intro id L hm hc;obtain⟨L1,h1,h2⟩:=h' id L (hM _ hm) hc;obtain⟨L0,h3,h4⟩:=h id L1 hm h1;refine⟨L0,h3,?_⟩;rcases h2 with rfl|⟨x,y,rfl,rfl,hxy⟩|⟨x,y,z,rfl,rfl,hfz⟩
 · grind
 · grind
 ·
  rcases h4 with rfl|⟨_,_,_,e,_⟩|⟨_,f0,_,rfl,e,hf0⟩
  · grind
  · cases e
  · cases e;grind
mutual
theorem RepH.stay {w w':World}{ρ ρ':Env}{O O':Nat→Prop}{M:Nat→Prop}(hs:Stay w O w' O')(hm:Moves M ρ ρ'): ∀{v:HV} {cs:List Value},v.men M→RepH w ρ O v cs→RepH w' ρ' O' v cs
 | .junk,cs,_,h=>by simp only[RepH]at h
 | .c v,cs,_,h=>by simp only[RepH]at h⊢;exact h.stay hs
 | .agg l,cs,hv,h=>by simp only[RepH,HV.men]at h hv⊢;exact RepHL.stay hs hm hv h
 | .own id n,cs,hv,h=>by
  simp only[RepH,HV.men]at h hv⊢;obtain⟨x,h1,h0,h2⟩:=h;refine⟨x,h1,h0,fun y hy=>?_⟩;obtain⟨L,hL,e⟩:=hm id _ hv hy;rcases e with rfl|⟨a,b,rfl,e2,hlt⟩|⟨b',f,f',rfl,e3,hff⟩
  · exact h2 y hL
  · cases e2;have:=(h2 a hL).1;exact⟨by omega,fun hn=>by omega⟩
  · cases e3
 | .ptr id off,cs,hv,h=>by
  simp only[RepH,HV.men]at h hv⊢;obtain⟨x,h1,h0,h2⟩:=h;refine⟨x,h1,h0,fun y hy=>?_⟩;obtain⟨L,hL,e⟩:=hm id _ hv hy;rcases e with rfl|⟨a,b,rfl,e2,hlt⟩|⟨b',f,f',rfl,e3,hff⟩
  · exact h2 y hL
  · cases e2
  · cases e3
 | .eptr id n _ _ _,cs,hv,h=>by
  simp only[RepH,HV.men]at h hv⊢;obtain⟨x,h1,h0,h2⟩:=h;refine⟨x,h1,h0,fun y hy=>?_⟩;obtain⟨L,hL,e⟩:=hm id _ hv hy;rcases e with rfl|⟨a,b,rfl,e2,hlt⟩|⟨b',f,f',rfl,e3,hff⟩
  · exact h2 y hL
  · cases e2;have:=(h2 a hL).1;exact⟨by omega,fun hn=>by omega⟩
  · cases e3
 | .osl id n _ _ _,cs,hv,h=>by
  simp only[RepH,HV.men]at h hv⊢;obtain⟨x,h1,h0,h2,h3⟩:=h;refine⟨x,h1,h0,fun y hy=>?_,fun y hy=>?_⟩
  ·
   obtain⟨L,hL,e⟩:=hm id _ hv hy;rcases e with rfl|⟨a,b,rfl,e2,hlt⟩|⟨b',f,f',rfl,e3,hff⟩
   · exact h2 y hL
   · cases e2;have:=(h2 a hL).1;exact⟨by omega,fun hn=>by omega⟩
   · cases e3
  ·
   obtain⟨L,hL,e⟩:=hm id _ hv hy;rcases e with rfl|⟨a,b,rfl,e2,hlt⟩|⟨b',f,f',rfl,e3,hff⟩
   · exact h3 y hL
   · cases e2
   · cases e3
 | .mapr id,cs,hv,h=>by
  simp only[RepH,HV.men]at h hv⊢;obtain⟨x,h1,h0,h2⟩:=h;refine⟨x,h1,h0,fun y hf hy=>?_⟩;obtain⟨L,hL,e⟩:=hm id _ hv hy;rcases e with rfl|⟨a,b,rfl,e2,hlt⟩|⟨b',f,f',rfl,e3,hff⟩
  · exact h2 y _ hL
  · cases e2
  · cases e3;exact h2 _ _ hL
 | .mrow id k n,cs,hv,h=>by
  simp only[RepH,HV.men]at h hv⊢;obtain⟨x,h1,h0,h2⟩:=h;refine⟨x,h1,h0,fun b' hf y hy hk=>?_⟩;obtain⟨L,hL,e⟩:=hm id _ hv hy;rcases e with rfl|⟨a,b,rfl,e2,hlt⟩|⟨b2,f,f',rfl,e3,hff⟩
  · exact h2 _ _ _ hL hk
  · cases e2
  ·
   cases e3;obtain⟨h3,e4,e5⟩:=hff k y hk;obtain⟨e6,e7⟩:=h2 _ _ _ hL e4;rcases e5 with rfl|e5
   · exact⟨e6,e7⟩
   · exact⟨by omega,fun _=>by omega⟩
 | .clo f caps,cs,hv,h=>by
  simp only[RepH,HV.men]at h hv⊢;obtain⟨xs,h1,h2⟩:=h;exact⟨xs,h1,RepHV.stay hs hm hv h2⟩
 | .opq _,cs,hv,h=>by simpa only[RepH]using h
 | .tup l,cs,hv,h=>by
  simp only[RepH,HV.men]at h hv⊢;obtain⟨xs,h1,h2⟩:=h;exact⟨xs,h1,RepHV.stay hs hm hv h2⟩
theorem RepHL.stay {w w':World}{ρ ρ':Env}{O O':Nat→Prop}{M:Nat→Prop}(hs:Stay w O w' O')(hm:Moves M ρ ρ'): ∀{l:List HV} {cs:List Value},HV.menL M l→RepHL w ρ O l cs→RepHL w' ρ' O' l cs
 |[],cs,_,h=>by simpa only[RepHL]using h
 |v::vs,cs,hv,h=>by
  simp only[RepHL,HV.menL]at h hv⊢;obtain⟨c1,c2,h1,h2,h3⟩:=h;exact⟨c1,c2,h1,RepH.stay hs hm hv.1 h2,RepHL.stay hs hm hv.2 h3⟩
theorem RepHV.stay {w w':World}{ρ ρ':Env}{O O':Nat→Prop}{M:Nat→Prop}(hs:Stay w O w' O')(hm:Moves M ρ ρ'): ∀{l:List HV} {xs:List Value},HV.menL M l→RepHV w ρ O l xs→RepHV w' ρ' O' l xs
 |[],cs,_,h=>by simpa only[RepHV]using h
 |v::vs,cs,hv,h=>by
  simp only[RepHV,HV.menL]at h hv⊢;obtain⟨y,ys,h1,⟨h2,h2'⟩,h3⟩:=h;exact⟨y,ys,h1,⟨RepH.stay hs hm hv.1 h2,h2'⟩,RepHV.stay hs hm hv.2 h3⟩
end
theorem lN (ag:Bool)(x:Value)(h:Value.isAgg' x=ag):eP ag x.cells.toList=x:=by
 cases x<;>simp[Value.isAgg']at h<;>subst h<;>simp[eP,Value.cells]
theorem wR (cs:List Value):(eP true cs).cells.toList=cs:=by simp[eP,Value.cells]
theorem cells_single {x:Value}(h:Value.isAgg' x=false):x.cells= #[x]:=by cases x<;>simp_all[Value.isAgg',Value.cells]
theorem wS (cs:List Value):Value.isAgg' (eP true cs)=true:=by simp[eP,Value.isAgg']
mutual
theorem aO8 {w:World}{O:Nat→Prop}: ∀{v:CV} {cs:List Value},RepC w O v cs→ ∀u∈cs,u.oneCell'=true
 | .agg l,cs,h=>by simp only[RepC]at h;exact jS h
 | .bool _,cs,h=>by grind[RepC,Value.oneCell']
 | .int _ _,cs,h=>by grind[RepC,Value.oneCell']
 | .str _,cs,h=>by grind[RepC,Value.oneCell']
 | .nils,cs,h=>by grind[RepC,Value.oneCell']
 | .slc l,cs,h=>by simp only[RepC]at h;obtain⟨a,cap,xs,sz,rfl,_⟩:=h;simp[Value.oneCell']
 | .rp _,cs,h=>by simp only[RepC]at h;obtain⟨a,xs,rfl,_⟩:=h;simp[Value.oneCell']
 | .fn _,cs,h=>by grind[RepC,Value.oneCell']
 | .nilp,cs,h=>by grind[RepC,Value.oneCell']
 | .nilf,cs,h=>by grind[RepC,Value.oneCell']
 | .nili,cs,h=>by grind[RepC,Value.oneCell']
 | .nilm,cs,h=>by grind[RepC,Value.oneCell']
 | .ifc _ _,cs,h=>by simp only[RepC]at h;obtain⟨xs,_,rfl⟩:=h;simp[Value.oneCell']
theorem jS {w:World}{O:Nat→Prop}: ∀{l:List CV} {cs:List Value},RepL w O l cs→ ∀u∈cs,u.oneCell'=true
 |[],cs,h=>by grind[RepL]
 |v::vs,cs,h=>by
  simp only[RepL]at h;obtain⟨c1,c2,rfl,h1,h2⟩:=h;intro u hu;rcases List.mem_append.1 hu with h|h
  · exact aO8 h1 u h
  · exact jS h2 u h
end
/- What may lie in a variable. -/
mutual
def HV.sto :HV→Bool
 | .junk=>false
 | .tup _=>false
 | .agg l=>HV.stoL l
 |_=>true
def HV.stoL :List HV→Bool
 |[]=>true
 |v::vs=>v.sto&&HV.stoL vs
end
mutual
theorem oD {w:World}{ρ:Env}{O:Nat→Prop}: ∀{v:HV} {cs:List Value},v.sto=true→RepH w ρ O v cs→ ∀u∈cs,u.oneCell'=true
 | .junk,cs,hs,_=>by simp[HV.sto]at hs
 | .tup _,cs,hs,_=>by simp[HV.sto]at hs
 | .c v,cs,_,h=>by simp only[RepH]at h;exact aO8 h
 | .agg l,cs,hs,h=>by simp only[RepH,HV.sto]at h hs;exact uE hs h
 | .own ..,cs,_,h=>by simp only[RepH]at h;obtain⟨x,rfl,h1,_⟩:=h;simpa using h1
 | .ptr ..,cs,_,h=>by simp only[RepH]at h;obtain⟨x,rfl,h1,_⟩:=h;simpa using h1
 | .eptr ..,cs,_,h=>by simp only[RepH]at h;obtain⟨x,rfl,h1,_⟩:=h;simpa using h1
 | .osl ..,cs,_,h=>by simp only[RepH]at h;obtain⟨x,rfl,h1,_⟩:=h;simpa using h1
 | .mapr ..,cs,_,h=>by simp only[RepH]at h;obtain⟨x,rfl,h1,_⟩:=h;simpa using h1
 | .mrow ..,cs,_,h=>by simp only[RepH]at h;obtain⟨x,rfl,h1,_⟩:=h;simpa using h1
 | .clo ..,cs,_,h=>by simp only[RepH]at h;obtain⟨x,rfl,_⟩:=h;simp[Value.oneCell']
 | .opq _,cs,_,h=>by simp only[RepH]at h;obtain⟨rfl,h1⟩:=h;simpa using h1
theorem uE {w:World}{ρ:Env}{O:Nat→Prop}: ∀{l:List HV} {cs:List Value},HV.stoL l=true→RepHL w ρ O l cs→ ∀u∈cs,u.oneCell'=true
 |[],cs,_,h=>by grind[RepHL]
 |v::vs,cs,hs,h=>by
  simp only[RepHL,HV.stoL,Bool.and_eq_true]at h hs;obtain⟨c1,c2,rfl,h1,h2⟩:=h;intro u hu;rcases List.mem_append.1 hu with h|h
  · exact oD hs.1 h1 u h
  · exact uE hs.2 h2 u h
end
mutual
def CV.getAt (off sz:Nat)(ag:Bool):CV→Option CV
 | .agg l=>if off=0∧CV.cellsL l=sz∧ag=true then some (.agg l)else CV.getAtL off sz ag l
 |v=>if off=0∧sz=1∧ag=false then some v else none
def CV.getAtL (off sz:Nat)(ag:Bool):List CV→Option CV
 |[]=>none
 |v::vs=>if off<v.cells then CV.getAt off sz ag v else CV.getAtL (off-v.cells) sz ag vs
end
mutual
def HV.getAt (off sz:Nat)(ag:Bool):HV→Option HV
 | .c v=>(v.getAt off sz ag).map .c
 | .agg l=>if off=0∧HV.cellsL l=sz∧ag=true then some (.agg l)else HV.getAtL off sz ag l
 |v=>if off=0∧sz=1∧ag=false then some v else none
def HV.getAtL (off sz:Nat)(ag:Bool):List HV→Option HV
 |[]=>none
 |v::vs=>if off<v.cells then HV.getAt off sz ag v else HV.getAtL (off-v.cells) sz ag vs
end
mutual
def CV.setAt (off sz:Nat)(x:HV):CV→Option HV
 | .agg l=>if off=0∧CV.cellsL l=sz then some x else(CV.setAtL off sz x l).map .agg
 |_=>if off=0∧sz=1 then some x else none
def CV.setAtL (off sz:Nat)(x:HV):List CV→Option (List HV)
 |[]=>none
 |v::vs=>if off<v.cells then(CV.setAt off sz x v).map (· ::vs.map .c)else(CV.setAtL (off-v.cells) sz x vs).map (.c v::·)
end
mutual
def HV.setAt (off sz:Nat)(x:HV):HV→Option HV
 | .c v=>v.setAt off sz x
 | .agg l=>if off=0∧HV.cellsL l=sz then some x else(HV.setAtL off sz x l).map .agg
 |_=>if off=0∧sz=1 then some x else none
def HV.setAtL (off sz:Nat)(x:HV):List HV→Option (List HV)
 |[]=>none
 |v::vs=>if off<v.cells then(HV.setAt off sz x v).map (· ::vs)else(HV.setAtL (off-v.cells) sz x vs).map (v::·)
end
mutual
theorem CV.getAt_spec {w:World}{O:Nat→Prop}{sz:Nat}{ag:Bool}{u:CV}: ∀{v:CV} {off:Nat} {cs:List Value},v.getAt off sz ag=some u→RepC w O v cs→
  ∃c1 c2 c3,cs=c1++c2++c3∧c1.length=off∧c2.length=sz∧RepC w O u c2∧u.isAgg=ag
 | .agg l,off,cs,hg,h=>by
  simp only[CV.getAt]at hg;by_cases hc:off=0∧CV.cellsL l=sz∧ag=true
  · rw[if_pos hc]at hg;cases hg;exact⟨[],cs,[],by simp,by simp[hc.1],by simp only[RepC]at h;rw[oC h];exact hc.2.1,h,by simp[CV.isAgg,hc.2.2]⟩
  · rw[if_neg hc]at hg;simp only[RepC]at h;exact CV.getAtL_spec hg h
 | .bool b,off,cs,hg,h=>by
  simp only[CV.getAt]at hg;split at hg
  · rename_i hc;cases hg;exact⟨[],cs,[],by simp,by simp[hc.1],by rw[bS h];simp[CV.cells,hc.2.1],h,by simp[CV.isAgg,hc.2.2]⟩
  · cases hg
 | .int k n,off,cs,hg,h=>by
  simp only[CV.getAt]at hg;split at hg
  · rename_i hc;cases hg;exact⟨[],cs,[],by simp,by simp[hc.1],by rw[bS h];simp[CV.cells,hc.2.1],h,by simp[CV.isAgg,hc.2.2]⟩
  · cases hg
 | .str s,off,cs,hg,h=>by
  simp only[CV.getAt]at hg;split at hg
  · rename_i hc;cases hg;exact⟨[],cs,[],by simp,by simp[hc.1],by rw[bS h];simp[CV.cells,hc.2.1],h,by simp[CV.isAgg,hc.2.2]⟩
  · cases hg
 | .nils,off,cs,hg,h=>by
  simp only[CV.getAt]at hg;split at hg
  · rename_i hc;cases hg;exact⟨[],cs,[],by simp,by simp[hc.1],by rw[bS h];simp[CV.cells,hc.2.1],h,by simp[CV.isAgg,hc.2.2]⟩
  · cases hg
 | .slc l,off,cs,hg,h=>by
  simp only[CV.getAt]at hg;split at hg
  · rename_i hc;cases hg;exact⟨[],cs,[],by simp,by simp[hc.1],by rw[bS h];simp[CV.cells,hc.2.1],h,by simp[CV.isAgg,hc.2.2]⟩
  · cases hg
 | .rp v,off,cs,hg,h=>by
  simp only[CV.getAt]at hg;split at hg
  · rename_i hc;cases hg;exact⟨[],cs,[],by simp,by simp[hc.1],by rw[bS h];simp[CV.cells,hc.2.1],h,by simp[CV.isAgg,hc.2.2]⟩
  · cases hg
 | .fn f,off,cs,hg,h=>by
  simp only[CV.getAt]at hg;split at hg
  · rename_i hc;cases hg;exact⟨[],cs,[],by simp,by simp[hc.1],by rw[bS h];simp[CV.cells,hc.2.1],h,by simp[CV.isAgg,hc.2.2]⟩
  · cases hg
 | .nilp,off,cs,hg,h=>by
  simp only[CV.getAt]at hg;split at hg
  · rename_i hc;cases hg;exact⟨[],cs,[],by simp,by simp[hc.1],by rw[bS h];simp[CV.cells,hc.2.1],h,by simp[CV.isAgg,hc.2.2]⟩
  · cases hg
 | .nilf,off,cs,hg,h=>by
  simp only[CV.getAt]at hg;split at hg
  · rename_i hc;cases hg;exact⟨[],cs,[],by simp,by simp[hc.1],by rw[bS h];simp[CV.cells,hc.2.1],h,by simp[CV.isAgg,hc.2.2]⟩
  · cases hg
 | .nili,off,cs,hg,h=>by
  simp only[CV.getAt]at hg;split at hg
  · rename_i hc;cases hg;exact⟨[],cs,[],by simp,by simp[hc.1],by rw[bS h];simp[CV.cells,hc.2.1],h,by simp[CV.isAgg,hc.2.2]⟩
  · cases hg
 | .nilm,off,cs,hg,h=>by
  simp only[CV.getAt]at hg;split at hg
  · rename_i hc;cases hg;exact⟨[],cs,[],by simp,by simp[hc.1],by rw[bS h];simp[CV.cells,hc.2.1],h,by simp[CV.isAgg,hc.2.2]⟩
  · cases hg
 | .ifc t v,off,cs,hg,h=>by
  simp only[CV.getAt]at hg;split at hg
  · rename_i hc;cases hg;exact⟨[],cs,[],by simp,by simp[hc.1],by rw[bS h];simp[CV.cells,hc.2.1],h,by simp[CV.isAgg,hc.2.2]⟩
  · cases hg
theorem CV.getAtL_spec {w:World}{O:Nat→Prop}{sz:Nat}{ag:Bool}{u:CV}: ∀{l:List CV} {off:Nat} {cs:List Value},CV.getAtL off sz ag l=some u→RepL w O l cs→
  ∃c1 c2 c3,cs=c1++c2++c3∧c1.length=off∧c2.length=sz∧RepC w O u c2∧u.isAgg=ag
 |[],off,cs,hg,h=>by simp[CV.getAtL]at hg
 |v::vs,off,cs,hg,h=>by
  simp only[CV.getAtL]at hg;simp only[RepL]at h;obtain⟨x,y,rfl,h1,h2⟩:=h;split at hg
  · obtain⟨c1,c2,c3,rfl,e1,e2,e3,e4⟩:=CV.getAt_spec hg h1;grind
  · obtain⟨c1,c2,c3,rfl,e1,e2,e3,e4⟩:=CV.getAtL_spec hg h2;grind[List.length_append,bS]
end
mutual
theorem HV.getAt_spec {w:World}{ρ:Env}{O:Nat→Prop}{sz:Nat}{ag:Bool}{u:HV}: ∀{v:HV} {off:Nat} {cs:List Value},v.getAt off sz ag=some u→v.sto=true→RepH w ρ O v cs→
  ∃c1 c2 c3,cs=c1++c2++c3∧c1.length=off∧c2.length=sz∧RepH w ρ O u c2∧u.isAgg=ag∧u.sto=true∧(∀M,v.men M→u.men M)
 | .c v,off,cs,hg,_,h=>by
  simp only[HV.getAt,Option.map_eq_some_iff]at hg;obtain⟨u',hg,rfl⟩:=hg;simp only[RepH]at h;obtain⟨c1,c2,c3,e1,e2,e3,e4,e5⟩:=CV.getAt_spec hg h;exact⟨c1,c2,c3,e1,e2,e3,by simpa only[RepH]using e4,e5,rfl,fun M _=>by simp[HV.men]⟩
 | .agg l,off,cs,hg,hs,h=>by
  simp only[HV.getAt]at hg;by_cases hc:off=0∧HV.cellsL l=sz∧ag=true
  · rw[if_pos hc]at hg;cases hg;exact⟨[],cs,[],by simp,by simp[hc.1],by simp only[RepH]at h;rw[mK h];exact hc.2.1,h,by simp[HV.isAgg,hc.2.2],hs,fun M h=>h⟩
  · rw[if_neg hc]at hg;simp only[RepH,HV.sto]at h hs;obtain⟨c1,c2,c3,e1,e2,e3,e4,e5,e6,e7⟩:=HV.getAtL_spec hg hs h;exact⟨c1,c2,c3,e1,e2,e3,e4,e5,e6,fun M hm=>e7 M (by simpa only[HV.men]using hm)⟩
 | .junk,off,cs,hg,hs,h=>by simp[HV.sto]at hs
 | .tup _,off,cs,hg,hs,h=>by simp[HV.sto]at hs
 | .own id n,off,cs,hg,hs,h=>by
  simp only[HV.getAt]at hg;split at hg
  · rename_i hc;cases hg;exact⟨[],cs,[],by simp,by simp[hc.1],by rw[bZ h];simp[HV.cells,hc.2.1],h,by simp[HV.isAgg,hc.2.2],hs,fun _ h=>h⟩
  · cases hg
 | .ptr id n,off,cs,hg,hs,h=>by
  simp only[HV.getAt]at hg;split at hg
  · rename_i hc;cases hg;exact⟨[],cs,[],by simp,by simp[hc.1],by rw[bZ h];simp[HV.cells,hc.2.1],h,by simp[HV.isAgg,hc.2.2],hs,fun _ h=>h⟩
  · cases hg
 | .eptr ..,off,cs,hg,hs,h=>by
  simp only[HV.getAt]at hg;split at hg
  · rename_i hc;cases hg;exact⟨[],cs,[],by simp,by simp[hc.1],by rw[bZ h];simp[HV.cells,hc.2.1],h,by simp[HV.isAgg,hc.2.2],hs,fun _ h=>h⟩
  · cases hg
 | .osl ..,off,cs,hg,hs,h=>by
  simp only[HV.getAt]at hg;split at hg
  · rename_i hc;cases hg;exact⟨[],cs,[],by simp,by simp[hc.1],by rw[bZ h];simp[HV.cells,hc.2.1],h,by simp[HV.isAgg,hc.2.2],hs,fun _ h=>h⟩
  · cases hg
 | .mapr id,off,cs,hg,hs,h=>by
  simp only[HV.getAt]at hg;split at hg
  · rename_i hc;cases hg;exact⟨[],cs,[],by simp,by simp[hc.1],by rw[bZ h];simp[HV.cells,hc.2.1],h,by simp[HV.isAgg,hc.2.2],hs,fun _ h=>h⟩
  · cases hg
 | .mrow ..,off,cs,hg,hs,h=>by
  simp only[HV.getAt]at hg;split at hg
  · rename_i hc;cases hg;exact⟨[],cs,[],by simp,by simp[hc.1],by rw[bZ h];simp[HV.cells,hc.2.1],h,by simp[HV.isAgg,hc.2.2],hs,fun _ h=>h⟩
  · cases hg
 | .clo id n,off,cs,hg,hs,h=>by
  simp only[HV.getAt]at hg;split at hg
  · rename_i hc;cases hg;exact⟨[],cs,[],by simp,by simp[hc.1],by rw[bZ h];simp[HV.cells,hc.2.1],h,by simp[HV.isAgg,hc.2.2],hs,fun _ h=>h⟩
  · cases hg
 | .opq _,off,cs,hg,hs,h=>by
  simp only[HV.getAt]at hg;split at hg
  · rename_i hc;cases hg;exact⟨[],cs,[],by simp,by simp[hc.1],by rw[bZ h];simp[HV.cells,hc.2.1],h,by simp[HV.isAgg,hc.2.2],hs,fun _ h=>h⟩
  · cases hg
theorem HV.getAtL_spec {w:World}{ρ:Env}{O:Nat→Prop}{sz:Nat}{ag:Bool}{u:HV}: ∀{l:List HV} {off:Nat} {cs:List Value},HV.getAtL off sz ag l=some u→HV.stoL l=true→RepHL w ρ O l cs→
  ∃c1 c2 c3,cs=c1++c2++c3∧c1.length=off∧c2.length=sz∧RepH w ρ O u c2∧u.isAgg=ag∧u.sto=true∧(∀M,HV.menL M l→u.men M)
 |[],off,cs,hg,_,h=>by simp[HV.getAtL]at hg
 |v::vs,off,cs,hg,hs,h=>by
  simp only[HV.getAtL]at hg;simp only[RepHL,HV.stoL,Bool.and_eq_true]at h hs;obtain⟨x,y,rfl,h1,h2⟩:=h;split at hg
  · obtain⟨c1,c2,c3,rfl,e1,e2,e3,e4,e5,e6⟩:=HV.getAt_spec hg hs.1 h1;grind[HV.menL]
  · obtain⟨c1,c2,c3,rfl,e1,e2,e3,e4,e5,e6⟩:=HV.getAtL_spec hg hs.2 h2;grind[List.length_append,bZ,HV.menL]
end
mutual
def CV.denil :CV→CV
 | .nils=> .slc []
 | .agg l=> .agg (CV.denilL l)
 | .slc l=> .slc (CV.denilL l)
 |v=>v
def CV.denilL :List CV→List CV
 |[]=>[]
 |v::vs=>v.denil::CV.denilL vs
end
theorem CV.denilL_length : ∀(l:List CV),(CV.denilL l).length=l.length
 |[]=>rfl
 |v::vs=>by simp[CV.denilL,CV.denilL_length vs]
mutual
theorem CV.denil_cells : ∀(v:CV),v.denil.cells=v.cells
 | .agg l=>by simp only[CV.denil,CV.cells];exact CV.denilL_cells l
 | .nils=>rfl
 | .slc _=>rfl
 | .bool _=>rfl
 | .int _ _=>rfl
 | .str _=>rfl
 | .rp _=>rfl
 | .fn _=>rfl
 | .nilp=>rfl
 | .nilf=>rfl
 | .nili=>rfl
 | .nilm=>rfl
 | .ifc _ _=>rfl
theorem CV.denilL_cells : ∀(l:List CV),CV.cellsL (CV.denilL l)=CV.cellsL l
 |[]=>rfl
 |v::vs=>by simp only[CV.denilL,CV.cellsL,CV.denil_cells v,CV.denilL_cells vs]
end
theorem CV.denil_isAgg (v:CV):v.denil.isAgg=v.isAgg:=by cases v<;>rfl
theorem CV.denilL_mem : ∀{l:List CV} {v:CV},v∈CV.denilL l→ ∃u∈l,v=u.denil
 |[],v,h=>by simp[CV.denilL]at h
 |u::us,v,h=>by
  simp only[CV.denilL,List.mem_cons]at h;rcases h with rfl|h
  · exact⟨u,by simp,rfl⟩
  · obtain⟨x,hx,e⟩:=CV.denilL_mem h;exact⟨x,by simp[hx],e⟩
mutual
theorem CV.denil_rep {w:World}{O:Nat→Prop}: ∀{v:CV} {cs:List Value},RepC w O v cs→RepC w O v.denil cs
 | .agg l,cs,h=>by simp only[RepC,CV.denil]at h⊢;exact CV.denilL_rep h
 | .nils,cs,h=>by
  simp only[RepC,CV.denil]at h⊢;exact⟨none,0,[],0,h,by simp[RepL],by simp,Nat.le_refl _,fun _=>rfl,by simp⟩
 | .slc l,cs,h=>by
  simp only[RepC,CV.denil]at h⊢;obtain⟨a,cap,xs,sz,h1,h2,h3,h4,h5,h6⟩:=h;refine⟨a,cap,xs,sz,by rw[CV.denilL_length];exact h1,CV.denilL_rep h2,fun v hv=>?_,by rw[CV.denilL_length];exact h4,h5,h6⟩;obtain⟨u,hu,rfl⟩:=CV.denilL_mem hv;rw[CV.denil_cells];exact h3 u hu
 | .bool _,cs,h=>by simpa only[RepC,CV.denil]using h
 | .int _ _,cs,h=>by simpa only[RepC,CV.denil]using h
 | .str _,cs,h=>by simpa only[RepC,CV.denil]using h
 | .rp _,cs,h=>by simpa only[CV.denil]using h
 | .fn _,cs,h=>by simpa only[RepC,CV.denil]using h
 | .nilp,cs,h=>by simpa only[RepC,CV.denil]using h
 | .nilf,cs,h=>by simpa only[RepC,CV.denil]using h
 | .nili,cs,h=>by simpa only[RepC,CV.denil]using h
 | .nilm,cs,h=>by simpa only[RepC,CV.denil]using h
 | .ifc _ _,cs,h=>by simpa only[CV.denil]using h
theorem CV.denilL_rep {w:World}{O:Nat→Prop}: ∀{l:List CV} {cs:List Value},RepL w O l cs→RepL w O (CV.denilL l) cs
 |[],cs,h=>by simpa only[RepL,CV.denilL]using h
 |v::vs,cs,h=>by
  simp only[RepL,CV.denilL]at h⊢;obtain⟨c1,c2,h1,h2,h3⟩:=h;exact⟨c1,c2,h1,CV.denil_rep h2,CV.denilL_rep h3⟩
end
def HV.den :HV→HV
 | .c v=> .c v.denil
 |v=>v
theorem HV.den_agg (v:HV):v.den.isAgg=v.isAgg:=by cases v<;>simp[HV.den,HV.isAgg,CV.denil_isAgg]
theorem HV.den_rep {w:World}{ρ:Env}{O:Nat→Prop}{v:HV}{x:Value}(h:RepV w ρ O v x):RepV w ρ O v.den x:=by
 refine⟨?_,by rw[HV.den_agg];exact h.2⟩;cases v with
 |c v=>have:=h.1;grind[RepH,HV.den,CV.denil_rep]
 |_=>exact h.1
mutual
theorem HV.men_true : ∀(v:HV),v.men (fun _=>True)
 | .junk=>by simp[HV.men]
 | .c _=>by simp[HV.men]
 | .agg l=>by simp only[HV.men];exact HV.menL_true l
 | .own .. =>by simp[HV.men]
 | .ptr .. =>by simp[HV.men]
 | .eptr .. =>by simp[HV.men]
 | .osl .. =>by simp[HV.men]
 | .mapr .. =>by simp[HV.men]
 | .mrow .. =>by simp[HV.men]
 | .clo _ l=>by simp only[HV.men];exact HV.menL_true l
 | .opq _=>by simp[HV.men]
 | .tup l=>by simp only[HV.men];exact HV.menL_true l
theorem HV.menL_true : ∀(l:List HV),HV.menL (fun _=>True) l
 |[]=>by simp[HV.menL]
 |v::vs=>by simp only[HV.menL];exact⟨HV.men_true v,HV.menL_true vs⟩
end
end Go.Hl
namespace Go.Hl
open Go
inductive MV where
 |lent
 |row (l:List CV)
 |pend (l:List CV)
 |val (v:CV)
 deriving Inhabited
abbrev MD :=List (List UInt8×MV)
def dA (D:MD)(k:List UInt8):Option MV:=match D with
 |[]=>none
 |(k',m)::D=>if k'=k then some m else dA D k
def lJ (D:MD)(k:List UInt8)(m:MV):MD:=match D with
 |[]=>[(k,m)]
 |(k',m')::D=>if k'=k then(k,m)::D else(k',m')::lJ D k m
theorem cZ (D:MD)(k:List UInt8)(m:MV):dA (lJ D k m) k=some m:=by
 induction D with
 |nil=>simp[lJ,dA]
 |cons p D ih=>
  grind[lJ,dA]
variable {k:List UInt8}
theorem dF (D:MD){k2:List UInt8}(m:MV)(h:k2≠k):dA (lJ D k m) k2=dA D k2:=by
 induction D with
 |nil=>simp[lJ,dA,W7 h]
 |cons p D ih=>
  obtain⟨k',m'⟩:=p;unfold lJ;split;all_goals simp_all[dA,W7]
inductive HO where
 |box (t:TypeId) (v:HV)
 |row (e:TypeId) (sz:Nat) (l:List CV)
 |mp (e:TypeId) (sz:Nat) (D:MD)
 |dead
 |tab (T:List (Nat×List Value))
 /-- A row whose elements may lead to objects of one's own. -/
 |hrow (e:TypeId) (sz:Nat) (l:List HV)
 /-- A map, as it stands in memory. -/
 |raw (es:Array MapEntry) (clock:Nat)
 /-- A way cQ8 such a map. -/
 |it (m since:Nat) (seen:Array Nat) (last:Nat)
 deriving Inhabited
abbrev Fr :=Nat→HV
abbrev Ob :=Nat→Option HO
def upd {α:Type}(f:Nat→α)(d:Nat)(v:α):Nat→α:=fun t=>if t=d then v else f t
variable {α:Type}
@[simp] theorem aU (f:Nat→α)(d:Nat)(v:α):upd f d v d=v:=by simp[upd]
theorem bJ (f:Nat→α){d t:Nat}(v:α)(h:t≠d):upd f d v t=f t:=by simp[upd,h]
def updo (f:Fr)(d:Option Nat)(v:HV):Fr:=match d with|some d=>upd f d v|none=>f
def fM (k:List UInt8):Value:= .string ⟨k.toArray⟩
theorem aO9 {k':List UInt8}(h:fM k=fM k'):k=k':=by grind[fM,Value.string.injEq,ByteArray.mk.injEq,Array.toList_inj]
def gC :Option MV→List CV
 |some (.row l)=>l
 |some (.pend l)=>l
 |_=>[]
def MV.there :MV→Bool
 | .pend _=>false
 |_=>true
def RepMV (w:World)(O:Nat→Prop)(o:Option Value):MV→Value→Prop
 | .row _,v=>o=some v
 | .val c,v=> ∃cs,RepC w O c cs∧v=eP c.isAgg cs
 |_,_=>True
structure RepM (w:World)(O:Nat→Prop)(e:TypeId)(sz:Nat)(D:MD)(b:Nat)(hf:List UInt8→Option Value):Prop where
 blk: ∃es clock,w.heap[b]? =some (.map es clock)∧Go.MapKept.Stamped es clock∧
  (∀x∈es.toList,∃k m,dA D k=some m∧x.key=fM k∧k.length≤maxLen∧RepMV w O (hf k) m x.val)∧ ∀k m,dA D k=some m→m.there=true→ ∃x∈es.toList,x.key=fM k
 row: ∀k h,hf k=some h→h.ownBlock≠some b∧ ∃xs,RepL w O (gC (dA D k)) xs∧(∀c∈gC (dA D k),c.cells=sz)∧w.ownsRow 0 e sz h (gC (dA D k)).length xs
 lent: ∀k,hf k=none↔dA D k=some .lent
 nil: ∀k h,hf k=some h→dA D k=none→h= .slice none 0 0
 apart: ∀k k' h h' g,hf k=some h→hf k'=some h'→h.ownBlock=some g→h'.ownBlock=some g→k=k'
def RepO (w:World)(ρ:Env)(O:Nat→Prop)(id:Nat):HO→Prop
 | .box t v=> ∃b cs,ρ id=some (.blk b)∧w.heap[b]? =some (.cells cs.toArray t (0,0))∧RepH w ρ O v cs
 | .row e sz l=> ∃h xs,ρ id=some (.hdr h)∧RepL w O l xs∧(∀v∈l,v.cells=sz)∧w.ownsRow 0 e sz h l.length xs
 | .mp e sz D=> ∃b hf,ρ id=some (.mp b hf)∧RepM w O e sz D b hf
 | .dead=>ρ id=none
 | .tab T=>ρ id=none∧ ∀x∈T,(∃t fz,w.heap[x.1]? =some (.cells x.2.toArray t fz))∧ ¬O x.1
 | .hrow e sz l=> ∃h xs,ρ id=some (.hdr h)∧RepHL w ρ O l xs∧(∀v∈l,v.cells=sz∧v.sto=true)∧w.ownsRow 0 e sz h l.length xs
 | .raw es clock=> ∃b,ρ id=some (.mp b fun _=>none)∧w.heap[b]? =some (.map es clock)
 | .it m since seen last=> ∃b x,ρ id=some (.blk b)∧w.heap[b]? =some (.mapIter (some x) since seen last)∧ ∀bm hf,ρ m=some (.mp bm hf)→x=bm
def HO.men (M:Nat→Prop):HO→Prop
 | .box _ v=>v.men M
 | .row .. =>True
 | .mp .. =>True
 | .dead=>True
 | .tab _=>True
 | .hrow _ _ l=>HV.menL M l
 | .raw .. =>True
 | .it m _ _ _=>M m
structure RepS (w:World)(ρ:Env)(X:Nat→Prop)(ob:Ob):Prop where
 objs: ∀id o,ob id=some o→RepO w ρ (Owned ρ X) id o
 none: ∀id,ob id=none→ρ id=none
 apart: ∀id id' L L' b,ρ id=some L→ρ id'=some L'→L.has b→L'.has b→id=id'
 xb: ∀id L b,ρ id=some L→L.has b→ ¬X b
structure Stay2 (w:World)(O:Nat→Prop)(w':World)(O':Nat→Prop):Prop where
 block: ∀b,b<w.heap.size→ ¬O b→w'.heap[b]? =w.heap[b]?
 own: ∀b,O' b→O b∨w.heap.size≤b
 size:w.heap.size≤w'.heap.size
 os:w'.os=w.os
 tape:w'.tape=w.tape
 output:w'.output=w.output
variable {ρ ρ':Env}{w w':World}
theorem Stay2.stay (h:Stay2 w (Own ρ) w' (Own ρ'))(X:Nat→Prop):Stay w (Owned ρ X) w' (Owned ρ' X):=
 ⟨fun b hb hO=>⟨h.block b hb.lt (fun h1=>hO (.inr h1)),fun h'=>h'.elim (fun h1=>hO (.inl h1)) (fun h1=>(h.own b h1).elim (fun h2=>hO (.inr h2)) (fun h2=>absurd hb.lt (AZ.2 h2)))⟩⟩
theorem Stay2.refl (w:World)(O:Nat→Prop):Stay2 w O w O:=⟨fun _ _ _=>rfl,fun _ h=> .inl h,F2 _,rfl,rfl,rfl⟩
theorem Stay2.trans {a b c:World}{A B C:Nat→Prop}(h:Stay2 a A b B)(h':Stay2 b B c C):Stay2 a A c C:=
 ⟨fun k hk hA=>by
   have h1:=h.block k hk hA;have h2: ¬B k:=fun hB=>(h.own k hB).elim hA (fun x=>absurd hk (AZ.2 x));rw[h'.block k (G7 hk h.size) h2,h1],
  fun k hk=>(h'.own k hk).elim (fun x=>h.own k x) (fun x=> .inr (BH h.size x)),
  BH h.size h'.size,h'.os.trans h.os,h'.tape.trans h.tape,h'.output.trans h.output⟩
structure Ctx where
 w0:World
 ρ0:Env
 X:Nat→Prop
 M0:Nat→Prop
 n:Nat
 /-- The loop cQ8 a function in whose round the activation is. -/
 R:Option Nat:=none
 /-- Loops cQ8 functions may be entered. -/
 may:Bool:=true
def DefOk (m:Bool)(n0:Nat)(w:World)(ds:List Deferred):Prop:=
 (∃Ds:List Nat,ds=Ds.map (fun b=>{target:= .collected b,args:= #[]})∧Ds.Nodup∧ ∀b∈Ds,n0≤b∧w.heap[b]? =some (.deferred (some [])))∧(m=false→ds=[])
theorem DefOk.nil (m:Bool)(n0:Nat)(w:World):DefOk m n0 w []:=⟨⟨[],rfl,I3,by simp⟩,fun _=>rfl⟩
variable {o:Option (List Deferred)}{hf:List UInt8→Option Value}{b sz:Nat}{D:MD}{e:TypeId}{O:Nat→Prop}
theorem bU2 {b':Nat}(h:RepM w O e sz D b' hf)(hb:(Loc.mp b' hf).has b)(ho:w.heap[b]? =some (.deferred o)):False:=by
 rcases hb with rfl|⟨k,hd,h1,h2⟩
 · obtain⟨es,cl,h3,_⟩:=h.blk;grind
 ·
  obtain⟨_,xs,_,_,h4⟩:=h.row k hd h1;rcases h4.2 with⟨rfl,_⟩|⟨g,cap,cur,rfl,_,hg,_⟩
  all_goals grind[Value.ownBlock,Option.some.injEq]
variable {ob:Ob}{X:Nat→Prop}
theorem uF (h:RepS w ρ X ob)(hb:Own ρ b)(ho:w.heap[b]? =some (.deferred o)):False:=by
 obtain⟨id,L,h1,h2⟩:=hb;cases hob:ob id with
 |none=>rw[h.none id hob]at h1;grind
 |some x=>
  have hr:=h.objs id x hob;cases x with
  |box t v=>
   obtain⟨b',cs,e1,e2,_⟩:=hr;rw[h1]at e1;cases e1;have:b=b':=h2;grind
  |row e sz l=>
   obtain⟨hd,xs,e1,_,_,e4⟩:=hr;rw[h1]at e1;cases e1;have hb2:hd.ownBlock=some b:=h2;rcases e4.2 with⟨rfl,_⟩|⟨g,cap,cur,rfl,_,hg,_⟩
   all_goals grind[Value.ownBlock,Option.some.injEq]
  |mp e sz D=>
   obtain⟨b',hf,e1,e2⟩:=hr;grind[bU2]
  |dead=>
   have hr':ρ id=none:=hr;grind
  |tab T=>
   have hr':ρ id=none:=hr.1;grind
  |hrow e sz l=>
   obtain⟨hd,xs,e1,_,_,e4⟩:=hr;rw[h1]at e1;cases e1;have hb2:hd.ownBlock=some b:=h2;rcases e4.2 with⟨rfl,_⟩|⟨g,cap,cur,rfl,_,hg,_⟩
   all_goals grind[Value.ownBlock,Option.some.injEq]
  |raw es clock=>
   obtain⟨b',e1,e2⟩:=hr;rw[h1]at e1;cases e1;rcases h2 with h2|⟨k,hd,h2,_⟩
   · grind
   · cases h2
  |it m since seen last=>
   obtain⟨b',x,e1,e2,_⟩:=hr;rw[h1]at e1;cases e1;have:b=b':=h2;grind
variable {O':Nat→Prop}{n0:Nat}
theorem DefOk.stay {m:Bool}{ds:List Deferred}(h:DefOk m n0 w ds)(hS:RepS w ρ X ob)(hs:Stay2 w (Own ρ) w' O'):DefOk m n0 w' ds:=by
 obtain⟨⟨Ds,e,hn,hd⟩,hm⟩:=h;refine⟨⟨Ds,e,hn,fun b hb=>⟨(hd b hb).1,?_⟩⟩,hm⟩;have h1:=(hd b hb).2;rw[hs.block b (G6.1 h1).1 (fun ho=>uF hS ho h1)];grind
structure RepA' (c:Ctx)(M:Nat→Prop)(fr:Fr)(ob:Ob)(a:Act)(w:World)(ρ:Env):Prop where
 s:RepS w ρ c.X ob
 f: ∀t,fr t≠ .junk→RepV w ρ (Owned ρ c.X) (fr t) (a.tmps.getD t undef)
 mf: ∀t,(fr t).men M
 mo: ∀id o,ob id=some o→M id∧o.men M
 m0: ∀id,c.M0 id→M id
 base:Stay2 c.w0 (Own c.ρ0) w (Own ρ)
 moves:Moves c.M0 c.ρ0 ρ
 defers:DefOk c.may c.w0.heap.size w a.defers
 size:a.tmps.size=c.n
 xlt: ∀b,c.X b→b<c.w0.heap.size
def RepA (c:Ctx)(M:Nat→Prop)(fr:Fr)(ob:Ob)(a:Act)(w:World):Prop:= ∃ρ,RepA' c M fr ob a w ρ
theorem bU3 (a:Act)(d:Option Tmp)(v:Value):(a.put d v).tmps.size=a.tmps.size:=by cases d<;>simp[Act.put]
theorem aZ5 (a:Act)(d:Option Tmp)(v:Value):(a.put d v).defers=a.defers:=by cases d<;>simp[Act.put]
variable {x:Value}{v:HV}{d:Option Nat}{a:Act}{fr:Fr}{M M':Nat→Prop}{c:Ctx}
theorem RepA'.step {ob':Ob}
  (h:RepA' c M fr ob a w ρ) (hM: ∀i,M i→M' i) (hs:Stay2 w (Own ρ) w' (Own ρ')) (hm:Moves M ρ ρ') (hS:RepS w' ρ' c.X ob')
  (hv:v= .junk∨RepV w' ρ' (Owned ρ' c.X) v x) (hvm:v.men M') (ho: ∀id o,ob' id=some o→M' id∧o.men M') (hd: ∀k,d=some k→k<c.n):
  RepA' c M' (updo fr d v) ob' (a.put d x) w' ρ':=by
 have keep: ∀t,fr t≠ .junk→RepV w' ρ' (Owned ρ' c.X) (fr t) (a.tmps.getD t undef):=fun t ht=>
  ⟨RepH.stay (hs.stay c.X) hm (h.mf t) (h.f t ht).1,(h.f t ht).2⟩
 refine⟨hS,?_,?_,ho,fun id hid=>hM _ (h.m0 id hid),h.base.trans hs,Moves.trans h.m0 h.moves hm,by rw[aZ5];exact h.defers.stay h.s hs,by rw[bU3];exact h.size,h.xlt⟩
 ·
  intro t ht;cases d with
  |none=>exact keep t ht
  |some k=>
   simp only[updo]at ht⊢;by_cases e:t=k
   ·
    subst e;rw[aU]at ht⊢;have hk:t<a.tmps.size:=by rw[h.size];exact hd t rfl
    simp_all[undef,Act.put,Array.getD]
   ·
    rw[bJ _ _ e]at ht⊢;have:(a.put (some k) x).tmps.getD t undef=a.tmps.getD t undef:=by
     simp only[Act.put,K8];grind
    grind
 ·
  intro t;cases d with
  |none=>exact HV.men_mono hM (h.mf t)
  |some k=>
   simp only[updo];by_cases e:t=k
   · simp_all
   · rw[bJ _ _ e];exact HV.men_mono hM (h.mf t)
theorem RepA'.value
  (h:RepA' c M fr ob a w ρ) (hv:v= .junk∨RepV w ρ (Owned ρ c.X) v x) (hvm:v.men M) (hd: ∀k,d=some k→k<c.n):
  RepA' c M (updo fr d v) ob (a.put d x) w ρ:=
 h.step (fun _ h=>h) (Stay2.refl _ _) (Moves.refl _ _) h.s hv hvm h.mo hd
theorem kF {n:Nat}{v:Value}{xs:List Value}(h4:w.ownsRow n0 e sz v n xs)(hb: ∀g,v.ownBlock=some g→w'.heap[g]? =w.heap[g]?):w'.ownsRow n0 e sz v n xs:=by
 refine⟨h4.1,?_⟩;rcases h4.2 with h5|⟨g,cap,cur,rfl,h6,h7,h8⟩
 · grind
 · exact .inr ⟨g,cap,cur,rfl,h6,by grind[Value.ownBlock],h8⟩
theorem RepMV.stay (hs:Stay w O w' O'){o:Option Value}{m:MV}{v:Value}(h:RepMV w O o m v):RepMV w' O' o m v:=by
 cases m with
 |row l=>exact h
 |val c=>
  obtain⟨cs,h2,h3⟩:=h;exact⟨cs,h2.stay hs,h3⟩
 |_=>trivial
theorem RepM.stay (hs:Stay w O w' O')(h:RepM w O e sz D b hf)(h0:w'.heap[b]? =w.heap[b]?)
  (hb: ∀k h g,hf k=some h→h.ownBlock=some g→w'.heap[g]? =w.heap[g]?):RepM w' O' e sz D b hf:=by
 refine⟨?_,fun k v hk=>?_,h.lent,h.nil,h.apart⟩
 · obtain⟨es,clock,h1,h2,h4,h5⟩:=h.blk;refine⟨es,clock,by grind,h2,fun x hx=>?_,h5⟩;obtain⟨k,m,e1,e2,e3,e4⟩:=h4 x hx;exact⟨k,m,e1,e2,e3,e4.stay hs⟩
 · obtain⟨h1,xs,h2,h3,h4⟩:=h.row k v hk;exact⟨h1,xs,h2.stay hs,h3,kF h4 (fun g hg=>hb k v g hk hg)⟩
theorem RepM.lt (h:RepM w O e sz D b hf): ∀g,(Loc.mp b hf).has g→g<w.heap.size:=by
 obtain⟨es,clock,h1,h2,h4,h5⟩:=h.blk;rintro g (rfl|⟨k,v,e1,e2⟩)
 · grind
 · obtain⟨_,xs,_,_,f8⟩:=h.row k v e1;exact(f8.lt g e2).2
theorem mL {T:List (Nat×List Value)}(hs:Stay w O w' O')(h: ∀x∈T,(∃t fz,w.heap[x.1]? =some (.cells x.2.toArray t fz))∧ ¬O x.1):
  ∀x∈T,(∃t fz,w'.heap[x.1]? =some (.cells x.2.toArray t fz))∧ ¬O' x.1:=fun x hx=>by
 obtain⟨⟨t,fz,h1⟩,h2⟩:=h x hx;obtain⟨h3,h4⟩:=hs.block x.1 ⟨_,_,_,h1⟩ h2;grind
variable {id:Nat}
theorem RepO.stay {o:HO}(hs:Stay w O w' O')(hm:Moves M ρ ρ')(hmen:o.men M)
  (hρ:ρ' id=ρ id) (hb: ∀L b,ρ id=some L→L.has b→w'.heap[b]? =w.heap[b]?) (h:RepO w ρ O id o):RepO w' ρ' O' id o:=by
 cases o with
 |box t v=>
  obtain⟨b,cs,h1,h2,h3⟩:=h;exact⟨b,cs,by grind,by rw[hb _ b h1 rfl];grind,RepH.stay hs hm hmen h3⟩
 |row e sz l=>
  obtain⟨x,xs,h1,h2,h3,h4⟩:=h;refine⟨x,xs,by grind,h2.stay hs,h3,h4.1,?_⟩;rcases h4.2 with h5|⟨g,cap,cur,rfl,h6,h7,h8⟩
  · grind
  · exact .inr ⟨g,cap,cur,rfl,h6,by simp_all[Loc.has,Value.ownBlock],h8⟩
 |mp e sz D=>
  obtain⟨b,hf,h1,h2⟩:=h;exact⟨b,hf,by grind,h2.stay hs (hb _ b h1 (.inl rfl)) (fun k h g e1 e2=>hb _ g h1 (.inr ⟨k,h,e1,e2⟩))⟩
 |dead=>exact hρ.trans h
 |tab T=>exact⟨hρ.trans h.1,mL hs h.2⟩
 |hrow e sz l=>
  obtain⟨x,xs,h1,h2,h3,h4⟩:=h;exact⟨x,xs,by grind,RepHL.stay hs hm hmen h2,h3,kF h4 fun g hg=>hb _ g h1 hg⟩
 |raw es clock=>
  obtain⟨b,h1,h2⟩:=h;exact⟨b,by grind,by rw[hb _ b h1 (.inl rfl)];exact h2⟩
 |it m since seen last=>
  obtain⟨b,x,h1,h2,h3⟩:=h;refine⟨b,x,by grind,by rw[hb _ b h1 rfl];exact h2,fun bm hf h4=>?_⟩;obtain⟨L,e1,e2⟩:=hm m _ hmen h4;rcases e2 with rfl|⟨_,_,rfl,e3,_⟩|⟨b1,f,f',rfl,e3,_⟩
  · exact h3 _ _ e1
  · cases e3
  · cases e3;exact h3 _ _ e1
variable {L:Loc}
theorem Owned.lt (h:RepS w ρ X ob)(h1:ρ id=some L)(h2:L.has b):b<w.heap.size:=by
 cases ho:ob id with
 |none=>rw[h.none id ho]at h1;grind
 |some o=>
  have:=h.objs id o ho;cases o with
  |box t v=>
   obtain⟨b',cs,e1,e2,_⟩:=this;rw[e1]at h1;cases h1;cases h2;grind
  |mp e sz D=>
   obtain⟨b',hf,e1,e2⟩:=this;rw[e1]at h1;cases h1;exact e2.lt b h2
  |row e sz l=>
   obtain⟨x,xs,e1,_,_,e4⟩:=this;rw[e1]at h1;cases h1;exact(e4.lt b h2).2
  |dead=>rw[show ρ id=none from this]at h1;grind
  |tab T=>rw[this.1]at h1;grind
  |hrow e sz l=>
   obtain⟨x,xs,e1,_,_,e4⟩:=this;rw[e1]at h1;cases h1;exact(e4.lt b h2).2
  |raw es clock=>
   obtain⟨b',e1,e2⟩:=this;rw[e1]at h1;cases h1;rcases h2 with h2|⟨k,hd,h2,_⟩
   · grind
   · cases h2
  |it m since seen last=>
   obtain⟨b',x,e1,e2,_⟩:=this;rw[e1]at h1;cases h1;cases h2;grind
variable {nid:Nat}
theorem RepA'.nid_none (h:RepA' c M fr ob a w ρ)(hn: ¬M nid):ob nid=none∧ρ nid=none:=by
 have:ob nid=none:=by
  cases ho:ob nid with
  |none=>rfl
  |some o=>exact absurd (h.mo nid o ho).1 hn
 exact⟨this,h.s.none nid this⟩
theorem Moves.upd_new (hn: ¬M nid):Moves M ρ (upd ρ nid (some L)):=by
 intro id L' hm h;rw[bJ _ _ (fun e=>hn (by grind))]at h;grind
theorem RepA'.newObj {w1:World}{o:HO}{obj:Obj}
  (h:RepA' c M fr ob a w ρ) (hn: ¬M nid) (hM: ∀i,M i→M' i) (hM':M' nid) (e1:w1.heap=w.heap) (e2:w1.os=w.os) (e3:w1.tape=w.tape) (e4:w1.output=w.output)
  (hL: ∀b,L.has b→b=w.heap.size)
  (hO:Stay w (Owned ρ c.X) (w1.alloc obj) (Owned (upd ρ nid (some L)) c.X)→RepO (w1.alloc obj) (upd ρ nid (some L)) (Owned (upd ρ nid (some L)) c.X) nid o)
  (ho:o.men M')
  (hv:v= .junk∨RepV (w1.alloc obj) (upd ρ nid (some L)) (Owned (upd ρ nid (some L)) c.X) v x) (hvm:v.men M') (hd: ∀k,d=some k→k<c.n):
  RepA' c M' (updo fr d v) (upd ob nid (some o)) (a.put d x) (w1.alloc obj) (upd ρ nid (some L)):=by
 obtain⟨hob,hρ⟩:=h.nid_none hn;have hsz:w1.heap.size=w.heap.size:=by rw[e1]
 have hown: ∀b,Own (upd ρ nid (some L)) b→Own ρ b∨w.heap.size≤b:=by
  rintro b ⟨id,L',h1,h2⟩;by_cases e:id=nid
  · subst e;rw[aU]at h1;grind
  · rw[bJ _ _ e]at h1;exact .inl ⟨id,L',h1,h2⟩
 have hheap: ∀b,b<w.heap.size→(w1.alloc obj).heap[b]? =w.heap[b]? :=fun b hb=>by
  rw[Q2 _ _ _ (by omega),e1]
 have hs:Stay2 w (Own ρ) (w1.alloc obj) (Own (upd ρ nid (some L))):=
  ⟨fun b hb _=>hheap b hb,hown,by grind,e2,e3,e4⟩
 have hmv:Moves M ρ (upd ρ nid (some L)):=Moves.upd_new hn;refine h.step hM hs hmv ⟨fun id o' ho'=>?_,fun id hid=>?_,?_,?_⟩ hv hvm (fun id o' ho'=>?_) hd
 ·
  by_cases e:id=nid
  · subst e;rw[aU]at ho';cases ho';exact hO (hs.stay c.X)
  · rw[bJ _ _ e]at ho';exact RepO.stay (hs.stay c.X) hmv (h.mo id o' ho').2 (bJ _ _ e) (fun L b h1 h2=>hheap b (Owned.lt h.s h1 h2)) (h.s.objs id o' ho')
 ·
  by_cases e:id=nid
  · simp_all
  · rw[bJ _ _ e]at hid⊢;exact h.s.none id hid
 ·
  intro id id' L1 L2 b h1 h2 h3 h4;by_cases e:id=nid<;>by_cases e':id'=nid
  · rw[e,e']
  · subst e;rw[aU]at h1;rw[bJ _ _ e']at h2;cases h1;have hlt:=Owned.lt h.s h2 h4;grind
  · subst e';rw[aU]at h2;rw[bJ _ _ e]at h1;cases h2;have hlt:=Owned.lt h.s h1 h3;grind
  · rw[bJ _ _ e]at h1;rw[bJ _ _ e']at h2;exact h.s.apart id id' L1 L2 b h1 h2 h3 h4
 ·
  intro id L' b h1 h2;by_cases e:id=nid
  · subst e;rw[aU]at h1;cases h1;cases hL _ h2;exact fun hx=>absurd (G7 (h.xlt _ hx) h.base.size) (V3 _)
  · rw[bJ _ _ e]at h1;exact h.s.xb id L' b h1 h2
 ·
  by_cases e:id=nid
  · simp_all
  ·
   rw[bJ _ _ e]at ho';obtain⟨h1,h2⟩:=h.mo id o' ho';refine⟨hM _ h1,?_⟩;cases o' with
   |box t v=>exact HV.men_mono hM h2
   |row _ _ _=>trivial
   |mp _ _ _=>trivial
   |dead=>trivial
   |tab _=>trivial
   |hrow _ _ _=>exact HV.menL_mono hM h2
   |raw _ _=>trivial
   |it _ _ _ _=>exact hM _ h2
theorem RepA'.setObj {id0:Nat}{o:HO}{b0:Nat}
  (h:RepA' c M fr ob a w ρ) (hid:ρ id0=some L) (hLb:L.has b0) (hm0:M id0)
  (hb: ∀b,b≠b0→w'.heap[b]? =w.heap[b]?) (e0:w'.heap.size=w.heap.size) (e2:w'.os=w.os) (e3:w'.tape=w.tape) (e4:w'.output=w.output)
  (hO:Stay w (Owned ρ c.X) w' (Owned ρ c.X)→RepO w' ρ (Owned ρ c.X) id0 o) (ho:o.men M)
  (hv:Stay w (Owned ρ c.X) w' (Owned ρ c.X)→(v= .junk∨RepV w' ρ (Owned ρ c.X) v x)) (hvm:v.men M) (hd: ∀k,d=some k→k<c.n):
  RepA' c M (updo fr d v) (upd ob id0 (some o)) (a.put d x) w' ρ:=by
 have hs:Stay2 w (Own ρ) w' (Own ρ):=
  ⟨fun b _ hO=>hb b (fun e=>hO (e▸⟨id0,L,hid,hLb⟩)),fun _ h=> .inl h,by omega,e2,e3,e4⟩
 refine h.step (fun _ h=>h) hs (Moves.refl _ _) ⟨fun id o' ho'=>?_,fun id hid'=>?_,h.s.apart,h.s.xb⟩ (hv (hs.stay c.X)) hvm (fun id o' ho'=>?_) hd
 ·
  by_cases e:id=id0
  · subst e;rw[aU]at ho';cases ho';exact hO (hs.stay c.X)
  · rw[bJ _ _ e]at ho';exact RepO.stay (hs.stay c.X) (Moves.refl M ρ) (h.mo id o' ho').2 rfl (fun L' b h1 h2=>hb b (fun e'=>e (h.s.apart id id0 L' L b h1 hid h2 (e'▸hLb)))) (h.s.objs id o' ho')
 ·
  by_cases e:id=id0
  · simp_all
  · rw[bJ _ _ e]at hid';exact h.s.none id hid'
 ·
  by_cases e:id=id0
  · simp_all
  · rw[bJ _ _ e]at ho';exact h.mo id o' ho'
end Go.Hl
