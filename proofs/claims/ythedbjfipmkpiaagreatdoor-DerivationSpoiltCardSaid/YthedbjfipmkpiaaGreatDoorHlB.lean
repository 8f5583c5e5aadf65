/- HL, part B: objects, states, and how a state lies in a world; the steps that worlds take. By an AI agent. -/
import Derived.WalkKit
import Derived.Deep.MidRow
set_option linter.unusedSimpArgs false
set_option linter.unusedVariables false
set_option linter.defProp false
set_option linter.defProp false
namespace Go
def A0:=@List.length_map
def A1:=@Int.natCast_nonneg
def A2:=@And.intro
def A3:=@List.length_append
def A4:=@Int.ofNat_lt
def A5:=@List.take_succ_eq_append_getElem
def A6:=@Int.toNat_natCast
def A7:=@if_neg
def A8:=@List.length_cons
def A9:=@List.getElem?_eq_getElem
def B0:=@Go.IntWalk.i64_in
def B1:=@if_pos
def B3:=@Bool.and_eq_true
def B4:=@List.getD_eq_getElem?_getD
def B5:=@List.getElem_mem
def B6:=@Bool.true_and
def B7:=@decide_eq_false_iff_not
def B8:=@List.map_cons
def B9:=@Bool.false_and
def C0:=@List.length_nil
def C4:=@decide_eq_true_eq
def C5:=@List.map_append
def C6:=@List.take_length
def C7:=@Nat.le_of_ble_eq_true
def C8:=@List.take_of_length_le
def C9:=@Option.map_eq_some_iff
def D3:=@List.eq_nil_of_length_eq_zero
def D4:=@Go.run_underlying
def D5:=@Bool.false_or
def D6:=@List.mem_append
def D7:=@Bool.and_false
def D8:=@Bool.and_true
def D9:=@Bool.true_or
def E0:=@List.mem_cons
def E1:=@List.length_take
def E2:=@Bool.and_self
def E3:=@Nat.le_refl
def E4:=@Bool.or_false
def E5:=@List.mem_singleton
def E6:=@Go.Result.andThen_ok
def E7:=@Int.toNat_zero
def E8:=@Option.some.injEq
def E9:=@Option.getD_some
def F0:=@Nat.zero_add
def F1:=@Bool.not_true
def F2:=@List.map_nil
def F3:=@Bool.or_true
def F4:=@Bool.or_self
def F5:=@List.drop_eq_getElem_cons
def F6:=@Option.some.inj
def F7:=@Bool.not_false
def F8:=@List.cons.injEq
def F9:=@of_decide_eq_true
def G0:=@Option.isSome_iff_exists
def G1:=@Array.getElem?_eq_some_iff
def G2:=@List.drop_zero
def G3:=@List.flatMap_cons
def G4:=@if_true
def G5:=@List.all_eq_true
def G6:=@Go.Sem.run_bind
def G7:=@of_decide_eq_false
def G8:=@List.length_drop
def G9:=@Bool.false_eq_true
def H0:=@List.mem_map
def H1:=@Int.ofNat_le
def H2:=@List.mem_cons_of_mem
def H3:=@List.getElem?_eq_some_iff
def H4:=@Nat.lt_or_ge
def H5:=@List.append_assoc
def H6:=@Nat.sub_zero
def H7:=@List.not_mem_nil
def H8:=@List.mem_of_mem_drop
def H9:=@List.mem_cons_self
def I0:=@Nat.lt_of_lt_of_le
def I1:=@Nat.zero_le
def I2:=@Option.map_some
def I3:=@Nat.mul_le_mul_right
def I4:=@and_self
def I5:=@List.getElem?_eq_none
def I6:=@beq_iff_eq
def I7:=@Go.Sem.run_pure
def I8:=@List.size_toArray
def I9:=@List.flatMap_nil
def J0:=@Option.bind_some
def J1:=@List.nil_append
def J2:=@beq_eq_false_iff_ne
def J3:=@List.mem_of_mem_take
def J4:=@List.cons_append
def J5:=@beq_self_eq_true
def J6:=@Nat.lt_succ_self
def J7:=@List.append_nil
def J8:=@List.length_pos_iff
def J9:=@and_true
def K0:=@Int.toNat_one
def K3:=@List.mem_flatMap
def K4:=@List.findIdx?_cons
def K5:=@Bool.eq_iff_iff
def K6:=@List.mapM_cons
def K7:=@Go.IntWalk.u8_in
def K8:=@Array.getD_eq_getD_getElem?
def K9:=@List.take_append_drop
def L3:=@List.mem_append_right
def L4:=@Nat.add_zero
def L5:=@List.getElem_of_mem
def L6:=@List.getElem?_append_right
def L7:=@Go.MapKept.run_getObj_map
def L8:=@if_false
def L9:=@Bool.and_eq_false_iff
def M1:=@List.getElem?_cons_zero
def M2:=@List.getElem?_cons_succ
def M3:=@List.getElem?_take
def M4:=@Bool.or_eq_false_iff
def M5:=@List.length_set
def M6:=@Nat.min_eq_left
def M7:=@List.getElem?_append_left
def M8:=@List.mem_or_eq_of_mem_set
def M9:=@List.getD_cons_zero
def N0:=@Nat.add_mul
def N1:=@Bool.not_eq_true'
def N2:=@Array.getElem?_toList
def N3:=@List.nodup_nil
def N4:=@Go.heap_alloc_new
def N5:=@List.mem_range
def N6:=@or_false
def N7:=@Bool.or_eq_true
def N8:=@List.set_cons_succ
def N9:=@Nat.add_sub_cancel
def O0:=@List.findIdx?_eq_some_iff_getElem
def O1:=@List.getElem?_map
def O2:=@List.getElem_cons_succ
def O3:=@List.getElem_cons_zero
def O4:=@List.drop_eq_nil_of_le
def O5:=@Array.length_toList
def O6:=@List.map_congr_left
def O7:=@List.flatMap_append
def O8:=@decide_eq_false
def O9:=@Array.getElem?_eq_getElem
def P0:=@List.pairwise_iff_getElem
def P1:=@List.getElem?_toArray
def P2:=@Array.mem_of_getElem?
def P3:=@List.map_drop
def P4:=@Nat.mul_one
def P5:=@List.take_zero
def P6:=@Option.map_none
def P7:=@UInt8.toNat_inj
def P8:=@List.take_succ_cons
def P9:=@List.foldlM_cons
def Q0:=@Array.getElem?_append_left
def Q1:=@List.pairwise_cons
def Q2:=@Int.tmod_lt_of_pos
def Q3:=@List.range_eq_range'
def Q4:=@List.map_map
def Q5:=@List.findIdx?_nil
def Q6:=@List.all_cons
def Q7:=@List.drop_succ_cons
def Q8:=@Go.RowKit.Below.heap_alloc
def Q9:=@true_and
def R1:=@List.take_take
def R3:=@Go.wpIn_mono
def R4:=@List.any_eq_true
def R5:=@List.take_append_of_le_length
def R6:=@Nat.le_trans
def R7:=@Go.setRow_other
def R8:=@List.map_set
def R9:=@bne_iff_ne
def S1:=@List.getElem?_drop
def S2:=@List.foldlM_append
def S3:=@Nat.le_of_lt
def S4:=@beq_false_of_ne
def S5:=@List.all_append
def S6:=@List.map_take
def S7:=@List.length_singleton
def S8:=@UInt8.le_iff_toNat_le
def S9:=@List.flatten_cons
def T1:=@Go.setRow_heap
def T7:=@Array.toArray_toList
def T8:=@List.mem_of_getElem?
def T9:=@List.mem_append_left
def U0:=@Ne.symm
def U1:=@Array.toList_map
def U2:=@List.range'_succ
def U3:=@Nat.sub_self
def U4:=@Decidable.em
def U5:=@Array.mapM_eq_mapM_toList
def U6:=@List.findIdx?_eq_none_iff
def U7:=@Go.ByteArray.toList_mk
def U8:=@bne_eq_false_iff_eq
def U9:=@Go.Oper.semAt_eq
def V0:=@Nat.not_lt_zero
def V1:=@List.set_cons_zero
def V2:=@Option.isSome_some
def V3:=@UInt8.toNat_ofNat'
def V4:=@Int.lt_tmod_of_pos
def V5:=@List.ext_getElem?
def V6:=@Nat.add_comm
def V7:=@Go.MapKept.run_setObj_map
def V8:=@Option.map_eq_none_iff
def V9:=@Array.all_eq_true_iff_forall_mem
def W5:=@Bool.and_assoc
def W6:=@List.takeWhile_append_dropWhile
def W7:=@List.length_replicate
def W8:=@List.set_append_right
def W9:=@List.contains_iff_mem
def X0:=@List.drop_length
def X1:=@List.drop_subset
def X2:=@List.lt_trans
def X3:=@Go.setRow_size
def X4:=@Go.fenced_calm
def X5:=@List.mem_iff_getElem
def X6:=@List.take_left'
def X7:=@Int.max_eq_left
def X8:=@List.nodup_cons
def X9:=@List.range_succ
def Y0:=@List.dropLast_concat_getLast
def Y1:=@List.getElem?_range
def Y2:=@List.replicate_succ
def Y3:=@Go.run_callFunc_extern
def Y4:=@List.getElem_append
def Y5:=@Iff.rfl
def Y6:=@Go.grownCap_le_maxLen
def Y7:=@List.take_left
def Y8:=@decide_eq_true
def Y9:=@Option.ne_none_iff_exists'
def Z0:=@Go.ChangeShapes.trodAll_cons
def Z1:=@Decidable.byContradiction
def Z2:=@Go.run_storeCells_at
def Z3:=@Go.heap_alloc_old
def Z4:=@Array.size_append
def Z5:=@Go.World.ownsRow_nil
def Z6:=@List.length_range
def Z7:=@Prod.mk.injEq
def Z8:=@Go.ChangeShapes.trodAll_nil
def Z9:=@Go.ChangeShapes.trodAll_mk0
def AA:=@List.range'_eq_map_range
def AB:=@List.getElem_append_left
def AC:=@Option.bind_eq_some_iff
def AD:=@ne_eq
def AF:=@Nat.le_mul_of_pos_right
def AG:=@Nat.mod_eq_of_lt
def AH:=@List.mem_toArray
def AJ:=@List.range'_zero
def AK:=@Go.World.size_alloc
def AL:=@List.getElem_map
def AM:=@Nat.le_of_not_lt
def AN:=@Nat.succ_mul
def AO:=@Array.getElem?_eq_none
def AP:=@getElem!_pos
def AQ:=@List.foldl_cons
def AR:=@Subtype.ext_iff
def AS:=@List.find?_some
def AT:=@Go.Oper.upon_value
def AV:=@Int.tmod_nonneg
def AW:=@List.singleton_append
def AY:=@Array.getElem?_modify
def AZ:=@Go.cell_of_row
def BA:=@Go.size_zeroCells
def BB:=@List.drop_take
def BC:=@List.drop_drop
def BD:=@Int.le_refl
def BE:=@List.forall_mem_cons
def BF:=@Nat.pow_le_pow_right
def BG:=@List.pairwise_append
def BH:=@Option.map_map
def BI:=@List.dropLast_concat
def BJ:=@List.mem_of_getLast?
def BK:=@List.dropLast_subset
def BL:=@Go.mem_ready
def BM:=@Array.toList_append
def BN:=@List.takeWhile_cons
def BO:=@List.dropWhile_cons
def BP:=@List.toList_toArray
def BQ:=@List.getD_cons_succ
def BR:=@List.take_set_of_le
def BS:=@Array.getElem?_push
def BT:=@Int.toNat_of_nonneg
def BU:=@Nat.lt_irrefl
def BV:=@Nat.add_assoc
def BW:=@Go.StepsIn.trans
def BX:=@Go.mapM_some_get
def BY:=@List.sum_cons
def BZ:=@Nat.not_lt
def CB:=@List.mem_replicate
def CC:=@List.getElem_range
def CD:=@List.find?_eq_none
def CE:=@Bool.not_eq_false'
def CG:=@Option.isSome_none
def CK:=@List.getElem?_set
def CL:=@Decidable.not_not
def CM:=@not_false_eq_true
def CN:=@Nat.add_left_comm
def CO:=@Array.toList_push
def CP:=@implies_true
def CQ:=@List.contains_nil
def CR:=@not_true_eq_false
def CS:=@decide_false
def CU:=@bne_self_eq_false
def CW:=@List.sum_nil
def CX:=@List.getLast_cons
def CY:=@UInt8.ofNat_toNat
def CZ:=@Nat.le_succ_of_le
def DA:=@List.all_eq_false
def DB:=@List.nodup_append
def DC:=@List.count_append
def DD:=@List.reverse_cons
def DO:=@Go.grownCap_ge
def DQ:=@Go.getD_set_ne
def DR:=@Go.wpIn_region
def DS:=@decide_true
def FN:=@eq_true
def FO:=@Eq.symm
end Go
namespace Go.Hl
open Go
inductive CV where
 |bool (b:Bool)
 |int (k:IntKind) (n:Int)
 |str (s:List UInt8)
 |agg (l:List CV)
 |nils
 |slc (l:List CV)
 |rp (v:CV)
 |fn (f:FuncId)
 |nilp|nilf|nili|nilm
 |ifc (t:TypeId) (v:CV)
 deriving Inhabited
mutual
def CV.cells :CV→Nat
 | .agg l=>CV.cellsL l
 |_=>1
def CV.cellsL :List CV→Nat
 |[]=>0
 |v::vs=>v.cells+CV.cellsL vs
end
def CV.isAgg :CV→Bool
 | .agg _=>true
 |_=>false
def eN (agg:Bool)(cs:List Value):Value:=if agg then .agg cs.toArray else cs.headD (.tuple #[])
def Reads (w:World)(O:Nat→Prop)(ad:Addr)(xs:List Value):Prop:=
 (∀j u,xs[j]? =some u→w.cell? (ad.add j)=some u)∧(xs≠[]→ ¬O ad.block)
mutual
def RepC (w:World)(O:Nat→Prop):CV→List Value→Prop
 | .bool b,cs=>cs=[.bool b]
 | .int k n,cs=>cs=[.int k n]
 | .str s,cs=>cs=[.string ⟨s.toArray⟩]
 | .agg l,cs=>RepL w O l cs
 | .nils,cs=>cs=[.slice none 0 0]
 | .slc l,cs=> ∃a cap xs sz,cs=[.slice a l.length cap]∧RepL w O l xs∧(∀v∈l,v.cells=sz)∧l.length≤cap∧(a=none→cap=0)∧ ∀ad,a=some ad→Reads w O ad xs
 | .rp v,cs=> ∃ad xs,cs=[.pointer (some ad)]∧RepC w O v xs∧Reads w O ad xs
 | .fn f,cs=>cs=[.func (.func f) #[] #[]]
 | .nilp,cs=>cs=[.pointer none]
 | .nilf,cs=>cs=[.nilFunc]
 | .nili,cs=>cs=[.nilIface]
 | .nilm,cs=>cs=[.map none]
 | .ifc t v,cs=> ∃xs,RepC w O v xs∧cs=[.iface t (eN v.isAgg xs)]
def RepL (w:World)(O:Nat→Prop):List CV→List Value→Prop
 |[],cs=>cs=[]
 |v::vs,cs=> ∃c1 c2,cs=c1++c2∧RepC w O v c1∧RepL w O vs c2
end
theorem eO {w:World}{O:Nat→Prop}: ∀{l1 l2:List CV} {cs:List Value},RepL w O (l1++l2) cs↔ ∃I J,cs=I++J∧RepL w O l1 I∧RepL w O l2 J
 |[],l2,cs=>by simp only[List.nil_append,RepL];grind
 |v::l1,l2,cs=>by
  simp only[List.cons_append,RepL,eO (l1:=l1)];grind
mutual
theorem bK {w:World}{O:Nat→Prop}: ∀{v:CV} {cs:List Value},RepC w O v cs→cs.length=v.cells
 | .agg l,cs,h=>by simp only[RepC]at h;simpa[CV.cells]using pK h
 | .bool _,cs,h=>by grind[RepC,CV.cells]
 | .int _ _,cs,h=>by grind[RepC,CV.cells]
 | .str _,cs,h=>by grind[RepC,CV.cells]
 | .nils,cs,h=>by grind[RepC,CV.cells]
 | .slc _,cs,h=>by simp only[RepC]at h;obtain⟨a,cap,xs,sz,rfl,_⟩:=h;simp[CV.cells]
 | .rp _,cs,h=>by simp only[RepC]at h;obtain⟨a,xs,rfl,_⟩:=h;simp[CV.cells]
 | .fn _,cs,h=>by grind[RepC,CV.cells]
 | .nilp,cs,h=>by grind[RepC,CV.cells]
 | .nilf,cs,h=>by grind[RepC,CV.cells]
 | .nili,cs,h=>by grind[RepC,CV.cells]
 | .nilm,cs,h=>by grind[RepC,CV.cells]
 | .ifc _ _,cs,h=>by simp only[RepC]at h;obtain⟨xs,_,rfl⟩:=h;simp[CV.cells]
theorem pK {w:World}{O:Nat→Prop}: ∀{l:List CV} {cs:List Value},RepL w O l cs→cs.length=CV.cellsL l
 |[],cs,h=>by grind[RepL,CV.cellsL]
 |v::vs,cs,h=>by
  simp only[RepL]at h;obtain⟨c1,U,rfl,I,J⟩:=h;simp[CV.cellsL,bK I,pK J]
end
def CellsAt (w:World)(b:Nat):Prop:= ∃cs t fz,w.heap[b]? =some (.cells cs t fz)
theorem CellsAt.lt {w:World}{b:Nat}(h:CellsAt w b):b<w.heap.size:=let⟨_,_,_,h⟩:=h;(Array.getElem?_eq_some_iff.1 h).1
theorem wH {w:World}{I:Addr}{u:Value}(h:w.cell? I=some u):CellsAt w I.block:=by
 simp only[World.cell?]at h;split at h
 · rename_i cs t J U;exact⟨cs,t,J,U⟩
 grind
structure Stay (w:World)(O:Nat→Prop)(w':World)(O':Nat→Prop):Prop where
 block: ∀b,CellsAt w b→ ¬O b→w'.heap[b]? =w.heap[b]? ∧ ¬O' b
theorem Reads.stay {w w':World}{O O':Nat→Prop}(hs:Stay w O w' O'){I:Addr}{xs:List Value}(h:Reads w O I xs):Reads w' O' I xs:=by
 by_cases hx:xs=[]
 · subst hx;exact⟨by simp,by simp⟩
 ·
  have J:=h.2 hx;have hb:CellsAt w I.block:=by
   cases xs with
   |nil=>grind
   |cons u us=>
    have:=wH (h.1 0 u (by simp));grind[Addr.add]
  obtain⟨h1,h2⟩:=hs.block _ hb J;refine⟨fun j u U=>?_,fun _=>h2⟩;have:=h.1 j u U;grind[Addr.add,World.cell?_of_block]
mutual
theorem RepC.stay {w w':World}{O O':Nat→Prop}(hs:Stay w O w' O'): ∀{v:CV} {cs:List Value},RepC w O v cs→RepC w' O' v cs
 | .agg l,cs,h=>by simp only[RepC]at h⊢;exact RepL.stay hs h
 | .bool _,cs,h=>by simpa only[RepC]using h
 | .int _ _,cs,h=>by simpa only[RepC]using h
 | .str _,cs,h=>by simpa only[RepC]using h
 | .nils,cs,h=>by simpa only[RepC]using h
 | .slc l,cs,h=>by
  simp only[RepC]at h⊢;obtain⟨a,cap,xs,sz,I,J,U,h4,h5,h6⟩:=h;exact⟨a,cap,xs,sz,I,RepL.stay hs J,U,h4,h5,fun ad he=>(h6 ad he).stay hs⟩
 | .rp v,cs,h=>by
  simp only[RepC]at h⊢;obtain⟨a,xs,I,J,U⟩:=h;exact⟨a,xs,I,RepC.stay hs J,U.stay hs⟩
 | .fn _,cs,h=>by simpa only[RepC]using h
 | .nilp,cs,h=>by simpa only[RepC]using h
 | .nilf,cs,h=>by simpa only[RepC]using h
 | .nili,cs,h=>by simpa only[RepC]using h
 | .nilm,cs,h=>by simpa only[RepC]using h
 | .ifc _ v,cs,h=>by
  simp only[RepC]at h⊢;obtain⟨xs,I,J⟩:=h;exact⟨xs,RepC.stay hs I,J⟩
theorem RepL.stay {w w':World}{O O':Nat→Prop}(hs:Stay w O w' O'): ∀{l:List CV} {cs:List Value},RepL w O l cs→RepL w' O' l cs
 |[],cs,h=>by simpa only[RepL]using h
 |v::vs,cs,h=>by
  simp only[RepL]at h⊢;obtain⟨c1,c2,I,J,U⟩:=h;exact⟨c1,c2,I,RepC.stay hs J,RepL.stay hs U⟩
end
inductive HV where
 |junk
 |c (v:CV)
 |agg (l:List HV)
 |own (id n:Nat)
 |ptr (id off:Nat)
 |eptr (id n i sz off:Nat)
 |osl (id n lo sz hi:Nat)
 |mapr (id:Nat)
 |mrow (id:Nat) (k:List UInt8) (n:Nat)
 |clo (f:FuncId) (caps:List HV)
 |opq (v:Value)
 |tup (l:List HV)
 deriving Inhabited
inductive Loc where
 |blk (b:Nat)
 |hdr (v:Value)
 |mp (b:Nat) (hf:List UInt8→Option Value)
def Loc.has :Loc→Nat→Prop
 | .blk b,b'=>b'=b
 | .hdr v,b'=>v.ownBlock=some b'
 | .mp b hf,b'=>b'=b∨ ∃k h,hf k=some h∧h.ownBlock=some b'
abbrev Env :=Nat→Option Loc
def Own (ρ:Env)(b:Nat):Prop:= ∃id L,ρ id=some L∧L.has b
def Owned (ρ:Env)(X:Nat→Prop)(b:Nat):Prop:=X b∨Own ρ b
def hlen :Value→Nat
 | .slice _ n _=>n
 |_=>0
mutual
def HV.cells :HV→Nat
 | .c v=>v.cells
 | .agg l=>HV.cellsL l
 |_=>1
def HV.cellsL :List HV→Nat
 |[]=>0
 |v::vs=>v.cells+HV.cellsL vs
end
def HV.isAgg :HV→Bool
 | .c v=>v.isAgg
 | .agg _=>true
 |_=>false
def Value.isAgg' :Value→Bool
 | .agg _=>true
 |_=>false
mutual
def RepH (w:World)(ρ:Env)(O:Nat→Prop):HV→List Value→Prop
 | .junk,_=>False
 | .c v,cs=>RepC w O v cs
 | .agg l,cs=>RepHL w ρ O l cs
 | .own id n,cs=> ∃x,cs=[x]∧x.oneCell'=true∧ ∀h,ρ id=some (.hdr h)→n≤hlen h∧(hlen h=n→x=h)
 | .ptr id off,cs=> ∃x,cs=[x]∧x.oneCell'=true∧ ∀b,ρ id=some (.blk b)→x= .pointer (some ⟨b,off,none⟩)
 | .eptr id n i sz off,cs=> ∃x,cs=[x]∧x.oneCell'=true∧ ∀h,ρ id=some (.hdr h)→n≤hlen h∧(hlen h=n→ ∀g cap,h= .slice (some ⟨g,0,none⟩) n cap→x= .pointer (some ⟨g,i*sz+off,none⟩))
 | .osl id n i sz off,cs=> ∃x,cs=[x]∧x.oneCell'=true∧(∀h,ρ id=some (.hdr h)→n≤hlen h∧(hlen h=n→ ∀g cap,h= .slice (some ⟨g,0,none⟩) n cap→x= .slice (some ⟨g,if cap=i then 0 else i*sz,none⟩) (off-i) (cap-i)))∧
  ∀b,ρ id=some (.blk b)→x= .slice (some ⟨b,if n=i then 0 else i*sz,none⟩) (off-i) (n-i)
 | .mapr id,cs=> ∃x,cs=[x]∧x.oneCell'=true∧ ∀b hf,ρ id=some (.mp b hf)→x= .map (some b)
 | .mrow id k n,cs=> ∃x,cs=[x]∧x.oneCell'=true∧ ∀b hf h,ρ id=some (.mp b hf)→hf k=some h→n≤hlen h∧(hlen h=n→x=h)
 | .clo f caps,cs=> ∃xs,cs=[.func (.func f) #[] xs.toArray]∧RepHV w ρ O caps xs
 | .opq v,cs=>cs=[v]∧v.oneCell'=true
 | .tup l,cs=> ∃xs,cs=[.tuple xs.toArray]∧RepHV w ρ O l xs
def RepHL (w:World)(ρ:Env)(O:Nat→Prop):List HV→List Value→Prop
 |[],cs=>cs=[]
 |v::vs,cs=> ∃c1 c2,cs=c1++c2∧RepH w ρ O v c1∧RepHL w ρ O vs c2
def RepHV (w:World)(ρ:Env)(O:Nat→Prop):List HV→List Value→Prop
 |[],xs=>xs=[]
 |v::vs,xs=> ∃y ys,xs=y::ys∧(RepH w ρ O v y.cells.toList∧v.isAgg=Value.isAgg' y)∧RepHV w ρ O vs ys
end
def RepV (w:World)(ρ:Env)(O:Nat→Prop)(v:HV)(x:Value):Prop:=RepH w ρ O v x.cells.toList∧v.isAgg=Value.isAgg' x
theorem bJ {w:World}{ρ:Env}{O:Nat→Prop}{v:HV}{I:List HV}{xs:List Value}:
  RepHV w ρ O (v::I) xs↔ ∃y J,xs=y::J∧RepV w ρ O v y∧RepHV w ρ O I J:=by simp only[RepHV,RepV]
mutual
theorem bR {w:World}{ρ:Env}{O:Nat→Prop}: ∀{v:HV} {cs:List Value},RepH w ρ O v cs→cs.length=v.cells
 | .junk,cs,h=>by simp only[RepH]at h
 | .c v,cs,h=>by grind[RepH,HV.cells,bK]
 | .agg l,cs,h=>by simp only[RepH]at h;simpa[HV.cells]using nK h
 | .own ..,cs,h=>by simp only[RepH]at h;obtain⟨x,rfl,_⟩:=h;simp[HV.cells]
 | .ptr ..,cs,h=>by simp only[RepH]at h;obtain⟨x,rfl,_⟩:=h;simp[HV.cells]
 | .eptr ..,cs,h=>by simp only[RepH]at h;obtain⟨x,rfl,_⟩:=h;simp[HV.cells]
 | .osl ..,cs,h=>by simp only[RepH]at h;obtain⟨x,rfl,_⟩:=h;simp[HV.cells]
 | .mapr ..,cs,h=>by simp only[RepH]at h;obtain⟨x,rfl,_⟩:=h;simp[HV.cells]
 | .mrow ..,cs,h=>by simp only[RepH]at h;obtain⟨x,rfl,_⟩:=h;simp[HV.cells]
 | .clo ..,cs,h=>by simp only[RepH]at h;obtain⟨x,rfl,_⟩:=h;simp[HV.cells]
 | .opq _,cs,h=>by grind[RepH,HV.cells]
 | .tup ..,cs,h=>by simp only[RepH]at h;obtain⟨x,rfl,_⟩:=h;simp[HV.cells]
theorem nK {w:World}{ρ:Env}{O:Nat→Prop}: ∀{l:List HV} {cs:List Value},RepHL w ρ O l cs→cs.length=HV.cellsL l
 |[],cs,h=>by grind[RepHL,HV.cellsL]
 |v::vs,cs,h=>by
  simp only[RepHL]at h;obtain⟨c1,U,rfl,I,J⟩:=h;simp[HV.cellsL,bR I,nK J]
end
theorem tU {w:World}{ρ:Env}{O:Nat→Prop}: ∀{l1 l2:List HV} {cs:List Value},RepHL w ρ O (l1++l2) cs↔ ∃J I,cs=J++I∧RepHL w ρ O l1 J∧RepHL w ρ O l2 I
 |[],l2,cs=>by simp only[List.nil_append,RepHL];grind
 |v::l1,l2,cs=>by
  simp only[List.cons_append,RepHL,tU (l1:=l1)];grind
theorem tV {w:World}{ρ:Env}{O:Nat→Prop}: ∀{l:List CV} {cs:List Value},RepHL w ρ O (l.map .c) cs↔RepL w O l cs
 |[],cs=>by simp[RepHL,RepL]
 |v::vs,cs=>by simp only[List.map_cons,RepHL,RepL,RepH,tV (l:=vs)]
/- The ids that a value mentions all lie in 'M'. -/
mutual
def HV.men (M:Nat→Prop):HV→Prop
 | .junk=>True
 | .c _=>True
 | .agg l=>HV.menL M l
 | .own id _=>M id
 | .ptr id _=>M id
 | .eptr id _ _ _ _=>M id
 | .osl id _ _ _ _=>M id
 | .mapr id=>M id
 | .mrow id _ _=>M id
 | .clo _ caps=>HV.menL M caps
 | .opq _=>True
 | .tup l=>HV.menL M l
def HV.menL (M:Nat→Prop):List HV→Prop
 |[]=>True
 |v::vs=>v.men M∧HV.menL M vs
end
mutual
theorem HV.men_mono {M M':Nat→Prop}(h: ∀i,M i→M' i): ∀{v:HV},v.men M→v.men M'
 | .junk,_=>by simp[HV.men]
 | .c _,_=>by simp[HV.men]
 | .agg l,hv=>by simp only[HV.men]at hv⊢;exact HV.menL_mono h hv
 | .own ..,hv=>by simp only[HV.men]at hv⊢;exact h _ hv
 | .ptr ..,hv=>by simp only[HV.men]at hv⊢;exact h _ hv
 | .eptr ..,hv=>by simp only[HV.men]at hv⊢;exact h _ hv
 | .osl ..,hv=>by simp only[HV.men]at hv⊢;exact h _ hv
 | .mapr ..,hv=>by simp only[HV.men]at hv⊢;exact h _ hv
 | .mrow ..,hv=>by simp only[HV.men]at hv⊢;exact h _ hv
 | .clo _ caps,hv=>by simp only[HV.men]at hv⊢;exact HV.menL_mono h hv
 | .opq _,_=>by simp[HV.men]
 | .tup l,hv=>by simp only[HV.men]at hv⊢;exact HV.menL_mono h hv
theorem HV.menL_mono {M M':Nat→Prop}(h: ∀i,M i→M' i): ∀{l:List HV},HV.menL M l→HV.menL M' l
 |[],_=>by simp[HV.menL]
 |v::vs,hv=>by simp only[HV.menL]at hv⊢;exact⟨HV.men_mono h hv.1,HV.menL_mono h hv.2⟩
end
theorem HV.menL_append {M:Nat→Prop}: ∀{l1 l2:List HV},HV.menL M (l1++l2)↔HV.menL M l1∧HV.menL M l2
 |[],l2=>by simp[HV.menL]
 |v::l1,l2=>by simp_all[List.cons_append,HV.menL,HV.menL_append,and_assoc]
theorem HV.menL_c {M:Nat→Prop}: ∀{l:List CV},HV.menL M (l.map .c)
 |[]=>by simp[HV.menL]
 |v::vs=>by simp_all[List.map_cons,HV.menL,HV.men,true_and,HV.menL_c]
def Moves (M:Nat→Prop)(ρ ρ':Env):Prop:=
 ∀id L',M id→ρ' id=some L'→ ∃L,ρ id=some L∧(L=L'∨(∃h h',L= .hdr h∧L'= .hdr h'∧hlen h<hlen h')∨ ∃b f f',L= .mp b f∧L'= .mp b f'∧ ∀k h',f' k=some h'→ ∃h,f k=some h∧(h=h'∨hlen h<hlen h'))
theorem Moves.refl (M:Nat→Prop)(ρ:Env):Moves M ρ ρ:=fun _ L' _ h=>⟨L',h,.inl rfl⟩
theorem Moves.trans {M M':Nat→Prop}{a b c:Env}(J: ∀i,M i→M' i)(h:Moves M a b)(h':Moves M' b c):Moves M a c:=by
 intro id L hm hc;obtain⟨U,h1,h2⟩:=h' id L (J _ hm) hc;obtain⟨L0,h3,I⟩:=h id U hm h1;refine⟨L0,h3,?_⟩;rcases h2 with rfl|⟨x,y,rfl,rfl,ad⟩|⟨x,y,z,rfl,rfl,ab⟩
 · grind
 · grind
 ·
  rcases I with rfl|⟨_,_,_,e,_⟩|⟨_,f0,_,rfl,e,aa⟩
  · grind
  · cases e
  · cases e;grind
mutual
theorem RepH.stay {w w':World}{ρ ρ':Env}{O O':Nat→Prop}{M:Nat→Prop}(hs:Stay w O w' O')(hm:Moves M ρ ρ'): ∀{v:HV} {cs:List Value},v.men M→RepH w ρ O v cs→RepH w' ρ' O' v cs
 | .junk,cs,_,h=>by simp only[RepH]at h
 | .c v,cs,_,h=>by simp only[RepH]at h⊢;exact h.stay hs
 | .agg l,cs,hv,h=>by simp only[RepH,HV.men]at h hv⊢;exact RepHL.stay hs hm hv h
 | .own id n,cs,hv,h=>by
  simp only[RepH,HV.men]at h hv⊢;obtain⟨x,h1,h0,I⟩:=h;refine⟨x,h1,h0,fun y hy=>?_⟩;obtain⟨L,J,e⟩:=hm id _ hv hy;rcases e with rfl|⟨a,b,rfl,e2,aa⟩|⟨b',f,f',rfl,e3,U⟩
  · exact I y J
  · cases e2;have:=(I a J).1;exact⟨by omega,fun hn=>by omega⟩
  · cases e3
 | .ptr id off,cs,hv,h=>by
  simp only[RepH,HV.men]at h hv⊢;obtain⟨x,h1,h0,I⟩:=h;refine⟨x,h1,h0,fun y hy=>?_⟩;obtain⟨L,J,e⟩:=hm id _ hv hy;rcases e with rfl|⟨a,b,rfl,e2,aa⟩|⟨b',f,f',rfl,e3,U⟩
  · exact I y J
  · cases e2
  · cases e3
 | .eptr id n _ _ _,cs,hv,h=>by
  simp only[RepH,HV.men]at h hv⊢;obtain⟨x,h1,h0,I⟩:=h;refine⟨x,h1,h0,fun y hy=>?_⟩;obtain⟨L,J,e⟩:=hm id _ hv hy;rcases e with rfl|⟨a,b,rfl,e2,aa⟩|⟨b',f,f',rfl,e3,U⟩
  · exact I y J
  · cases e2;have:=(I a J).1;exact⟨by omega,fun hn=>by omega⟩
  · cases e3
 | .osl id n _ _ _,cs,hv,h=>by
  simp only[RepH,HV.men]at h hv⊢;obtain⟨x,h1,h0,I,h3⟩:=h;refine⟨x,h1,h0,fun y hy=>?_,fun y hy=>?_⟩
  ·
   obtain⟨L,J,e⟩:=hm id _ hv hy;rcases e with rfl|⟨a,b,rfl,e2,aa⟩|⟨b',f,f',rfl,e3,U⟩
   · exact I y J
   · cases e2;have:=(I a J).1;exact⟨by omega,fun hn=>by omega⟩
   · cases e3
  ·
   obtain⟨L,J,e⟩:=hm id _ hv hy;rcases e with rfl|⟨a,b,rfl,e2,aa⟩|⟨b',f,f',rfl,e3,U⟩
   · exact h3 y J
   · cases e2
   · cases e3
 | .mapr id,cs,hv,h=>by
  simp only[RepH,HV.men]at h hv⊢;obtain⟨x,h1,h0,I⟩:=h;refine⟨x,h1,h0,fun y hf hy=>?_⟩;obtain⟨L,J,e⟩:=hm id _ hv hy;rcases e with rfl|⟨a,b,rfl,e2,aa⟩|⟨b',f,f',rfl,e3,U⟩
  · exact I y _ J
  · cases e2
  · cases e3;exact I _ _ J
 | .mrow id k n,cs,hv,h=>by
  simp only[RepH,HV.men]at h hv⊢;obtain⟨x,h1,h0,I⟩:=h;refine⟨x,h1,h0,fun b' hf y hy hk=>?_⟩;obtain⟨L,J,e⟩:=hm id _ hv hy;rcases e with rfl|⟨a,b,rfl,e2,aa⟩|⟨b2,f,f',rfl,e3,U⟩
  · exact I _ _ _ J hk
  · cases e2
  ·
   cases e3;obtain⟨h3,e4,e5⟩:=U k y hk;obtain⟨e6,e7⟩:=I _ _ _ J e4;rcases e5 with rfl|e5
   · exact⟨e6,e7⟩
   · exact⟨by omega,fun _=>by omega⟩
 | .clo f caps,cs,hv,h=>by
  simp only[RepH,HV.men]at h hv⊢;obtain⟨xs,h1,I⟩:=h;exact⟨xs,h1,RepHV.stay hs hm hv I⟩
 | .opq _,cs,hv,h=>by simpa only[RepH]using h
 | .tup l,cs,hv,h=>by
  simp only[RepH,HV.men]at h hv⊢;obtain⟨xs,h1,I⟩:=h;exact⟨xs,h1,RepHV.stay hs hm hv I⟩
theorem RepHL.stay {w w':World}{ρ ρ':Env}{O O':Nat→Prop}{M:Nat→Prop}(hs:Stay w O w' O')(hm:Moves M ρ ρ'): ∀{l:List HV} {cs:List Value},HV.menL M l→RepHL w ρ O l cs→RepHL w' ρ' O' l cs
 |[],cs,_,h=>by simpa only[RepHL]using h
 |v::vs,cs,hv,h=>by
  simp only[RepHL,HV.menL]at h hv⊢;obtain⟨c1,c2,I,J,U⟩:=h;exact⟨c1,c2,I,RepH.stay hs hm hv.1 J,RepHL.stay hs hm hv.2 U⟩
theorem RepHV.stay {w w':World}{ρ ρ':Env}{O O':Nat→Prop}{M:Nat→Prop}(hs:Stay w O w' O')(hm:Moves M ρ ρ'): ∀{l:List HV} {xs:List Value},HV.menL M l→RepHV w ρ O l xs→RepHV w' ρ' O' l xs
 |[],cs,_,h=>by simpa only[RepHV]using h
 |v::vs,cs,hv,h=>by
  simp only[RepHV,HV.menL]at h hv⊢;obtain⟨y,J,U,⟨h2,I⟩,h3⟩:=h;exact⟨y,J,U,⟨RepH.stay hs hm hv.1 h2,I⟩,RepHV.stay hs hm hv.2 h3⟩
end
theorem mQ (I:Bool)(x:Value)(h:Value.isAgg' x=I):eN I x.cells.toList=x:=by
 cases x<;>simp[Value.isAgg']at h<;>subst h<;>simp[eN,Value.cells]
theorem zA (cs:List Value):(eN true cs).cells.toList=cs:=by simp[eN,Value.cells]
theorem cells_single {x:Value}(h:Value.isAgg' x=false):x.cells= #[x]:=by cases x<;>simp_all[Value.isAgg',Value.cells]
theorem zB (cs:List Value):Value.isAgg' (eN true cs)=true:=by simp[eN,Value.isAgg']
mutual
theorem aV7 {w:World}{O:Nat→Prop}: ∀{v:CV} {cs:List Value},RepC w O v cs→ ∀u∈cs,u.oneCell'=true
 | .agg l,cs,h=>by simp only[RepC]at h;exact kW h
 | .bool _,cs,h=>by grind[RepC,Value.oneCell']
 | .int _ _,cs,h=>by grind[RepC,Value.oneCell']
 | .str _,cs,h=>by grind[RepC,Value.oneCell']
 | .nils,cs,h=>by grind[RepC,Value.oneCell']
 | .slc l,cs,h=>by simp only[RepC]at h;obtain⟨a,cap,xs,sz,rfl,_⟩:=h;simp[Value.oneCell']
 | .rp _,cs,h=>by simp only[RepC]at h;obtain⟨a,xs,rfl,_⟩:=h;simp[Value.oneCell']
 | .fn _,cs,h=>by grind[RepC,Value.oneCell']
 | .nilp,cs,h=>by grind[RepC,Value.oneCell']
 | .nilf,cs,h=>by grind[RepC,Value.oneCell']
 | .nili,cs,h=>by grind[RepC,Value.oneCell']
 | .nilm,cs,h=>by grind[RepC,Value.oneCell']
 | .ifc _ _,cs,h=>by simp only[RepC]at h;obtain⟨xs,_,rfl⟩:=h;simp[Value.oneCell']
theorem kW {w:World}{O:Nat→Prop}: ∀{l:List CV} {cs:List Value},RepL w O l cs→ ∀u∈cs,u.oneCell'=true
 |[],cs,h=>by grind[RepL]
 |v::vs,cs,h=>by
  simp only[RepL]at h;obtain⟨c1,U,rfl,I,J⟩:=h;intro u hu;rcases List.mem_append.1 hu with h|h
  · exact aV7 I u h
  · exact kW J u h
end
/- What may lie in a variable. -/
mutual
def HV.sto :HV→Bool
 | .junk=>false
 | .tup _=>false
 | .agg l=>HV.stoL l
 |_=>true
def HV.stoL :List HV→Bool
 |[]=>true
 |v::vs=>v.sto&&HV.stoL vs
end
mutual
theorem pL {w:World}{ρ:Env}{O:Nat→Prop}: ∀{v:HV} {cs:List Value},v.sto=true→RepH w ρ O v cs→ ∀u∈cs,u.oneCell'=true
 | .junk,cs,hs,_=>by simp[HV.sto]at hs
 | .tup _,cs,hs,_=>by simp[HV.sto]at hs
 | .c v,cs,_,h=>by simp only[RepH]at h;exact aV7 h
 | .agg l,cs,hs,h=>by simp only[RepH,HV.sto]at h hs;exact wI hs h
 | .own ..,cs,_,h=>by simp only[RepH]at h;obtain⟨x,rfl,I,_⟩:=h;simpa using I
 | .ptr ..,cs,_,h=>by simp only[RepH]at h;obtain⟨x,rfl,I,_⟩:=h;simpa using I
 | .eptr ..,cs,_,h=>by simp only[RepH]at h;obtain⟨x,rfl,I,_⟩:=h;simpa using I
 | .osl ..,cs,_,h=>by simp only[RepH]at h;obtain⟨x,rfl,I,_⟩:=h;simpa using I
 | .mapr ..,cs,_,h=>by simp only[RepH]at h;obtain⟨x,rfl,I,_⟩:=h;simpa using I
 | .mrow ..,cs,_,h=>by simp only[RepH]at h;obtain⟨x,rfl,I,_⟩:=h;simpa using I
 | .clo ..,cs,_,h=>by simp only[RepH]at h;obtain⟨x,rfl,_⟩:=h;simp[Value.oneCell']
 | .opq _,cs,_,h=>by simp only[RepH]at h;obtain⟨rfl,I⟩:=h;simpa using I
theorem wI {w:World}{ρ:Env}{O:Nat→Prop}: ∀{l:List HV} {cs:List Value},HV.stoL l=true→RepHL w ρ O l cs→ ∀u∈cs,u.oneCell'=true
 |[],cs,_,h=>by grind[RepHL]
 |v::vs,cs,hs,h=>by
  simp only[RepHL,HV.stoL,Bool.and_eq_true]at h hs;obtain⟨c1,U,rfl,I,J⟩:=h;intro u hu;rcases List.mem_append.1 hu with h|h
  · exact pL hs.1 I u h
  · exact wI hs.2 J u h
end
mutual
def CV.getAt (off sz:Nat)(ag:Bool):CV→Option CV
 | .agg l=>if off=0∧CV.cellsL l=sz∧ag=true then some (.agg l)else CV.getAtL off sz ag l
 |v=>if off=0∧sz=1∧ag=false then some v else none
def CV.getAtL (off sz:Nat)(ag:Bool):List CV→Option CV
 |[]=>none
 |v::vs=>if off<v.cells then CV.getAt off sz ag v else CV.getAtL (off-v.cells) sz ag vs
end
mutual
def HV.getAt (off sz:Nat)(ag:Bool):HV→Option HV
 | .c v=>(v.getAt off sz ag).map .c
 | .agg l=>if off=0∧HV.cellsL l=sz∧ag=true then some (.agg l)else HV.getAtL off sz ag l
 |v=>if off=0∧sz=1∧ag=false then some v else none
def HV.getAtL (off sz:Nat)(ag:Bool):List HV→Option HV
 |[]=>none
 |v::vs=>if off<v.cells then HV.getAt off sz ag v else HV.getAtL (off-v.cells) sz ag vs
end
mutual
def CV.setAt (off sz:Nat)(x:HV):CV→Option HV
 | .agg l=>if off=0∧CV.cellsL l=sz then some x else(CV.setAtL off sz x l).map .agg
 |_=>if off=0∧sz=1 then some x else none
def CV.setAtL (off sz:Nat)(x:HV):List CV→Option (List HV)
 |[]=>none
 |v::vs=>if off<v.cells then(CV.setAt off sz x v).map (· ::vs.map .c)else(CV.setAtL (off-v.cells) sz x vs).map (.c v::·)
end
mutual
def HV.setAt (off sz:Nat)(x:HV):HV→Option HV
 | .c v=>v.setAt off sz x
 | .agg l=>if off=0∧HV.cellsL l=sz then some x else(HV.setAtL off sz x l).map .agg
 |_=>if off=0∧sz=1 then some x else none
def HV.setAtL (off sz:Nat)(x:HV):List HV→Option (List HV)
 |[]=>none
 |v::vs=>if off<v.cells then(HV.setAt off sz x v).map (· ::vs)else(HV.setAtL (off-v.cells) sz x vs).map (v::·)
end
mutual
theorem CV.getAt_spec {w:World}{O:Nat→Prop}{sz:Nat}{J:Bool}{u:CV}: ∀{v:CV} {off:Nat} {cs:List Value},v.getAt off sz J=some u→RepC w O v cs→
  ∃c1 U c3,cs=c1++U++c3∧c1.length=off∧U.length=sz∧RepC w O u U∧u.isAgg=J
 | .agg l,off,cs,hg,h=>by
  simp only[CV.getAt]at hg;by_cases I:off=0∧CV.cellsL l=sz∧J=true
  · rw[if_pos I]at hg;cases hg;exact⟨[],cs,[],by simp,by simp[I.1],by simp only[RepC]at h;rw[pK h];exact I.2.1,h,by simp[CV.isAgg,I.2.2]⟩
  · rw[if_neg I]at hg;simp only[RepC]at h;exact CV.getAtL_spec hg h
 | .bool b,off,cs,hg,h=>by
  simp only[CV.getAt]at hg;split at hg
  · rename_i I;cases hg;exact⟨[],cs,[],by simp,by simp[I.1],by rw[bK h];simp[CV.cells,I.2.1],h,by simp[CV.isAgg,I.2.2]⟩
  · cases hg
 | .int k n,off,cs,hg,h=>by
  simp only[CV.getAt]at hg;split at hg
  · rename_i I;cases hg;exact⟨[],cs,[],by simp,by simp[I.1],by rw[bK h];simp[CV.cells,I.2.1],h,by simp[CV.isAgg,I.2.2]⟩
  · cases hg
 | .str s,off,cs,hg,h=>by
  simp only[CV.getAt]at hg;split at hg
  · rename_i I;cases hg;exact⟨[],cs,[],by simp,by simp[I.1],by rw[bK h];simp[CV.cells,I.2.1],h,by simp[CV.isAgg,I.2.2]⟩
  · cases hg
 | .nils,off,cs,hg,h=>by
  simp only[CV.getAt]at hg;split at hg
  · rename_i I;cases hg;exact⟨[],cs,[],by simp,by simp[I.1],by rw[bK h];simp[CV.cells,I.2.1],h,by simp[CV.isAgg,I.2.2]⟩
  · cases hg
 | .slc l,off,cs,hg,h=>by
  simp only[CV.getAt]at hg;split at hg
  · rename_i I;cases hg;exact⟨[],cs,[],by simp,by simp[I.1],by rw[bK h];simp[CV.cells,I.2.1],h,by simp[CV.isAgg,I.2.2]⟩
  · cases hg
 | .rp v,off,cs,hg,h=>by
  simp only[CV.getAt]at hg;split at hg
  · rename_i I;cases hg;exact⟨[],cs,[],by simp,by simp[I.1],by rw[bK h];simp[CV.cells,I.2.1],h,by simp[CV.isAgg,I.2.2]⟩
  · cases hg
 | .fn f,off,cs,hg,h=>by
  simp only[CV.getAt]at hg;split at hg
  · rename_i I;cases hg;exact⟨[],cs,[],by simp,by simp[I.1],by rw[bK h];simp[CV.cells,I.2.1],h,by simp[CV.isAgg,I.2.2]⟩
  · cases hg
 | .nilp,off,cs,hg,h=>by
  simp only[CV.getAt]at hg;split at hg
  · rename_i I;cases hg;exact⟨[],cs,[],by simp,by simp[I.1],by rw[bK h];simp[CV.cells,I.2.1],h,by simp[CV.isAgg,I.2.2]⟩
  · cases hg
 | .nilf,off,cs,hg,h=>by
  simp only[CV.getAt]at hg;split at hg
  · rename_i I;cases hg;exact⟨[],cs,[],by simp,by simp[I.1],by rw[bK h];simp[CV.cells,I.2.1],h,by simp[CV.isAgg,I.2.2]⟩
  · cases hg
 | .nili,off,cs,hg,h=>by
  simp only[CV.getAt]at hg;split at hg
  · rename_i I;cases hg;exact⟨[],cs,[],by simp,by simp[I.1],by rw[bK h];simp[CV.cells,I.2.1],h,by simp[CV.isAgg,I.2.2]⟩
  · cases hg
 | .nilm,off,cs,hg,h=>by
  simp only[CV.getAt]at hg;split at hg
  · rename_i I;cases hg;exact⟨[],cs,[],by simp,by simp[I.1],by rw[bK h];simp[CV.cells,I.2.1],h,by simp[CV.isAgg,I.2.2]⟩
  · cases hg
 | .ifc t v,off,cs,hg,h=>by
  simp only[CV.getAt]at hg;split at hg
  · rename_i I;cases hg;exact⟨[],cs,[],by simp,by simp[I.1],by rw[bK h];simp[CV.cells,I.2.1],h,by simp[CV.isAgg,I.2.2]⟩
  · cases hg
theorem CV.getAtL_spec {w:World}{O:Nat→Prop}{sz:Nat}{ag:Bool}{u:CV}: ∀{l:List CV} {off:Nat} {cs:List Value},CV.getAtL off sz ag l=some u→RepL w O l cs→
  ∃J I U,cs=J++I++U∧J.length=off∧I.length=sz∧RepC w O u I∧u.isAgg=ag
 |[],off,cs,hg,h=>by simp[CV.getAtL]at hg
 |v::vs,off,cs,hg,h=>by
  simp only[CV.getAtL]at hg;simp only[RepL]at h;obtain⟨x,y,rfl,h1,h2⟩:=h;split at hg
  · obtain⟨J,I,U,rfl,e1,e2,e3,e4⟩:=CV.getAt_spec hg h1;grind
  · obtain⟨J,I,U,rfl,e1,e2,e3,e4⟩:=CV.getAtL_spec hg h2;grind[List.length_append,bK]
end
mutual
theorem HV.getAt_spec {w:World}{ρ:Env}{O:Nat→Prop}{sz:Nat}{ag:Bool}{u:HV}: ∀{v:HV} {off:Nat} {cs:List Value},v.getAt off sz ag=some u→v.sto=true→RepH w ρ O v cs→
  ∃c1 U c3,cs=c1++U++c3∧c1.length=off∧U.length=sz∧RepH w ρ O u U∧u.isAgg=ag∧u.sto=true∧(∀M,v.men M→u.men M)
 | .c v,off,cs,I,_,h=>by
  simp only[HV.getAt,Option.map_eq_some_iff]at I;obtain⟨u',I,rfl⟩:=I;simp only[RepH]at h;obtain⟨c1,U,c3,e1,e2,e3,e4,e5⟩:=CV.getAt_spec I h;exact⟨c1,U,c3,e1,e2,e3,by simpa only[RepH]using e4,e5,rfl,fun M _=>by simp[HV.men]⟩
 | .agg l,off,cs,I,hs,h=>by
  simp only[HV.getAt]at I;by_cases J:off=0∧HV.cellsL l=sz∧ag=true
  · rw[if_pos J]at I;cases I;exact⟨[],cs,[],by simp,by simp[J.1],by simp only[RepH]at h;rw[nK h];exact J.2.1,h,by simp[HV.isAgg,J.2.2],hs,fun M h=>h⟩
  · rw[if_neg J]at I;simp only[RepH,HV.sto]at h hs;obtain⟨c1,U,c3,e1,e2,e3,e4,e5,e6,e7⟩:=HV.getAtL_spec I hs h;exact⟨c1,U,c3,e1,e2,e3,e4,e5,e6,fun M hm=>e7 M (by simpa only[HV.men]using hm)⟩
 | .junk,off,cs,I,hs,h=>by simp[HV.sto]at hs
 | .tup _,off,cs,I,hs,h=>by simp[HV.sto]at hs
 | .own id n,off,cs,I,hs,h=>by
  simp only[HV.getAt]at I;split at I
  · rename_i J;cases I;exact⟨[],cs,[],by simp,by simp[J.1],by rw[bR h];simp[HV.cells,J.2.1],h,by simp[HV.isAgg,J.2.2],hs,fun _ h=>h⟩
  · cases I
 | .ptr id n,off,cs,I,hs,h=>by
  simp only[HV.getAt]at I;split at I
  · rename_i J;cases I;exact⟨[],cs,[],by simp,by simp[J.1],by rw[bR h];simp[HV.cells,J.2.1],h,by simp[HV.isAgg,J.2.2],hs,fun _ h=>h⟩
  · cases I
 | .eptr ..,off,cs,I,hs,h=>by
  simp only[HV.getAt]at I;split at I
  · rename_i J;cases I;exact⟨[],cs,[],by simp,by simp[J.1],by rw[bR h];simp[HV.cells,J.2.1],h,by simp[HV.isAgg,J.2.2],hs,fun _ h=>h⟩
  · cases I
 | .osl ..,off,cs,I,hs,h=>by
  simp only[HV.getAt]at I;split at I
  · rename_i J;cases I;exact⟨[],cs,[],by simp,by simp[J.1],by rw[bR h];simp[HV.cells,J.2.1],h,by simp[HV.isAgg,J.2.2],hs,fun _ h=>h⟩
  · cases I
 | .mapr id,off,cs,I,hs,h=>by
  simp only[HV.getAt]at I;split at I
  · rename_i J;cases I;exact⟨[],cs,[],by simp,by simp[J.1],by rw[bR h];simp[HV.cells,J.2.1],h,by simp[HV.isAgg,J.2.2],hs,fun _ h=>h⟩
  · cases I
 | .mrow ..,off,cs,I,hs,h=>by
  simp only[HV.getAt]at I;split at I
  · rename_i J;cases I;exact⟨[],cs,[],by simp,by simp[J.1],by rw[bR h];simp[HV.cells,J.2.1],h,by simp[HV.isAgg,J.2.2],hs,fun _ h=>h⟩
  · cases I
 | .clo id n,off,cs,I,hs,h=>by
  simp only[HV.getAt]at I;split at I
  · rename_i J;cases I;exact⟨[],cs,[],by simp,by simp[J.1],by rw[bR h];simp[HV.cells,J.2.1],h,by simp[HV.isAgg,J.2.2],hs,fun _ h=>h⟩
  · cases I
 | .opq _,off,cs,I,hs,h=>by
  simp only[HV.getAt]at I;split at I
  · rename_i J;cases I;exact⟨[],cs,[],by simp,by simp[J.1],by rw[bR h];simp[HV.cells,J.2.1],h,by simp[HV.isAgg,J.2.2],hs,fun _ h=>h⟩
  · cases I
theorem HV.getAtL_spec {w:World}{ρ:Env}{O:Nat→Prop}{sz:Nat}{ag:Bool}{u:HV}: ∀{l:List HV} {off:Nat} {cs:List Value},HV.getAtL off sz ag l=some u→HV.stoL l=true→RepHL w ρ O l cs→
  ∃J I U,cs=J++I++U∧J.length=off∧I.length=sz∧RepH w ρ O u I∧u.isAgg=ag∧u.sto=true∧(∀M,HV.menL M l→u.men M)
 |[],off,cs,hg,_,h=>by simp[HV.getAtL]at hg
 |v::vs,off,cs,hg,hs,h=>by
  simp only[HV.getAtL]at hg;simp only[RepHL,HV.stoL,Bool.and_eq_true]at h hs;obtain⟨x,y,rfl,h1,h2⟩:=h;split at hg
  · obtain⟨J,I,U,rfl,e1,e2,e3,e4,e5,e6⟩:=HV.getAt_spec hg hs.1 h1;grind[HV.menL]
  · obtain⟨J,I,U,rfl,e1,e2,e3,e4,e5,e6⟩:=HV.getAtL_spec hg hs.2 h2;grind[List.length_append,bR,HV.menL]
end
mutual
def CV.denil :CV→CV
 | .nils=> .slc []
 | .agg l=> .agg (CV.denilL l)
 | .slc l=> .slc (CV.denilL l)
 |v=>v
def CV.denilL :List CV→List CV
 |[]=>[]
 |v::vs=>v.denil::CV.denilL vs
end
theorem CV.denilL_length : ∀(l:List CV),(CV.denilL l).length=l.length
 |[]=>rfl
 |v::vs=>by simp[CV.denilL,CV.denilL_length vs]
mutual
theorem CV.denil_cells : ∀(v:CV),v.denil.cells=v.cells
 | .agg l=>by simp only[CV.denil,CV.cells];exact CV.denilL_cells l
 | .nils=>rfl
 | .slc _=>rfl
 | .bool _=>rfl
 | .int _ _=>rfl
 | .str _=>rfl
 | .rp _=>rfl
 | .fn _=>rfl
 | .nilp=>rfl
 | .nilf=>rfl
 | .nili=>rfl
 | .nilm=>rfl
 | .ifc _ _=>rfl
theorem CV.denilL_cells : ∀(l:List CV),CV.cellsL (CV.denilL l)=CV.cellsL l
 |[]=>rfl
 |v::vs=>by simp only[CV.denilL,CV.cellsL,CV.denil_cells v,CV.denilL_cells vs]
end
theorem CV.denil_isAgg (v:CV):v.denil.isAgg=v.isAgg:=by cases v<;>rfl
theorem CV.denilL_mem : ∀{l:List CV} {v:CV},v∈CV.denilL l→ ∃u∈l,v=u.denil
 |[],v,h=>by simp[CV.denilL]at h
 |u::us,v,h=>by
  simp only[CV.denilL,List.mem_cons]at h;rcases h with rfl|h
  · exact⟨u,by simp,rfl⟩
  · obtain⟨x,hx,e⟩:=CV.denilL_mem h;exact⟨x,by simp[hx],e⟩
mutual
theorem CV.denil_rep {w:World}{O:Nat→Prop}: ∀{v:CV} {cs:List Value},RepC w O v cs→RepC w O v.denil cs
 | .agg l,cs,h=>by simp only[RepC,CV.denil]at h⊢;exact CV.denilL_rep h
 | .nils,cs,h=>by
  simp only[RepC,CV.denil]at h⊢;exact⟨none,0,[],0,h,by simp[RepL],by simp,Nat.le_refl _,fun _=>rfl,by simp⟩
 | .slc l,cs,h=>by
  simp only[RepC,CV.denil]at h⊢;obtain⟨a,cap,xs,sz,h1,h2,h3,I,U,h6⟩:=h;refine⟨a,cap,xs,sz,by rw[CV.denilL_length];exact h1,CV.denilL_rep h2,fun v J=>?_,by rw[CV.denilL_length];exact I,U,h6⟩;obtain⟨u,hu,rfl⟩:=CV.denilL_mem J;rw[CV.denil_cells];exact h3 u hu
 | .bool _,cs,h=>by simpa only[RepC,CV.denil]using h
 | .int _ _,cs,h=>by simpa only[RepC,CV.denil]using h
 | .str _,cs,h=>by simpa only[RepC,CV.denil]using h
 | .rp _,cs,h=>by simpa only[CV.denil]using h
 | .fn _,cs,h=>by simpa only[RepC,CV.denil]using h
 | .nilp,cs,h=>by simpa only[RepC,CV.denil]using h
 | .nilf,cs,h=>by simpa only[RepC,CV.denil]using h
 | .nili,cs,h=>by simpa only[RepC,CV.denil]using h
 | .nilm,cs,h=>by simpa only[RepC,CV.denil]using h
 | .ifc _ _,cs,h=>by simpa only[CV.denil]using h
theorem CV.denilL_rep {w:World}{O:Nat→Prop}: ∀{l:List CV} {cs:List Value},RepL w O l cs→RepL w O (CV.denilL l) cs
 |[],cs,h=>by simpa only[RepL,CV.denilL]using h
 |v::vs,cs,h=>by
  simp only[RepL,CV.denilL]at h⊢;obtain⟨c1,c2,I,J,U⟩:=h;exact⟨c1,c2,I,CV.denil_rep J,CV.denilL_rep U⟩
end
def HV.den :HV→HV
 | .c v=> .c v.denil
 |v=>v
theorem HV.den_agg (v:HV):v.den.isAgg=v.isAgg:=by cases v<;>simp[HV.den,HV.isAgg,CV.denil_isAgg]
theorem HV.den_rep {w:World}{ρ:Env}{O:Nat→Prop}{v:HV}{x:Value}(h:RepV w ρ O v x):RepV w ρ O v.den x:=by
 refine⟨?_,by rw[HV.den_agg];exact h.2⟩;cases v with
 |c v=>have:=h.1;grind[RepH,HV.den,CV.denil_rep]
 |_=>exact h.1
mutual
theorem HV.men_true : ∀(v:HV),v.men (fun _=>True)
 | .junk=>by simp[HV.men]
 | .c _=>by simp[HV.men]
 | .agg l=>by simp only[HV.men];exact HV.menL_true l
 | .own .. =>by simp[HV.men]
 | .ptr .. =>by simp[HV.men]
 | .eptr .. =>by simp[HV.men]
 | .osl .. =>by simp[HV.men]
 | .mapr .. =>by simp[HV.men]
 | .mrow .. =>by simp[HV.men]
 | .clo _ l=>by simp only[HV.men];exact HV.menL_true l
 | .opq _=>by simp[HV.men]
 | .tup l=>by simp only[HV.men];exact HV.menL_true l
theorem HV.menL_true : ∀(l:List HV),HV.menL (fun _=>True) l
 |[]=>by simp[HV.menL]
 |v::vs=>by simp only[HV.menL];exact⟨HV.men_true v,HV.menL_true vs⟩
end
end Go.Hl
namespace Go.Hl
open Go
inductive MV where
 |lent
 |row (l:List CV)
 |pend (l:List CV)
 |val (v:CV)
 deriving Inhabited
abbrev MD :=List (List UInt8×MV)
def dM (D:MD)(k:List UInt8):Option MV:=match D with
 |[]=>none
 |(k',m)::D=>if k'=k then some m else dM D k
def sQ (D:MD)(k:List UInt8)(m:MV):MD:=match D with
 |[]=>[(k,m)]
 |(k',m')::D=>if k'=k then(k,m)::D else(k',m')::sQ D k m
theorem dE (D:MD)(k:List UInt8)(m:MV):dM (sQ D k m) k=some m:=by
 induction D with
 |nil=>simp[sQ,dM]
 |cons p D I=>
  grind[sQ,dM]
variable {k:List UInt8}
theorem dF (D:MD){I:List UInt8}(m:MV)(h:I≠k):dM (sQ D k m) I=dM D I:=by
 induction D with
 |nil=>simp[sQ,dM,U0 h]
 |cons p D J=>
  obtain⟨k',m'⟩:=p;unfold sQ;split;all_goals simp_all[dM,U0]
inductive HO where
 |box (t:TypeId) (v:HV)
 |row (e:TypeId) (sz:Nat) (l:List CV)
 |mp (e:TypeId) (sz:Nat) (D:MD)
 |dead
 |tab (T:List (Nat×List Value))
 /-- A row whose elements may lead to objects of one's own. -/
 |hrow (e:TypeId) (sz:Nat) (l:List HV)
 /-- A map, as it stands in memory. -/
 |raw (es:Array MapEntry) (clock:Nat)
 /-- A way dC3 such a map. -/
 |it (m since:Nat) (seen:Array Nat) (last:Nat)
 deriving Inhabited
abbrev Fr :=Nat→HV
abbrev Ob :=Nat→Option HO
def upd {α:Type}(f:Nat→α)(d:Nat)(v:α):Nat→α:=fun t=>if t=d then v else f t
variable {α:Type}
@[simp] theorem aR (f:Nat→α)(d:Nat)(v:α):upd f d v d=v:=by simp[upd]
theorem bE (f:Nat→α){d t:Nat}(v:α)(h:t≠d):upd f d v t=f t:=by simp[upd,h]
def updo (f:Fr)(d:Option Nat)(v:HV):Fr:=match d with|some d=>upd f d v|none=>f
def gD (k:List UInt8):Value:= .string ⟨k.toArray⟩
theorem aV8 {k':List UInt8}(h:gD k=gD k'):k=k':=by grind[gD,Value.string.injEq,ByteArray.mk.injEq,Array.toList_inj]
def iB :Option MV→List CV
 |some (.row l)=>l
 |some (.pend l)=>l
 |_=>[]
def MV.there :MV→Bool
 | .pend _=>false
 |_=>true
def RepMV (w:World)(O:Nat→Prop)(o:Option Value):MV→Value→Prop
 | .row _,v=>o=some v
 | .val c,v=> ∃cs,RepC w O c cs∧v=eN c.isAgg cs
 |_,_=>True
structure RepM (w:World)(O:Nat→Prop)(e:TypeId)(sz:Nat)(D:MD)(b:Nat)(hf:List UInt8→Option Value):Prop where
 blk: ∃es clock,w.heap[b]? =some (.map es clock)∧Go.MapKept.Stamped es clock∧
  (∀x∈es.toList,∃k m,dM D k=some m∧x.key=gD k∧k.length≤maxLen∧RepMV w O (hf k) m x.val)∧ ∀k m,dM D k=some m→m.there=true→ ∃x∈es.toList,x.key=gD k
 row: ∀k h,hf k=some h→h.ownBlock≠some b∧ ∃xs,RepL w O (iB (dM D k)) xs∧(∀c∈iB (dM D k),c.cells=sz)∧w.ownsRow 0 e sz h (iB (dM D k)).length xs
 lent: ∀k,hf k=none↔dM D k=some .lent
 nil: ∀k h,hf k=some h→dM D k=none→h= .slice none 0 0
 apart: ∀k k' h h' g,hf k=some h→hf k'=some h'→h.ownBlock=some g→h'.ownBlock=some g→k=k'
def RepO (w:World)(ρ:Env)(O:Nat→Prop)(id:Nat):HO→Prop
 | .box t v=> ∃b cs,ρ id=some (.blk b)∧w.heap[b]? =some (.cells cs.toArray t (0,0))∧RepH w ρ O v cs
 | .row e sz l=> ∃h xs,ρ id=some (.hdr h)∧RepL w O l xs∧(∀v∈l,v.cells=sz)∧w.ownsRow 0 e sz h l.length xs
 | .mp e sz D=> ∃b hf,ρ id=some (.mp b hf)∧RepM w O e sz D b hf
 | .dead=>ρ id=none
 | .tab T=>ρ id=none∧ ∀x∈T,(∃t fz,w.heap[x.1]? =some (.cells x.2.toArray t fz))∧ ¬O x.1
 | .hrow e sz l=> ∃h xs,ρ id=some (.hdr h)∧RepHL w ρ O l xs∧(∀v∈l,v.cells=sz∧v.sto=true)∧w.ownsRow 0 e sz h l.length xs
 | .raw es clock=> ∃b,ρ id=some (.mp b fun _=>none)∧w.heap[b]? =some (.map es clock)
 | .it m since seen last=> ∃b x,ρ id=some (.blk b)∧w.heap[b]? =some (.mapIter (some x) since seen last)∧ ∀bm hf,ρ m=some (.mp bm hf)→x=bm
def HO.men (M:Nat→Prop):HO→Prop
 | .box _ v=>v.men M
 | .row .. =>True
 | .mp .. =>True
 | .dead=>True
 | .tab _=>True
 | .hrow _ _ l=>HV.menL M l
 | .raw .. =>True
 | .it m _ _ _=>M m
structure RepS (w:World)(ρ:Env)(X:Nat→Prop)(ob:Ob):Prop where
 objs: ∀id o,ob id=some o→RepO w ρ (Owned ρ X) id o
 none: ∀id,ob id=none→ρ id=none
 apart: ∀id id' L L' b,ρ id=some L→ρ id'=some L'→L.has b→L'.has b→id=id'
 xb: ∀id L b,ρ id=some L→L.has b→ ¬X b
structure Stay2 (w:World)(O:Nat→Prop)(w':World)(O':Nat→Prop):Prop where
 block: ∀b,b<w.heap.size→ ¬O b→w'.heap[b]? =w.heap[b]?
 own: ∀b,O' b→O b∨w.heap.size≤b
 size:w.heap.size≤w'.heap.size
 os:w'.os=w.os
 tape:w'.tape=w.tape
 output:w'.output=w.output
variable {ρ ρ':Env}{w w':World}
theorem Stay2.stay (h:Stay2 w (Own ρ) w' (Own ρ'))(X:Nat→Prop):Stay w (Owned ρ X) w' (Owned ρ' X):=
 ⟨fun b hb U=>⟨h.block b hb.lt (fun I=>U (.inr I)),fun h'=>h'.elim (fun I=>U (.inl I)) (fun I=>(h.own b I).elim (fun J=>U (.inr J)) (fun J=>absurd hb.lt (BZ.2 J)))⟩⟩
theorem Stay2.refl (w:World)(O:Nat→Prop):Stay2 w O w O:=⟨fun _ _ _=>rfl,fun _ h=> .inl h,E3 _,rfl,rfl,rfl⟩
theorem Stay2.trans {a b c:World}{A B C:Nat→Prop}(h:Stay2 a A b B)(h':Stay2 b B c C):Stay2 a A c C:=
 ⟨fun k I J=>by
   have U:=h.block k I J;have h2: ¬B k:=fun hB=>(h.own k hB).elim J (fun x=>absurd I (BZ.2 x));rw[h'.block k (I0 I h.size) h2,U],
  fun k I=>(h'.own k I).elim (fun x=>h.own k x) (fun x=> .inr (R6 h.size x)),
  R6 h.size h'.size,h'.os.trans h.os,h'.tape.trans h.tape,h'.output.trans h.output⟩
structure Ctx where
 w0:World
 ρ0:Env
 X:Nat→Prop
 M0:Nat→Prop
 n:Nat
 /-- The loop dC3 a function in whose round the activation is. -/
 R:Option Nat:=none
 /-- Loops dC3 functions may be entered. -/
 may:Bool:=true
def DefOk (m:Bool)(n0:Nat)(w:World)(ds:List Deferred):Prop:=
 (∃Ds:List Nat,ds=Ds.map (fun b=>{target:= .collected b,args:= #[]})∧Ds.Nodup∧ ∀b∈Ds,n0≤b∧w.heap[b]? =some (.deferred (some [])))∧(m=false→ds=[])
theorem DefOk.nil (m:Bool)(I:Nat)(w:World):DefOk m I w []:=⟨⟨[],rfl,N3,by simp⟩,fun _=>rfl⟩
variable {o:Option (List Deferred)}{hf:List UInt8→Option Value}{I b sz:Nat}{D:MD}{e:TypeId}{O:Nat→Prop}
theorem cC6 (h:RepM w O e sz D I hf)(hb:(Loc.mp I hf).has b)(ho:w.heap[b]? =some (.deferred o)):False:=by
 rcases hb with rfl|⟨k,U,h1,h2⟩
 · obtain⟨es,cl,h3,_⟩:=h.blk;grind
 ·
  obtain⟨_,xs,_,_,J⟩:=h.row k U h1;rcases J.2 with⟨rfl,_⟩|⟨g,cap,cur,rfl,_,hg,_⟩
  all_goals grind[Value.ownBlock,Option.some.injEq]
variable {ob:Ob}{X:Nat→Prop}
theorem wJ (h:RepS w ρ X ob)(hb:Own ρ b)(ho:w.heap[b]? =some (.deferred o)):False:=by
 obtain⟨id,L,h1,U⟩:=hb;cases aa:ob id with
 |none=>rw[h.none id aa]at h1;grind
 |some x=>
  have J:=h.objs id x aa;cases x with
  |box t v=>
   obtain⟨b',cs,I,e2,_⟩:=J;rw[h1]at I;cases I;have:b=b':=U;grind
  |row e sz l=>
   obtain⟨hd,xs,I,_,_,e4⟩:=J;rw[h1]at I;cases I;have ab:hd.ownBlock=some b:=U;rcases e4.2 with⟨rfl,_⟩|⟨g,cap,cur,rfl,_,hg,_⟩
   all_goals grind[Value.ownBlock,Option.some.injEq]
  |mp e sz D=>
   obtain⟨b',hf,I,e2⟩:=J;grind[cC6]
  |dead=>
   have ad:ρ id=none:=J;grind
  |tab T=>
   have ad:ρ id=none:=J.1;grind
  |hrow e sz l=>
   obtain⟨hd,xs,I,_,_,e4⟩:=J;rw[h1]at I;cases I;have ab:hd.ownBlock=some b:=U;rcases e4.2 with⟨rfl,_⟩|⟨g,cap,cur,rfl,_,hg,_⟩
   all_goals grind[Value.ownBlock,Option.some.injEq]
  |raw es clock=>
   obtain⟨b',I,e2⟩:=J;rw[h1]at I;cases I;rcases U with U|⟨k,hd,U,_⟩
   · grind
   · cases U
  |it m since seen last=>
   obtain⟨b',x,I,e2,_⟩:=J;rw[h1]at I;cases I;have:b=b':=U;grind
variable {O':Nat→Prop}
theorem DefOk.stay {m:Bool}{n0:Nat}{J:List Deferred}(h:DefOk m n0 w J)(hS:RepS w ρ X ob)(hs:Stay2 w (Own ρ) w' O'):DefOk m n0 w' J:=by
 obtain⟨⟨Ds,e,hn,I⟩,hm⟩:=h;refine⟨⟨Ds,e,hn,fun b hb=>⟨(I b hb).1,?_⟩⟩,hm⟩;have U:=(I b hb).2;rw[hs.block b (G1.1 U).1 (fun ho=>wJ hS ho U)];grind
structure RepA' (c:Ctx)(M:Nat→Prop)(fr:Fr)(ob:Ob)(a:Act)(w:World)(ρ:Env):Prop where
 s:RepS w ρ c.X ob
 f: ∀t,fr t≠ .junk→RepV w ρ (Owned ρ c.X) (fr t) (a.tmps.getD t undef)
 mf: ∀t,(fr t).men M
 mo: ∀id o,ob id=some o→M id∧o.men M
 m0: ∀id,c.M0 id→M id
 base:Stay2 c.w0 (Own c.ρ0) w (Own ρ)
 moves:Moves c.M0 c.ρ0 ρ
 defers:DefOk c.may c.w0.heap.size w a.defers
 size:a.tmps.size=c.n
 xlt: ∀b,c.X b→b<c.w0.heap.size
def RepA (c:Ctx)(M:Nat→Prop)(fr:Fr)(ob:Ob)(a:Act)(w:World):Prop:= ∃ρ,RepA' c M fr ob a w ρ
theorem cC7 (a:Act)(d:Option Tmp)(v:Value):(a.put d v).tmps.size=a.tmps.size:=by cases d<;>simp[Act.put]
theorem bG4 (a:Act)(d:Option Tmp)(v:Value):(a.put d v).defers=a.defers:=by cases d<;>simp[Act.put]
variable {x:Value}{v:HV}{d:Option Nat}{a:Act}{fr:Fr}{M M':Nat→Prop}{c:Ctx}
theorem RepA'.step {ob':Ob}
  (h:RepA' c M fr ob a w ρ) (U: ∀i,M i→M' i) (hs:Stay2 w (Own ρ) w' (Own ρ')) (hm:Moves M ρ ρ') (hS:RepS w' ρ' c.X ob')
  (hv:v= .junk∨RepV w' ρ' (Owned ρ' c.X) v x) (aa:v.men M') (ho: ∀id o,ob' id=some o→M' id∧o.men M') (hd: ∀k,d=some k→k<c.n):
  RepA' c M' (updo fr d v) ob' (a.put d x) w' ρ':=by
 have J: ∀t,fr t≠ .junk→RepV w' ρ' (Owned ρ' c.X) (fr t) (a.tmps.getD t undef):=fun t I=>
  ⟨RepH.stay (hs.stay c.X) hm (h.mf t) (h.f t I).1,(h.f t I).2⟩
 refine⟨hS,?_,?_,ho,fun id hid=>U _ (h.m0 id hid),h.base.trans hs,Moves.trans h.m0 h.moves hm,by rw[bG4];exact h.defers.stay h.s hs,by rw[cC7];exact h.size,h.xlt⟩
 ·
  intro t I;cases d with
  |none=>exact J t I
  |some k=>
   simp only[updo]at I⊢;by_cases e:t=k
   ·
    subst e;rw[aR]at I⊢;have hk:t<a.tmps.size:=by rw[h.size];exact hd t rfl
    simp_all[undef,Act.put,Array.getD]
   ·
    rw[bE _ _ e]at I⊢;have:(a.put (some k) x).tmps.getD t undef=a.tmps.getD t undef:=by
     simp only[Act.put,K8];grind
    grind
 ·
  intro t;cases d with
  |none=>exact HV.men_mono U (h.mf t)
  |some k=>
   simp only[updo];by_cases e:t=k
   · simp_all
   · rw[bE _ _ e];exact HV.men_mono U (h.mf t)
theorem RepA'.value
  (h:RepA' c M fr ob a w ρ) (J:v= .junk∨RepV w ρ (Owned ρ c.X) v x) (I:v.men M) (U: ∀k,d=some k→k<c.n):
  RepA' c M (updo fr d v) ob (a.put d x) w ρ:=
 h.step (fun _ h=>h) (Stay2.refl _ _) (Moves.refl _ _) h.s J I h.mo U
theorem lE {J:Nat}{n:Nat}{v:Value}{xs:List Value}(I:w.ownsRow J e sz v n xs)(hb: ∀g,v.ownBlock=some g→w'.heap[g]? =w.heap[g]?):w'.ownsRow J e sz v n xs:=by
 refine⟨I.1,?_⟩;rcases I.2 with h5|⟨g,cap,cur,rfl,U,h7,h8⟩
 · grind
 · exact .inr ⟨g,cap,cur,rfl,U,by grind[Value.ownBlock],h8⟩
theorem RepMV.stay (hs:Stay w O w' O'){o:Option Value}{m:MV}{v:Value}(h:RepMV w O o m v):RepMV w' O' o m v:=by
 cases m with
 |row l=>exact h
 |val c=>
  obtain⟨cs,I,J⟩:=h;exact⟨cs,I.stay hs,J⟩
 |_=>trivial
theorem RepM.stay (hs:Stay w O w' O')(h:RepM w O e sz D b hf)(h0:w'.heap[b]? =w.heap[b]?)
  (hb: ∀k h g,hf k=some h→h.ownBlock=some g→w'.heap[g]? =w.heap[g]?):RepM w' O' e sz D b hf:=by
 refine⟨?_,fun k v hk=>?_,h.lent,h.nil,h.apart⟩
 · obtain⟨es,clock,U,J,I,h5⟩:=h.blk;refine⟨es,clock,by grind,J,fun x hx=>?_,h5⟩;obtain⟨k,m,e1,e2,e3,e4⟩:=I x hx;exact⟨k,m,e1,e2,e3,e4.stay hs⟩
 · obtain⟨U,xs,J,h3,I⟩:=h.row k v hk;exact⟨U,xs,J.stay hs,h3,lE I (fun g hg=>hb k v g hk hg)⟩
theorem RepM.lt (h:RepM w O e sz D b hf): ∀g,(Loc.mp b hf).has g→g<w.heap.size:=by
 obtain⟨es,clock,h1,h2,U,h5⟩:=h.blk;rintro g (rfl|⟨k,v,J,I⟩)
 · grind
 · obtain⟨_,xs,_,_,f8⟩:=h.row k v J;exact(f8.lt g I).2
theorem nL {T:List (Nat×List Value)}(hs:Stay w O w' O')(h: ∀x∈T,(∃t I,w.heap[x.1]? =some (.cells x.2.toArray t I))∧ ¬O x.1):
  ∀x∈T,(∃t I,w'.heap[x.1]? =some (.cells x.2.toArray t I))∧ ¬O' x.1:=fun x hx=>by
 obtain⟨⟨t,I,J⟩,U⟩:=h x hx;obtain⟨h3,h4⟩:=hs.block x.1 ⟨_,_,_,J⟩ U;grind
variable {id:Nat}
theorem RepO.stay {o:HO}(hs:Stay w O w' O')(hm:Moves M ρ ρ')(I:o.men M)
  (hρ:ρ' id=ρ id) (hb: ∀L b,ρ id=some L→L.has b→w'.heap[b]? =w.heap[b]?) (h:RepO w ρ O id o):RepO w' ρ' O' id o:=by
 cases o with
 |box t v=>
  obtain⟨b,cs,J,U,h3⟩:=h;exact⟨b,cs,by grind,by rw[hb _ b J rfl];grind,RepH.stay hs hm I h3⟩
 |row e sz l=>
  obtain⟨x,xs,J,U,h3,h4⟩:=h;refine⟨x,xs,by grind,U.stay hs,h3,h4.1,?_⟩;rcases h4.2 with h5|⟨g,cap,cur,rfl,h6,h7,h8⟩
  · grind
  · exact .inr ⟨g,cap,cur,rfl,h6,by simp_all[Loc.has,Value.ownBlock],h8⟩
 |mp e sz D=>
  obtain⟨b,hf,J,U⟩:=h;exact⟨b,hf,by grind,U.stay hs (hb _ b J (.inl rfl)) (fun k h g e1 e2=>hb _ g J (.inr ⟨k,h,e1,e2⟩))⟩
 |dead=>exact hρ.trans h
 |tab T=>exact⟨hρ.trans h.1,nL hs h.2⟩
 |hrow e sz l=>
  obtain⟨x,xs,J,U,h3,h4⟩:=h;exact⟨x,xs,by grind,RepHL.stay hs hm I U,h3,lE h4 fun g hg=>hb _ g J hg⟩
 |raw es clock=>
  obtain⟨b,J,U⟩:=h;exact⟨b,by grind,by rw[hb _ b J (.inl rfl)];exact U⟩
 |it m since seen last=>
  obtain⟨b,x,J,U,h3⟩:=h;refine⟨b,x,by grind,by rw[hb _ b J rfl];exact U,fun bm hf h4=>?_⟩;obtain⟨L,e1,e2⟩:=hm m _ I h4;rcases e2 with rfl|⟨_,_,rfl,e3,_⟩|⟨b1,f,f',rfl,e3,_⟩
  · exact h3 _ _ e1
  · cases e3
  · cases e3;exact h3 _ _ e1
variable {L:Loc}
theorem Owned.lt (h:RepS w ρ X ob)(I:ρ id=some L)(U:L.has b):b<w.heap.size:=by
 cases ho:ob id with
 |none=>rw[h.none id ho]at I;grind
 |some o=>
  have:=h.objs id o ho;cases o with
  |box t v=>
   obtain⟨b',cs,J,e2,_⟩:=this;rw[J]at I;cases I;cases U;grind
  |mp e sz D=>
   obtain⟨b',hf,J,e2⟩:=this;rw[J]at I;cases I;exact e2.lt b U
  |row e sz l=>
   obtain⟨x,xs,J,_,_,e4⟩:=this;rw[J]at I;cases I;exact(e4.lt b U).2
  |dead=>rw[show ρ id=none from this]at I;grind
  |tab T=>rw[this.1]at I;grind
  |hrow e sz l=>
   obtain⟨x,xs,J,_,_,e4⟩:=this;rw[J]at I;cases I;exact(e4.lt b U).2
  |raw es clock=>
   obtain⟨b',J,e2⟩:=this;rw[J]at I;cases I;rcases U with U|⟨k,hd,U,_⟩
   · grind
   · cases U
  |it m since seen last=>
   obtain⟨b',x,J,e2,_⟩:=this;rw[J]at I;cases I;cases U;grind
variable {nid:Nat}
theorem RepA'.nid_none (h:RepA' c M fr ob a w ρ)(hn: ¬M nid):ob nid=none∧ρ nid=none:=by
 have:ob nid=none:=by
  cases I:ob nid with
  |none=>rfl
  |some o=>exact absurd (h.mo nid o I).1 hn
 exact⟨this,h.s.none nid this⟩
theorem Moves.upd_new (hn: ¬M nid):Moves M ρ (upd ρ nid (some L)):=by
 intro id L' hm h;rw[bE _ _ (fun e=>hn (by grind))]at h;grind
theorem RepA'.newObj {w1:World}{o:HO}{obj:Obj}
  (h:RepA' c M fr ob a w ρ) (hn: ¬M nid) (hM: ∀i,M i→M' i) (ag:M' nid) (e1:w1.heap=w.heap) (e2:w1.os=w.os) (e3:w1.tape=w.tape) (e4:w1.output=w.output)
  (hL: ∀b,L.has b→b=w.heap.size)
  (hO:Stay w (Owned ρ c.X) (w1.alloc obj) (Owned (upd ρ nid (some L)) c.X)→RepO (w1.alloc obj) (upd ρ nid (some L)) (Owned (upd ρ nid (some L)) c.X) nid o)
  (ho:o.men M')
  (hv:v= .junk∨RepV (w1.alloc obj) (upd ρ nid (some L)) (Owned (upd ρ nid (some L)) c.X) v x) (ae:v.men M') (hd: ∀k,d=some k→k<c.n):
  RepA' c M' (updo fr d v) (upd ob nid (some o)) (a.put d x) (w1.alloc obj) (upd ρ nid (some L)):=by
 obtain⟨ah,hρ⟩:=h.nid_none hn;have ai:w1.heap.size=w.heap.size:=by rw[e1]
 have ad: ∀b,Own (upd ρ nid (some L)) b→Own ρ b∨w.heap.size≤b:=by
  rintro b ⟨id,L',I,J⟩;by_cases e:id=nid
  · subst e;rw[aR]at I;grind
  · rw[bE _ _ e]at I;exact .inl ⟨id,L',I,J⟩
 have aa: ∀b,b<w.heap.size→(w1.alloc obj).heap[b]? =w.heap[b]? :=fun b hb=>by
  rw[Q8 _ _ _ (by omega),e1]
 have hs:Stay2 w (Own ρ) (w1.alloc obj) (Own (upd ρ nid (some L))):=
  ⟨fun b hb _=>aa b hb,ad,by grind,e2,e3,e4⟩
 have ab:Moves M ρ (upd ρ nid (some L)):=Moves.upd_new hn;refine h.step hM hs ab ⟨fun id o' U=>?_,fun id hid=>?_,?_,?_⟩ hv ae (fun id o' U=>?_) hd
 ·
  by_cases e:id=nid
  · subst e;rw[aR]at U;cases U;exact hO (hs.stay c.X)
  · rw[bE _ _ e]at U;exact RepO.stay (hs.stay c.X) ab (h.mo id o' U).2 (bE _ _ e) (fun L b I J=>aa b (Owned.lt h.s I J)) (h.s.objs id o' U)
 ·
  by_cases e:id=nid
  · simp_all
  · rw[bE _ _ e]at hid⊢;exact h.s.none id hid
 ·
  intro id id' L1 L2 b I J h3 h4;by_cases e:id=nid<;>by_cases e':id'=nid
  · rw[e,e']
  · subst e;rw[aR]at I;rw[bE _ _ e']at J;cases I;have af:=Owned.lt h.s J h4;grind
  · subst e';rw[aR]at J;rw[bE _ _ e]at I;cases J;have af:=Owned.lt h.s I h3;grind
  · rw[bE _ _ e]at I;rw[bE _ _ e']at J;exact h.s.apart id id' L1 L2 b I J h3 h4
 ·
  intro id L' b I J;by_cases e:id=nid
  · subst e;rw[aR]at I;cases I;cases hL _ J;exact fun hx=>absurd (I0 (h.xlt _ hx) h.base.size) (BU _)
  · rw[bE _ _ e]at I;exact h.s.xb id L' b I J
 ·
  by_cases e:id=nid
  · simp_all
  ·
   rw[bE _ _ e]at U;obtain⟨I,J⟩:=h.mo id o' U;refine⟨hM _ I,?_⟩;cases o' with
   |box t v=>exact HV.men_mono hM J
   |row _ _ _=>trivial
   |mp _ _ _=>trivial
   |dead=>trivial
   |tab _=>trivial
   |hrow _ _ _=>exact HV.menL_mono hM J
   |raw _ _=>trivial
   |it _ _ _ _=>exact hM _ J
theorem RepA'.setObj {o:HO}{b0:Nat}
  (h:RepA' c M fr ob a w ρ) (hid:ρ I=some L) (aa:L.has b0) (ad:M I)
  (hb: ∀b,b≠b0→w'.heap[b]? =w.heap[b]?) (e0:w'.heap.size=w.heap.size) (e2:w'.os=w.os) (e3:w'.tape=w.tape) (e4:w'.output=w.output)
  (hO:Stay w (Owned ρ c.X) w' (Owned ρ c.X)→RepO w' ρ (Owned ρ c.X) I o) (ho:o.men M)
  (hv:Stay w (Owned ρ c.X) w' (Owned ρ c.X)→(v= .junk∨RepV w' ρ (Owned ρ c.X) v x)) (ab:v.men M) (hd: ∀k,d=some k→k<c.n):
  RepA' c M (updo fr d v) (upd ob I (some o)) (a.put d x) w' ρ:=by
 have hs:Stay2 w (Own ρ) w' (Own ρ):=
  ⟨fun b _ hO=>hb b (fun e=>hO (e▸⟨I,L,hid,aa⟩)),fun _ h=> .inl h,by omega,e2,e3,e4⟩
 refine h.step (fun _ h=>h) hs (Moves.refl _ _) ⟨fun id o' J=>?_,fun id U=>?_,h.s.apart,h.s.xb⟩ (hv (hs.stay c.X)) ab (fun id o' J=>?_) hd
 ·
  by_cases e:id=I
  · subst e;rw[aR]at J;cases J;exact hO (hs.stay c.X)
  · rw[bE _ _ e]at J;exact RepO.stay (hs.stay c.X) (Moves.refl M ρ) (h.mo id o' J).2 rfl (fun L' b h1 h2=>hb b (fun e'=>e (h.s.apart id I L' L b h1 hid h2 (e'▸aa)))) (h.s.objs id o' J)
 ·
  by_cases e:id=I
  · simp_all
  · rw[bE _ _ e]at U;exact h.s.none id U
 ·
  by_cases e:id=I
  · simp_all
  · rw[bE _ _ e]at J;exact h.mo id o' J
end Go.Hl
