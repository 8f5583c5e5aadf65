/- HL, part F: stores, new variables, structs and arrays that are built, slices that are built. By an AI agent. -/
import Derived.KernelRfl
import Derived.Test.YthedbjfipmkpiaaGreatDoorHlB
set_option linter.unusedSimpArgs false
set_option linter.unusedVariables false
set_option linter.defProp false
namespace Go.Hl
open Go
theorem CV.setAt_single {v:CV}(I:v.isAgg=false)(off sz:Nat)(x:HV):v.setAt off sz x=if off=0∧sz=1 then some x else none:=by
 cases v<;>simp_all[CV.setAt,CV.isAgg]
theorem CV.cells_single {v:CV}(I:v.isAgg=false):v.cells=1:=by cases v<;>simp_all[CV.cells,CV.isAgg]
variable {v:HV}
theorem HV.cells_single (I:v.isAgg=false):v.cells=1:=by
 cases v<;>simp_all[HV.cells,HV.isAgg];exact CV.cells_single I
theorem HV.stoL_c : ∀{l:List CV},HV.stoL (l.map .c)=true
 |[]=>rfl
 |v::vs=>by simp only[B8,HV.stoL,HV.sto,HV.stoL_c,E2]
mutual
theorem CV.setAt_spec {w:World}{ρ:Env}{O:Nat→Prop}{sz:Nat}{x:HV}(hx:x.sto=true): ∀{v:CV} {v':HV} {off:Nat} {cs:List Value},v.setAt off sz x=some v'→RepC w O v cs→
  ∃c1 c2 c3,cs=c1++c2++c3∧c1.length=off∧c2.length=sz∧(∀J,RepH w ρ O x J→RepH w ρ O v' (c1++J++c3))∧v'.sto=true∧(∀M,x.men M→v'.men M)
 | .agg l,v',off,cs,I,h=>by
  simp only[CV.setAt]at I;simp only[RepC]at h;by_cases U:off=0∧CV.cellsL l=sz
  · rw[B1 U]at I;cases I;exact⟨[],cs,[],by simp,by grind,by grind[pK],fun J h'=>by grind,hx,fun M h=>h⟩
  · rw[A7 U,C9]at I;obtain⟨l',I,rfl⟩:=I;obtain⟨c1,c2,c3,e1,e2,e3,e4,e5,e6⟩:=CV.setAtL_spec (ρ:=ρ) hx I h;grind[RepH,HV.sto,HV.men]
 | .bool b,v',off,cs,I,h=>by
  rw[CV.setAt_single rfl]at I;split at I
  · rename_i U;cases I;exact⟨[],cs,[],by simp,by grind,by rw[bK h,CV.cells_single rfl,U.2],fun J h'=>by grind,hx,fun M h=>h⟩
  grind
 | .int k n,v',off,cs,I,h=>by
  rw[CV.setAt_single rfl]at I;split at I
  · rename_i U;cases I;exact⟨[],cs,[],by simp,by grind,by rw[bK h,CV.cells_single rfl,U.2],fun J h'=>by grind,hx,fun M h=>h⟩
  grind
 | .str s,v',off,cs,I,h=>by
  rw[CV.setAt_single rfl]at I;split at I
  · rename_i U;cases I;exact⟨[],cs,[],by simp,by grind,by rw[bK h,CV.cells_single rfl,U.2],fun J h'=>by grind,hx,fun M h=>h⟩
  grind
 | .nils,v',off,cs,I,h=>by
  rw[CV.setAt_single rfl]at I;split at I
  · rename_i U;cases I;exact⟨[],cs,[],by simp,by grind,by rw[bK h,CV.cells_single rfl,U.2],fun J h'=>by grind,hx,fun M h=>h⟩
  grind
 | .slc l,v',off,cs,I,h=>by
  rw[CV.setAt_single rfl]at I;split at I
  · rename_i U;cases I;exact⟨[],cs,[],by simp,by grind,by rw[bK h,CV.cells_single rfl,U.2],fun J h'=>by grind,hx,fun M h=>h⟩
  grind
 | .rp _,v',off,cs,I,h=>by
  rw[CV.setAt_single rfl]at I;split at I
  · rename_i U;cases I;exact⟨[],cs,[],by simp,by grind,by rw[bK h,CV.cells_single rfl,U.2],fun J h'=>by grind,hx,fun M h=>h⟩
  grind
 | .fn _,v',off,cs,I,h=>by
  rw[CV.setAt_single rfl]at I;split at I
  · rename_i U;cases I;exact⟨[],cs,[],by simp,by grind,by rw[bK h,CV.cells_single rfl,U.2],fun J h'=>by grind,hx,fun M h=>h⟩
  grind
 | .nilp,v',off,cs,I,h=>by
  rw[CV.setAt_single rfl]at I;split at I
  · rename_i U;cases I;exact⟨[],cs,[],by simp,by grind,by rw[bK h,CV.cells_single rfl,U.2],fun J h'=>by grind,hx,fun M h=>h⟩
  grind
 | .nilf,v',off,cs,I,h=>by
  rw[CV.setAt_single rfl]at I;split at I
  · rename_i U;cases I;exact⟨[],cs,[],by simp,by grind,by rw[bK h,CV.cells_single rfl,U.2],fun J h'=>by grind,hx,fun M h=>h⟩
  grind
 | .nili,v',off,cs,I,h=>by
  rw[CV.setAt_single rfl]at I;split at I
  · rename_i U;cases I;exact⟨[],cs,[],by simp,by grind,by rw[bK h,CV.cells_single rfl,U.2],fun J h'=>by grind,hx,fun M h=>h⟩
  grind
 | .nilm,v',off,cs,I,h=>by
  rw[CV.setAt_single rfl]at I;split at I
  · rename_i U;cases I;exact⟨[],cs,[],by simp,by grind,by rw[bK h,CV.cells_single rfl,U.2],fun J h'=>by grind,hx,fun M h=>h⟩
  grind
 | .ifc _ _,v',off,cs,I,h=>by
  rw[CV.setAt_single rfl]at I;split at I
  · rename_i U;cases I;exact⟨[],cs,[],by simp,by grind,by rw[bK h,CV.cells_single rfl,U.2],fun J h'=>by grind,hx,fun M h=>h⟩
  grind
theorem CV.setAtL_spec {w:World}{ρ:Env}{O:Nat→Prop}{sz:Nat}{x:HV}(hx:x.sto=true): ∀{l:List CV} {l':List HV} {off:Nat} {cs:List Value},CV.setAtL off sz x l=some l'→RepL w O l cs→
  ∃U c2 c3,cs=U++c2++c3∧U.length=off∧c2.length=sz∧(∀J,RepH w ρ O x J→RepHL w ρ O l' (U++J++c3))∧HV.stoL l'=true∧(∀M,x.men M→HV.menL M l')
 |[],l',off,cs,I,h=>by simp[CV.setAtL]at I
 |v::vs,l',off,cs,I,h=>by
  simp only[CV.setAtL]at I;simp only[RepL]at h;obtain⟨y,z,rfl,h1,h2⟩:=h;split at I
  · rw[C9]at I;obtain⟨v',I,rfl⟩:=I;obtain⟨U,c2,c3,rfl,e1,e2,e3,e4,e5⟩:=CV.setAt_spec (ρ:=ρ) hx I h1;refine⟨U,c2,c3++z,by simp,e1,e2,fun J h'=>?_,?_,fun M h=>?_⟩;all_goals grind[RepHL,tV,HV.stoL,HV.stoL_c,Bool.and_self,HV.menL,HV.menL_c]
  ·
   rw[C9]at I;obtain⟨l2,I,rfl⟩:=I;obtain⟨U,c2,c3,rfl,e1,e2,e3,e4,e5⟩:=CV.setAtL_spec (ρ:=ρ) hx I h2;refine⟨y++U,c2,c3,by simp,by grind[List.length_append,bK],e2,fun J h'=>?_,?_,fun M h=>?_⟩
   · grind[RepHL,RepH]
   all_goals simp_all[HV.stoL,HV.sto,E2,HV.menL,HV.men,Q9]
end
theorem HV.setAt_single (I:v.isAgg=false)(off sz:Nat)(x:HV):HV.setAt off sz x v=if off=0∧sz=1 then some x else none:=by
 cases v with
 |c v=>simp only[HV.setAt];exact CV.setAt_single I _ _ _
 |agg l=>simp[HV.isAgg]at I
 |_=>simp only[HV.setAt]
mutual
theorem HV.setAt_spec {w:World}{ρ:Env}{O:Nat→Prop}{sz:Nat}{x:HV}(hx:x.sto=true): ∀{v v':HV} {off:Nat} {cs:List Value},HV.setAt off sz x v=some v'→v.sto=true→RepH w ρ O v cs→
  ∃c1 c2 c3,cs=c1++c2++c3∧c1.length=off∧c2.length=sz∧(∀U,RepH w ρ O x U→RepH w ρ O v' (c1++U++c3))∧v'.sto=true∧(∀M,x.men M→v.men M→v'.men M)
 | .c v,v',off,cs,I,_,h=>by
  simp only[HV.setAt]at I;simp only[RepH]at h;obtain⟨c1,c2,c3,e1,e2,e3,e4,e5,e6⟩:=CV.setAt_spec (ρ:=ρ) hx I h;exact⟨c1,c2,c3,e1,e2,e3,e4,e5,fun M h _=>e6 M h⟩
 | .agg l,v',off,cs,I,hs,h=>by
  simp only[HV.setAt]at I;simp only[RepH,HV.sto]at h hs;by_cases J:off=0∧HV.cellsL l=sz
  · rw[B1 J]at I;cases I;exact⟨[],cs,[],by simp,by simp[J.1],by rw[nK h];exact J.2,fun U h'=>by simpa using h',hx,fun M h _=>h⟩
  · rw[A7 J,C9]at I;obtain⟨l',I,rfl⟩:=I;obtain⟨c1,c2,c3,e1,e2,e3,e4,e5,e6⟩:=HV.setAtL_spec hx I hs h;exact⟨c1,c2,c3,e1,e2,e3,fun U h'=>by simp only[RepH];exact e4 U h',by simpa only[HV.sto]using e5,fun M h h'=>by simp only[HV.men]at h'⊢;exact e6 M h h'⟩
 | .junk,v',off,cs,I,hs,h=>by simp[HV.sto]at hs
 | .tup _,v',off,cs,I,hs,h=>by simp[HV.sto]at hs
 | .own id n,v',off,cs,I,hs,h=>by
  rw[HV.setAt_single rfl]at I;split at I
  · rename_i J;cases I;exact⟨[],cs,[],by simp,by simp[J.1],by rw[bR h,HV.cells_single rfl,J.2],fun U h'=>by simpa using h',hx,fun M h _=>h⟩
  · cases I
 | .ptr id n,v',off,cs,I,hs,h=>by
  rw[HV.setAt_single rfl]at I;split at I
  · rename_i J;cases I;exact⟨[],cs,[],by simp,by simp[J.1],by rw[bR h,HV.cells_single rfl,J.2],fun U h'=>by simpa using h',hx,fun M h _=>h⟩
  · cases I
 | .eptr ..,v',off,cs,I,hs,h=>by
  rw[HV.setAt_single rfl]at I;split at I
  · rename_i J;cases I;exact⟨[],cs,[],by simp,by simp[J.1],by rw[bR h,HV.cells_single rfl,J.2],fun U h'=>by simpa using h',hx,fun M h _=>h⟩
  · cases I
 | .osl ..,v',off,cs,I,hs,h=>by
  rw[HV.setAt_single rfl]at I;split at I
  · rename_i J;cases I;exact⟨[],cs,[],by simp,by simp[J.1],by rw[bR h,HV.cells_single rfl,J.2],fun U h'=>by simpa using h',hx,fun M h _=>h⟩
  · cases I
 | .mapr id,v',off,cs,I,hs,h=>by
  rw[HV.setAt_single rfl]at I;split at I
  · rename_i J;cases I;exact⟨[],cs,[],by simp,by simp[J.1],by rw[bR h,HV.cells_single rfl,J.2],fun U h'=>by simpa using h',hx,fun M h _=>h⟩
  · cases I
 | .mrow ..,v',off,cs,I,hs,h=>by
  rw[HV.setAt_single rfl]at I;split at I
  · rename_i J;cases I;exact⟨[],cs,[],by simp,by simp[J.1],by rw[bR h,HV.cells_single rfl,J.2],fun U h'=>by simpa using h',hx,fun M h _=>h⟩
  · cases I
 | .clo id n,v',off,cs,I,hs,h=>by
  rw[HV.setAt_single rfl]at I;split at I
  · rename_i J;cases I;exact⟨[],cs,[],by simp,by simp[J.1],by rw[bR h,HV.cells_single rfl,J.2],fun U h'=>by simpa using h',hx,fun M h _=>h⟩
  · cases I
 | .opq _,v',off,cs,I,hs,h=>by
  rw[HV.setAt_single rfl]at I;split at I
  · rename_i J;cases I;exact⟨[],cs,[],by simp,by simp[J.1],by rw[bR h,HV.cells_single rfl,J.2],fun U h'=>by simpa using h',hx,fun M h _=>h⟩
  · cases I
theorem HV.setAtL_spec {w:World}{ρ:Env}{O:Nat→Prop}{sz:Nat}{x:HV}(hx:x.sto=true): ∀{l l':List HV} {off:Nat} {cs:List Value},HV.setAtL off sz x l=some l'→HV.stoL l=true→RepHL w ρ O l cs→
  ∃U c2 c3,cs=U++c2++c3∧U.length=off∧c2.length=sz∧(∀J,RepH w ρ O x J→RepHL w ρ O l' (U++J++c3))∧HV.stoL l'=true∧(∀M,x.men M→HV.menL M l→HV.menL M l')
 |[],l',off,cs,I,_,h=>by simp[HV.setAtL]at I
 |v::vs,l',off,cs,I,hs,h=>by
  simp only[HV.setAtL]at I;simp only[RepHL,HV.stoL,B3]at h hs;obtain⟨y,z,rfl,h1,h2⟩:=h;split at I
  · rw[C9]at I;obtain⟨v',I,rfl⟩:=I;obtain⟨U,c2,c3,rfl,e1,e2,e3,e4,e5⟩:=HV.setAt_spec hx I hs.1 h1;refine⟨U,c2,c3++z,by simp,e1,e2,fun J h'=>?_,?_,fun M h h'=>?_⟩;all_goals grind[RepHL,HV.stoL,Bool.and_self,HV.menL]
  · rw[C9]at I;obtain⟨l2,I,rfl⟩:=I;obtain⟨U,c2,c3,rfl,e1,e2,e3,e4,e5⟩:=HV.setAtL_spec hx I hs.2 h2;refine⟨y++U,c2,c3,by simp,by grind[List.length_append,bR],e2,fun J h'=>?_,?_,fun M h h'=>?_⟩;all_goals grind[RepHL,HV.stoL,Bool.and_self,HV.menL]
end
inductive TyD where
 |bool|int (k:IntKind)|string
 |pointer (e:TypeId)|slice (e:TypeId)|array (n:Nat) (e:TypeId)|map (k e:TypeId)
 |struct (fs:List (Nat×TypeId))
 |func|iface (empty:Bool)|other
 deriving DecidableEq
def tyd :TypeDesc→TyD
 | .bool=> .bool
 | .int k=> .int k
 | .string=> .string
 | .pointer e=> .pointer e
 | .slice e=> .slice e
 | .array n e=> .array n e
 | .map k e=> .map k e
 | .struct fs=> .struct (fs.toList.map fun f=>(f.offset,f.type))
 | .func _ _ _=> .func
 | .interface ms=> .iface ms.isEmpty
 |_=> .other
structure TyI where
 size:Nat
 bytes:Nat
 d:TyD
 z:CV
def TyD.isAgg :TyD→Bool
 | .struct _| .array _ _=>true
 |_=>false
def cC8 (P:Program):Nat→TypeId→Option CV
 |0,_=>none
 |n+1,t=>
  match P.underlying t with
  |some .bool=>some (.bool false)
  |some (.int k)=>some (.int k 0)
  |some .string=>some (.str [])
  |some (.pointer _)=>some .nilp
  |some (.slice _)=>some .nils
  |some (.map _ _)=>some .nilm
  |some (.func _ _ _)=>some .nilf
  |some (.interface _)=>some .nili
  |some (.array m e)=>(cC8 P n e).map fun z=> .agg (List.replicate m z)
  |some (.struct fs)=>(fs.toList.mapM fun f=>cC8 P n f.type).map .agg
  |_=>none
mutual
def CV.flat :CV→Option (List Value)
 | .bool b=>some [.bool b]
 | .int k n=>some [.int k n]
 | .str s=>some [.string ⟨s.toArray⟩]
 | .agg l=>CV.flatL l
 | .nils=>some [.slice none 0 0]
 | .nilp=>some [.pointer none]
 | .nilf=>some [.nilFunc]
 | .nili=>some [.nilIface]
 | .nilm=>some [.map none]
 |_=>none
def CV.flatL :List CV→Option (List Value)
 |[]=>some []
 |v::vs=>match v.flat,CV.flatL vs with
  |some a,some b=>some (a++b)
  |_,_=>none
end
mutual
theorem CV.flat_rep {w:World}{O:Nat→Prop}: ∀{v:CV} {cs:List Value},v.flat=some cs→RepC w O v cs
 | .bool b,cs,h=>by simp only[CV.flat,E8]at h;simp only[RepC];exact h.symm
 | .int k n,cs,h=>by simp only[CV.flat,E8]at h;simp only[RepC];exact h.symm
 | .str s,cs,h=>by simp only[CV.flat,E8]at h;simp only[RepC];exact h.symm
 | .agg l,cs,h=>by simp only[CV.flat]at h;simp only[RepC];exact CV.flatL_rep h
 | .nils,cs,h=>by simp only[CV.flat,E8]at h;simp only[RepC];exact h.symm
 | .nilp,cs,h=>by simp only[CV.flat,E8]at h;simp only[RepC];exact h.symm
 | .nilf,cs,h=>by simp only[CV.flat,E8]at h;simp only[RepC];exact h.symm
 | .nili,cs,h=>by simp only[CV.flat,E8]at h;simp only[RepC];exact h.symm
 | .nilm,cs,h=>by simp only[CV.flat,E8]at h;simp only[RepC];exact h.symm
 | .slc _,cs,h=>by simp[CV.flat]at h
 | .rp _,cs,h=>by simp[CV.flat]at h
 | .fn _,cs,h=>by simp[CV.flat]at h
 | .ifc _ _,cs,h=>by simp[CV.flat]at h
theorem CV.flatL_rep {w:World}{O:Nat→Prop}: ∀{l:List CV} {cs:List Value},CV.flatL l=some cs→RepL w O l cs
 |[],cs,h=>by grind[CV.flatL,Option.some.injEq,RepL]
 |v::vs,cs,h=>by
  simp only[CV.flatL]at h;split at h
  · rename_i a b J I;cases h;simp only[RepL];exact⟨a,b,rfl,CV.flat_rep J,CV.flatL_rep I⟩
  grind
end
def cC9 :Value→Value→Bool
 | .bool a,.bool b=>a==b
 | .int k a,.int j b=>k==j&&a==b
 | .string a,.string b=>a.data.toList==b.data.toList
 | .pointer none,.pointer none=>true
 | .slice none 0 0,.slice none 0 0=>true
 | .map none,.map none=>true
 | .nilFunc,.nilFunc=>true
 | .nilIface,.nilIface=>true
 |_,_=>false
theorem cD0 {a b:Value}(h:cC9 a b=true):a=b:=by
 unfold cC9 at h;split at h<;>simp_all;rename_i x y;cases x;simp_all
def wK :List Value→List Value→Bool
 |[],[]=>true
 |a::as,b::bs=>cC9 a b&&wK as bs
 |_,_=>false
theorem aJ6 : ∀{a b:List Value},wK a b=true→a=b
 |[],[],_=>rfl
 |a::as,b::bs,h=>by simp only[wK,B3]at h;rw[cD0 h.1,aJ6 h.2]
 |[],_::_,h=>by simp[wK]at h
 |_::_,[],h=>by simp[wK]at h
def aQ4 (P:Program):List (Nat×TypeId)→List CV→Nat→Bool
 |[],[],_=>true
 |(o,t)::fs,z::zs,k=>o==k&&(P.info? t).isSome&&P.cellsOf t==z.cells&&aQ4 P fs zs (k+z.cells)
 |_,_,_=>false
def lay (P:Program):TyD→CV→Bool
 | .struct fs,.agg zs=>aQ4 P fs zs 0
 | .array n e,.agg zs=>zs.length==n&&zs.all (fun z=>z.cells==P.cellsOf e)
 | .struct _,_=>false
 | .array _ _,_=>false
 |_,_=>true
def aP (P:Program)(t:TypeId):Option TyI:=
 match P.info? t,P.underlying t,cC8 P 8 t with
 |some i,some d,some z=>
  match i.zero,z.flat with
  |some zv,some cs=>
   if wK cs zv.cells.toList&&(tyd d).isAgg==z.isAgg&&Value.isAgg' zv==z.isAgg&&cs.length==i.size&&decide (0<i.size)&&lay P (tyd d) z then some ⟨i.size,i.bytes,tyd d,z⟩else none
  |_,_=>none
 |_,_,_=>none
structure TyOk (P:Program)(t:TypeId)(ti:TyI)(i:TypeInfo)(d:TypeDesc)(zv:Value):Prop where
 info:P.info? t=some i
 under:P.underlying t=some d
 size:i.size=ti.size
 bytes:i.bytes=ti.bytes
 d_:tyd d=ti.d
 zero:i.zero=some zv
 rep: ∀w O,RepC w O ti.z zv.cells.toList
 agg:Value.isAgg' zv=ti.z.isAgg
 dagg:ti.d.isAgg=ti.z.isAgg
 pos:0<ti.size
 zsize:zv.cells.size=ti.size
 lay_:lay P ti.d ti.z=true
theorem bF {P:Program}{t:TypeId}{ti:TyI}(h:aP P t=some ti): ∃i d zv,TyOk P t ti i d zv:=by
 unfold aP at h;split at h
 ·
  rename_i i d z h1 h2 h3;split at h
  ·
   rename_i zv cs J h5;split at h
   · rename_i I;simp only[B3,I6,C4]at I;obtain⟨⟨⟨⟨⟨c1,c2⟩,c3⟩,c4⟩,U⟩,c6⟩:=I;cases h;have aa:=aJ6 c1;exact⟨i,d,zv,h1,h2,rfl,rfl,rfl,J,fun w O=>by grind[CV.flat_rep],c3,c2,U,by grind,c6⟩
   grind
  grind
 grind
def cvC1 :Value→Option CV
 | .bool b=>some (.bool b)
 | .int k n=>some (.int k n)
 | .string s=>some (.str s.data.toList)
 | .pointer none=>some .nilp
 | .slice none 0 0=>some .nils
 | .map none=>some .nilm
 | .nilFunc=>some .nilf
 | .nilIface=>some .nili
 |_=>none
def cvC :Value→Option CV
 | .agg cs=>(cs.toList.mapM cvC1).map .agg
 |v=>cvC1 v
def ev (fr:Fr):Operand→HV
 | .tmp t=>fr t
 | .const v=>match cvC v with|some c=> .c c|none=> .junk
 | .global _=> .junk
 | .func f=> .c (.fn f)
variable {O:Nat→Prop}{w:World}
theorem aV9 {v:Value}{c:CV}(h:cvC1 v=some c):RepC w O c [v]∧c.isAgg=false∧Value.isAgg' v=false:=by
 unfold cvC1 at h;split at h<;>first|(cases h;done)|(simp only[E8]at h;subst h;simp[RepC,CV.isAgg,Value.isAgg'])
theorem aJ7 {w:World}{O:Nat→Prop}: ∀{l:List Value} {cs:List CV},l.mapM cvC1=some cs→RepL w O cs l
 |[],cs,h=>by grind[RepL]
 |v::vs,cs,h=>by
  simp only[K6,Option.bind_eq_bind,AC,Option.pure_def,E8]at h;obtain⟨c,J,I,U,rfl⟩:=h;simp only[RepL];exact⟨[v],vs,rfl,(aV9 J).1,aJ7 U⟩
theorem cS2 {v:Value}{c:CV}(h:cvC v=some c):RepC w O c v.cells.toList∧c.isAgg=Value.isAgg' v:=by
 unfold cvC at h;split at h
 · rename_i cs;rw[C9]at h;obtain⟨l,I,rfl⟩:=h;exact⟨by grind[RepC,Value.cells,aJ7],rfl⟩
 · obtain⟨I,J,U⟩:=aV9 (w:=w) (O:=O) h;grind[cells_single]
variable {ρ:Env}{a:Act}{ob:Ob}{fr:Fr}{M:Nat→Prop}{c:Ctx}
theorem RepA'.ev (h:RepA' c M fr ob a w ρ)(x:Operand)(I:ev fr x≠ .junk):
  RepV w ρ (Owned ρ c.X) (ev fr x) (a.eval x):=by
 cases x with
 |tmp t=>exact h.f t I
 |const v=>
  simp only[Hl.ev]at I⊢;cases hc:cvC v with
  |none=>grind
  |some cv=>
   obtain⟨J,U⟩:=cS2 (w:=w) (O:=Owned ρ c.X) hc;exact⟨by simp only[RepH];exact J,U⟩
 |global g=>exact absurd rfl I
 |func f=>exact⟨by simp[Hl.ev,RepH,RepC,Act.eval,Value.cells],rfl⟩
theorem RepA'.evm (h:RepA' c M fr ob a w ρ)(x:Operand):(Hl.ev fr x).men M:=by
 cases x with
 |tmp t=>exact h.mf t
 |const v=>grind[Hl.ev,cvC,HV.men]
 |global g=>simp[Hl.ev,HV.men]
 |func f=>simp[Hl.ev,HV.men]
variable {x:Value}
theorem RepV.single {v:CV}(h:RepV w ρ O (.c v) x)(I:v.isAgg=false):RepC w O v [x]:=by
 obtain⟨J,U⟩:=h;grind[RepH,HV.isAgg,cells_single]
theorem bQ {v:CV}(h:RepC w O v [x])(I:v.isAgg=false)(hx:Value.isAgg' x=false):RepV w ρ O (.c v) x:=
 ⟨by grind[RepH,cells_single],by rw[HV.isAgg,I,hx]⟩
theorem dO (h:RepV w ρ O v x)(I:v.isAgg=false):RepH w ρ O v [x]∧Value.isAgg' x=false:=by
 obtain⟨J,U⟩:=h;grind[cells_single]
theorem dD (h:RepH w ρ O v [x])(I:v.isAgg=false)(hx:Value.isAgg' x=false):RepV w ρ O v x:=
 ⟨by grind[cells_single],by rw[I,hx]⟩
theorem iX (h:x.oneCell'=true):Value.isAgg' x=false:=by cases x<;>simp_all[Value.oneCell',Value.isAgg']
theorem RepV.bool {b:Bool}(h:RepV w ρ O (.c (.bool b)) x):x= .bool b:=by
 have:=h.single rfl;simpa[RepC]using this
theorem RepV.int {k:IntKind}{n:Int}(h:RepV w ρ O (.c (.int k n)) x):x= .int k n:=by
 have:=h.single rfl;simpa[RepC]using this
theorem RepV.str {s:List UInt8}(h:RepV w ρ O (.c (.str s)) x):x= .string ⟨s.toArray⟩:=by
 have:=h.single rfl;simpa[RepC]using this
theorem jP (w:World)(ρ:Env)(O:Nat→Prop)(b:Bool):RepV w ρ O (.c (.bool b)) (.bool b):=bQ (by simp[RepC]) rfl rfl
theorem eU (w:World)(ρ:Env)(O:Nat→Prop)(k:IntKind)(n:Int):RepV w ρ O (.c (.int k n)) (.int k n):=bQ (by simp[RepC]) rfl rfl
theorem tW (w:World)(ρ:Env)(O:Nat→Prop)(s:List UInt8):RepV w ρ O (.c (.str s)) (.string ⟨s.toArray⟩):=bQ (by simp[RepC]) rfl rfl
def hlift {α:Type}(o:Option α)(f:α→Prop):Prop:=match o with|some a=>f a|none=>False
@[simp] theorem hlift_some {α:Type}(a:α)(f:α→Prop):hlift (some a) f=f a:=rfl
@[simp] theorem hlift_none {α:Type}(f:α→Prop):hlift none f=False:=rfl
variable {α:Type}
@[congr] theorem dA9 {o o':Option α}(h:o=o')(f:α→Prop):hlift o f=hlift o' f:=by rw[h]
theorem aD {o:Option α}{f:α→Prop}:hlift o f↔ ∃a,o=some a∧f a:=by cases o<;>simp[hlift]
def nth (l:List CV)(i:Nat):CV:=l.getD i .nilp
def hpick (c a b:HV)(K:HV→Prop):Prop:=match c with| .c (.bool t)=>K (if t then a else b)|_=>False
def hload (ti:TyI)(a:HV)(ob:Ob)(K:HV→Prop):Prop:=
 match a with
 | .c (.rp v)=>hlift (v.getAt 0 ti.size ti.d.isAgg) fun u=>K (.c u)
 | .ptr id off=>match ob id with
  |some (.box _ v)=>v.sto=true∧hlift (v.getAt off ti.size ti.d.isAgg) K
  |_=>False
 | .eptr id n i sz off=>match ob id with
  |some (.row _ sz' l)=>(n=l.length∧sz=sz'∧i<l.length)∧hlift ((nth l i).getAt off ti.size ti.d.isAgg) fun u=>K (.c u)
  |_=>False
 |_=>False
def hfield (P:Program)(t:TypeId)(f:Nat)(K:Nat→TyI→Prop):Prop:=
 hlift (aP P t) fun ti=>match ti.d with
  | .struct fs=>hlift fs[f]? fun p=>hlift (aP P p.2) fun tf=>K p.1 tf
  |_=>False
def HO.isBox :Option HO→Bool
 |some (.box _ _)=>true
 |_=>false
def HO.isRow (n:Nat):Option HO→Prop
 |some (.row _ _ l)=>n=l.length∧l≠[]
 |_=>False
def hfieldAddr (P:Program)(t:TypeId)(a:HV)(f:Nat)(ob:Ob)(K:HV→Prop):Prop:=
 hfield P t f fun off tf=>match a with
  | .c (.rp v)=>hlift (v.getAt off tf.size tf.d.isAgg) fun u=>K (.c (.rp u))
  | .ptr id o=>HO.isBox (ob id)=true∧K (.ptr id (o+off))
  | .eptr id n i sz o=>HO.isRow n (ob id)∧K (.eptr id n i sz (o+off))
  |_=>False
def hindexAddr (P:Program)(t:TypeId)(x i:HV)(ob:Ob)(K:HV→Prop):Prop:=
 hlift (aP P t) fun ti=>match ti.d,i with
  | .slice e,.c (.int _ i)=>hlift (aP P e) fun te=>match x with
   | .c (.slc l)=>(0≤i∧i<(l.length:Int))∧(nth l i.toNat).cells=te.size∧K (.c (.rp (nth l i.toNat)))
   | .own id n=>match ob id with
    |some (.row _ sz l)=>(n=l.length∧sz=te.size)∧(0≤i∧i<(n:Int))∧K (.eptr id n i.toNat sz 0)
    |_=>False
   | .osl id n lo sz hi=>match ob id with
    |some (.row _ sz' l)=>(n=l.length∧0<n∧sz=te.size∧sz'=sz∧hi≤n)∧(0≤i∧i<((hi-lo:Nat):Int))∧K (.eptr id n (lo+i.toNat) sz 0)
    |some (.box _ _)=>(sz=te.size∧hi≤n)∧(0≤i∧i<((hi-lo:Nat):Int))∧K (.ptr id ((lo+i.toNat)*sz))
    |_=>False
   |_=>False
  | .array m e,.c (.int _ i)=>hlift (aP P e) fun te=>(0≤i∧i<(m:Int))∧match x with
   | .ptr id o=>HO.isBox (ob id)=true∧K (.ptr id (o+i.toNat*te.size))
   | .eptr id n j sz o=>HO.isRow n (ob id)∧K (.eptr id n j sz (o+i.toNat*te.size))
   | .c (.rp v)=>hlift (v.getAt (i.toNat*te.size) te.size te.d.isAgg) fun u=>K (.c (.rp u))
   |_=>False
  |_,_=>False
section
variable {P:Program}{w:World}
theorem bS {t:TypeId}{i:TypeInfo}(h:P.info? t=some i):(sizeOf t).run P w= .ok i.size w:=by simp[sizeOf,typeInfo,h]
theorem zW {t:TypeId}{d:TypeDesc}(h:P.underlying t=some d):(Go.isAgg t).run P w= .ok (tyd d).isAgg w:=by
 unfold Go.isAgg;rw[G6,D4 h];cases d<;>simp[tyd,TyD.isAgg]
theorem lF {t:TypeId}{ti:TyI}{i:TypeInfo}{d:TypeDesc}{zv:Value}(I:TyOk P t ti i d zv)(ad:Addr)(cs:List Value)(hl:cs.length=ti.size)
  (h: ∀j u,cs[j]? =some u→w.cell? (ad.add j)=some u):(loadVar t ad).run P w= .ok (eN ti.d.isAgg cs) w:=by
 have ha:(Go.isAgg t).run P w= .ok ti.d.isAgg w:=by rw[zW I.under,I.d_]
 have hp:=I.pos;simp only[loadVar,G6,ha,E6];cases U:ti.d.isAgg with
 |true=>
  have:=run_loadCells_list (P:=P) w ad cs h;rw[hl,←I.size]at this;simp[bS I.info,this,eN]
 |false=>
  have hz:ti.z.isAgg=false:=by rw[←I.dagg,U]
  have h1:ti.size=1:=by
   have:=I.zsize;have J:Value.isAgg' zv=false:=by rw[I.agg,hz]
   rw[cells_single J]at this;simpa using this.symm
  match cs,hl with
  |[u],_=>
   have:=h 0 u (by simp);simp_all[Addr.add,eN]
  |[],hl=>grind
  |_::_::_,hl=>grind
theorem iF {ρ:Env}{O:Nat→Prop}{v:HV}{cs:List Value}{I:Bool}(h:RepH w ρ O v cs)(J:v.isAgg=I)(hs:v.sto=true):RepV w ρ O v (eN I cs):=by
 cases I with
 |true=>exact⟨by rw[zA];exact h,by rw[J,zB]⟩
 |false=>
  have hl:=bR h;rw[HV.cells_single J]at hl
  match cs,hl with
  |[x],_=>
   grind[iX,pL,dD,eN]
end
theorem add_add (I:Addr)(i j:Nat):(I.add i).add j=I.add (i+j):=by grind[Addr.add,Nat.add_assoc]
theorem bT4 (I:Addr)(i:Nat):(I.add i).block=I.block:=by grind[Addr.add]
theorem Reads.part {ad:Addr}{U J c3:List Value}(h:Reads w O ad (U++J++c3)):Reads w O (ad.add U.length) J:=by
 refine⟨fun j u hj=>?_,fun I=>by rw[bT4];exact h.2 (by simp[I])⟩;rw[add_add];have aa:j<J.length:=(H3.1 hj).1;refine h.1 (U.length+j) u ?_;grind
theorem zX {w:World}{O:Nat→Prop}{sz:Nat}: ∀{l:List CV} {cs:List Value} {i:Nat},RepL w O l cs→(∀v∈l,v.cells=sz)→i<l.length→
  ∃I J c3,cs=I++J++c3∧I.length=i*sz∧RepC w O (nth l i) J
 |[],cs,i,_,_,hi=>by grind
 |v::vs,cs,0,h,_,_=>by
  simp only[RepL]at h;obtain⟨I,J,rfl,U,h2⟩:=h;exact⟨[],I,J,by simp,by simp,by simpa[nth]using U⟩
 |v::vs,cs,i+1,h,hc,hi=>by
  simp only[RepL]at h;obtain⟨I,J,rfl,U,h2⟩:=h;obtain⟨d1,d2,d3,rfl,e1,e2⟩:=zX (i:=i) h2 (fun v hv=>hc v (by grind)) (by grind);refine⟨I++d1,d2,d3,by simp,?_,by simpa[nth]using e2⟩;rw[A3,bK U,hc v (by simp),e1,N0];omega
theorem bM9 {l:List CV}{i:Nat}(h:i<l.length):nth l i∈l:=by simp[nth,h]
section
variable {P:Program}{c:Ctx}{M:Nat→Prop}{fr:Fr}{ob:Ob}{a:Act}{w:World}{ρ:Env}
theorem RepA'.box (h:RepA' c M fr ob a w ρ){id:Nat}{t:TypeId}{v:HV}(I:ob id=some (.box t v)):
  ∃b cs,ρ id=some (.blk b)∧w.heap[b]? =some (.cells cs.toArray t (0,0))∧RepH w ρ (Owned ρ c.X) v cs:=h.s.objs id _ I
theorem RepA'.rowO (h:RepA' c M fr ob a w ρ){id sz:Nat}{t:TypeId}{l:List CV}(J:ob id=some (.row t sz l)):
  ∃I xs,ρ id=some (.hdr I)∧RepL w (Owned ρ c.X) l xs∧(∀v∈l,v.cells=sz)∧w.ownsRow 0 t sz I l.length xs:=h.s.objs id _ J
theorem eS (b o j:Nat):(⟨b,o,none⟩:Addr).add j=⟨b,o+j,none⟩:=by grind[Addr.add]
theorem zY (h:RepA' c M fr ob a w ρ){t:TypeId}{ti:TyI}(ht:aP P t=some ti){x:Operand}{K:HV→Prop}(hl:hload ti (ev fr x) ob K):
  ∃u y,K u∧(Instr.loadAt t (a.eval x)).run P w= .ok y w∧RepV w ρ (Owned ρ c.X) u y∧u.men M:=by
 obtain⟨i,d,zv,aa⟩:=bF ht;unfold hload at hl;split at hl
 ·
  rename_i v hx;rw[aD]at hl;obtain⟨u,hg,hK⟩:=hl;have U:=h.ev x (by grind);rw[hx]at U;have:=U.single rfl;simp only[RepC]at this;obtain⟨ad,xs,he,hv,an⟩:=this;have ak:a.eval x= .pointer (some ad):=by simpa using he
  obtain⟨c1,c2,c3,rfl,e1,e2,e3,e4⟩:=CV.getAt_spec hg hv;have I:=an.part;have h0:c1=[]:=D3 e1;subst h0;simp only[C0]at I;have ae:ad.add 0=ad:=by simp[Addr.add]
  rw[ae]at I;refine⟨.c u,eN ti.d.isAgg c2,hK,?_,iF (by grind[RepH]) e4 rfl,by simp[HV.men]⟩;rw[ak];simp only[Instr.loadAt,Instr.sureAddr,G6,I7,E6];exact lF aa ad c2 e2 I.1
 ·
  rename_i id off hx;split at hl
  ·
   rename_i tb v ho;obtain⟨hs,hl⟩:=hl;rw[aD]at hl;obtain⟨u,hg,hK⟩:=hl;obtain⟨b,cs,hρ,hb,hv⟩:=h.box ho;have U:=dO (h.ev x (by grind)) (by rw[hx];rfl);rw[hx]at U;simp only[RepH]at U;obtain⟨⟨y,hy,_,hp⟩,_⟩:=U;have he:a.eval x= .pointer (some ⟨b,off,none⟩):=by
    have:a.eval x=y:=by simpa using hy
    rw[this];exact hp b hρ
   obtain⟨c1,c2,c3,rfl,e1,e2,e3,e4,e5,e6⟩:=HV.getAt_spec hg hs hv;refine⟨u,eN ti.d.isAgg c2,hK,?_,iF e3 e4 e5,?_⟩
   · rw[he];simp only[Instr.loadAt,Instr.sureAddr,G6,I7,E6];refine lF aa _ c2 e2 (fun j u hj=>?_);have ag:j<c2.length:=(H3.1 hj).1;rw[eS,AZ w b _ _ _ _ hb];simp only[P1,H5];rw[L6 (by omega),M7 (by omega)];rw[←hj];congr 1;omega
   · exact e6 M (h.mo id _ ho).2
  grind
 ·
  rename_i id n i' sz off hx;split at hl
  ·
   rename_i tb ar l ho;obtain⟨⟨hn,ah,hi⟩,hl⟩:=hl;subst hn ah;rw[aD]at hl;obtain⟨u,hg,hK⟩:=hl;obtain⟨hd,xs,hρ,af,aj,how⟩:=h.rowO ho;have U:=dO (h.ev x (by grind)) (by rw[hx];rfl);rw[hx]at U;simp only[RepH]at U;obtain⟨⟨y,hy,_,hp⟩,_⟩:=U;obtain⟨au,ai⟩:=hp hd hρ;rcases how.2 with⟨rfl,hz⟩|⟨g,cap,cur,rfl,aw,hh,aq,_,ao,J⟩
   · omega
   ·
    have he:a.eval x= .pointer (some ⟨g,i'*sz+off,none⟩):=by
     have:a.eval x=y:=by simpa using hy
     rw[this];exact ai rfl g cap rfl
    obtain⟨d1,d2,d3,rfl,f1,f2⟩:=zX af aj hi;obtain⟨c1,c2,c3,rfl,e1,e2,e3,e4⟩:=CV.getAt_spec hg f2;refine⟨.c u,eN ti.d.isAgg c2,hK,?_,iF (by simpa only[RepH]using e3) e4 rfl,by simp[HV.men]⟩;rw[he];simp only[Instr.loadAt,Instr.sureAddr,G6,I7,E6];refine lF aa _ c2 e2 (fun j u hj=>?_);have ag:j<c2.length:=(H3.1 hj).1;rw[eS,AZ w g _ _ _ _ hh];have ab:i'*sz+off+j<l.length*sz:=by
     have:=congrArg List.length J;simp only[A3,E1,O5]at this;omega
    have h3:cur[i'*sz+off+j]? =(cur.toList.take (l.length*sz))[i'*sz+off+j]? :=by
     rw[M3,B1 ab,N2]
    rw[h3,J];simp only[H5];rw[L6 (by omega),L6 (by omega),M7 (by omega)];rw[←hj];congr 1;omega
  grind
 grind
end
section
variable {P:Program}{c:Ctx}{M:Nat→Prop}{fr:Fr}{ob:Ob}{a:Act}{w:World}{ρ:Env}
theorem cD1 (h:RepA' c M fr ob a w ρ){x:Operand}{id off:Nat}(hx:ev fr x= .ptr id off):
  ∃y,a.eval x=y∧y.oneCell'=true∧ ∀b,ρ id=some (.blk b)→y= .pointer (some ⟨b,off,none⟩):=by
 have I:=dO (h.ev x (by grind)) (by rw[hx];rfl);grind[RepH]
theorem bN0 (h:RepA' c M fr ob a w ρ){x:Operand}{id n i sz off:Nat}(hx:ev fr x= .eptr id n i sz off):
  ∃y,a.eval x=y∧y.oneCell'=true∧ ∀I,ρ id=some (.hdr I)→n≤hlen I∧(hlen I=n→ ∀g cap,I= .slice (some ⟨g,0,none⟩) n cap→y= .pointer (some ⟨g,i*sz+off,none⟩)):=by
 have J:=dO (h.ev x (by grind)) (by rw[hx];rfl);grind[RepH]
theorem cD2 (h:RepA' c M fr ob a w ρ){x:Operand}{id n:Nat}(hx:ev fr x= .own id n):
  ∃y,a.eval x=y∧y.oneCell'=true∧ ∀I,ρ id=some (.hdr I)→n≤hlen I∧(hlen I=n→y=I):=by
 have J:=dO (h.ev x (by grind)) (by rw[hx];rfl);grind[RepH]
theorem bN1 (h:RepA' c M fr ob a w ρ){x:Operand}{v:CV}(hx:ev fr x= .c (.rp v)):
  ∃J xs,a.eval x= .pointer (some J)∧RepC w (Owned ρ c.X) v xs∧Reads w (Owned ρ c.X) J xs:=by
 have I:=h.ev x (by grind);rw[hx]at I;have:=I.single rfl;grind[RepC]
theorem aQ5 (h:RepA' c M fr ob a w ρ){x:Operand}{l:List CV}(hx:ev fr x= .c (.slc l)):
  ∃I cap xs sz,a.eval x= .slice I l.length cap∧RepL w (Owned ρ c.X) l xs∧(∀v∈l,v.cells=sz)∧l.length≤cap∧(I=none→cap=0)∧ ∀b,I=some b→Reads w (Owned ρ c.X) b xs:=by
 have J:=h.ev x (by grind);rw[hx]at J;have:=J.single rfl;simp_all[RepC]
theorem eC (h:RepA' c M fr ob a w ρ){x:Operand}{k:IntKind}{n:Int}(hx:ev fr x= .c (.int k n)):a.eval x= .int k n:=by
 have I:=h.ev x (by grind);rw[hx]at I;exact I.int
theorem qU (h:RepA' c M fr ob a w ρ){x:Operand}{b:Bool}(hx:ev fr x= .c (.bool b)):a.eval x= .bool b:=by
 have I:=h.ev x (by grind);rw[hx]at I;exact I.bool
theorem nA (h:RepA' c M fr ob a w ρ){x:Operand}{s:List UInt8}(hx:ev fr x= .c (.str s)):a.eval x= .string ⟨s.toArray⟩:=by
 have I:=h.ev x (by grind);rw[hx]at I;exact I.str
theorem zI (h:RepA' c M fr ob a w ρ){x:Operand}(hx:ev fr x= .c .nils):a.eval x= .slice none 0 0:=by
 have I:=h.ev x (by grind);rw[hx]at I;have:=I.single rfl;simpa[RepC]using this
theorem aQ6 {O:Nat→Prop}{v:CV}{I:Addr}{xs:List Value}(U:RepC w O v xs)(J:Reads w O I xs):RepV w ρ O (.c (.rp v)) (.pointer (some I)):=
 bQ (by simp only[RepC];grind) rfl rfl
theorem cD3 {O:Nat→Prop}{id off:Nat}{y:Value}(I:y.oneCell'=true)(J: ∀b,ρ id=some (.blk b)→y= .pointer (some ⟨b,off,none⟩)):RepV w ρ O (.ptr id off) y:=
 dD (by simp only[RepH];exact⟨y,rfl,I,J⟩) rfl (iX I)
theorem pM {i:TypeInfo}{f:Field}(hi:P.info? f.type=some i)(hp:0<i.size)(I:Addr):(fieldPlace I f).run P w= .ok (I.add f.offset) w:=by simp[fieldPlace,bS hi,Nat.ne_of_gt hp]
theorem wL {t:TypeId}{f:Nat}{K:Nat→TyI→Prop}(h:hfield P t f K):
  ∃(fs:Array Field) (fd:Field) (J:TyI) (i:TypeInfo) (d:TypeDesc) (zv:Value),P.underlying t=some (.struct fs)∧fs[f]? =some fd∧TyOk P fd.type J i d zv∧K fd.offset J:=by
 unfold hfield at h;rw[aD]at h;obtain⟨ti,ht,h⟩:=h;obtain⟨i,d,zv,I⟩:=bF ht;split at h
 · rename_i fs aa;rw[aD]at h;obtain⟨p,hp,h⟩:=h;rw[aD]at h;obtain⟨J,ab,h⟩:=h;have hd:=I.d_;rw[aa]at hd;cases d<;>simp[tyd]at hd;rename_i gs;rw[←hd]at hp;simp only[O1,C9]at hp;obtain⟨fd,ad,rfl⟩:=hp;obtain⟨i',d',U,h'⟩:=bF ab;exact⟨gs,fd,J,i',d',U,I.under,by grind,h',h⟩
 grind
theorem lR (h:RepA' c M fr ob a w ρ){x:Operand}{id off:Nat}(hx:ev fr x= .ptr id off)(I:HO.isBox (ob id)=true):
  ∃b,ρ id=some (.blk b)∧a.eval x= .pointer (some ⟨b,off,none⟩):=by
 obtain⟨y,he,h1,hp⟩:=cD1 h hx;unfold HO.isBox at I;split at I
 · rename_i t v J;obtain⟨b,cs,U,_⟩:=h.box J;grind
 grind
theorem qV (h:RepA' c M fr ob a w ρ){x:Operand}{id n i sz off:Nat}(hx:ev fr x= .eptr id n i sz off)(U:HO.isRow n (ob id)):
  ∃g cap,ρ id=some (.hdr (.slice (some ⟨g,0,none⟩) n cap))∧a.eval x= .pointer (some ⟨g,i*sz+off,none⟩):=by
 obtain⟨y,he,h1,hp⟩:=bN0 h hx;unfold HO.isRow at U;split at U
 ·
  rename_i t aa l ho;obtain⟨rfl,J⟩:=U;obtain⟨hd,xs,hρ,ae,ad,how⟩:=h.rowO ho;obtain⟨ab,I⟩:=hp hd hρ;rcases how.2 with⟨rfl,hz⟩|⟨g,cap,cur,rfl,_⟩
  · exact absurd (D3 hz) J
  · exact⟨g,cap,hρ,by rw[he];exact I rfl g cap rfl⟩
 grind
theorem nN (h:RepA' c M fr ob a w ρ){x:Operand}{id n sz:Nat}{t:TypeId}{l:List CV}(hx:ev fr x= .own id n)(ho:ob id=some (.row t sz l))(hn:n=l.length):
  ∃I xs,ρ id=some (.hdr I)∧a.eval x=I∧hlen I=n∧RepL w (Owned ρ c.X) l xs∧(∀v∈l,v.cells=sz)∧w.ownsRow 0 t sz I n xs:=by
 subst hn;obtain⟨y,he,h1,hp⟩:=cD2 h hx;obtain⟨I,xs,hρ,J,ad,how⟩:=h.rowO ho;obtain⟨aa,ab⟩:=hp I hρ;have hlen:hlen I=l.length:=by
  rcases how.2 with⟨rfl,U⟩|⟨g,cap,cur,rfl,_⟩
  · simp[hlen,U]
  · simp[hlen]
 grind
theorem qW {O:Nat→Prop}{id off b:Nat}(h:ρ id=some (.blk b)):RepV w ρ O (.ptr id off) (.pointer (some ⟨b,off,none⟩)):=
 cD3 (by simp[Value.oneCell']) (fun J I=>by grind)
theorem jH {O:Nat→Prop}{id n i sz off g cap:Nat}(h:ρ id=some (.hdr (.slice (some ⟨g,0,none⟩) n cap))):RepV w ρ O (.eptr id n i sz off) (.pointer (some ⟨g,i*sz+off,none⟩)):=by
 refine dD ?_ rfl rfl;simp only[RepH];refine⟨_,rfl,by simp[Value.oneCell'],fun U I=>?_⟩;rw[h]at I;cases I;refine⟨by simp[hlen],fun _ g' J e=>?_⟩;cases e;rfl
theorem zC (h:RepA' c M fr ob a w ρ){t:TypeId}{x:Operand}{f:Nat}{K:HV→Prop}(hl:hfieldAddr P t (ev fr x) f ob K):
  ∃u y,K u∧(Instr.fieldAt t (a.eval x) f).run P w= .ok y w∧RepV w ρ (Owned ρ c.X) u y∧u.men M:=by
 obtain⟨fs,fd,tf,i,d,zv,hu,hf,I,J⟩:=wL hl;have hp:0<i.size:=by rw[I.size];exact I.pos
 have run: ∀U,(Instr.fieldAt t (.pointer (some U)) f).run P w= .ok (.pointer (some (U.add fd.offset))) w:=fun U=>by simp[Instr.fieldAt,D4 hu,hf,Instr.sureAddr,pM I.info hp]
 have hm:=h.evm x;split at J
 · rename_i v hx;rw[aD]at J;obtain⟨u,hg,J⟩:=J;obtain⟨U,xs,he,hv,aa⟩:=bN1 h hx;obtain⟨c1,c2,c3,rfl,e1,e2,e3,e4⟩:=CV.getAt_spec hg hv;exact⟨.c (.rp u),_,J,by rw[he];exact run U,by rw[←e1];exact aQ6 e3 aa.part,by simp[HV.men]⟩
 · grind[id,lR,HV.men,eS,qW]
 all_goals grind[id,qV,HV.men,eS,Nat.add_assoc,jH]
theorem tX (h:RepA' c M fr ob a w ρ){x:Operand}{id n lo hi sz I:Nat}{t:TypeId}{l:List CV}(hx:ev fr x= .osl id n lo sz hi)(ho:ob id=some (.row t I l))(hn:n=l.length)(ae:0<n):
  ∃g cap xs,ρ id=some (.hdr (.slice (some ⟨g,0,none⟩) n cap))∧a.eval x= .slice (some ⟨g,if cap=lo then 0 else lo*sz,none⟩) (hi-lo) (cap-lo)∧n≤cap∧RepL w (Owned ρ c.X) l xs∧(∀v∈l,v.cells=I)∧w.ownsRow 0 t I (.slice (some ⟨g,0,none⟩) n cap) n xs:=by
 obtain⟨hd,xs,hρ,aa,ad,how⟩:=h.rowO ho;subst hn;rcases how.2 with⟨rfl,hz⟩|⟨g,cap,cur,rfl,ag,hg,J,_⟩
 · omega
 have hr:=dO (h.ev x (by rw[hx];simp)) (by rw[hx];rfl);rw[hx]at hr;simp only[RepH]at hr;obtain⟨⟨y,hy,af,U,_⟩,_⟩:=hr;simp only[F8,J9]at hy;obtain⟨_,ab⟩:=U _ hρ;exact⟨g,cap,xs,hρ,by rw[hy];exact ab (by simp[hlen]) g cap rfl,J,aa,ad,how⟩
theorem zD (h:RepA' c M fr ob a w ρ){t:TypeId}{x ix:Operand}{K:HV→Prop}(hl:hindexAddr P t (ev fr x) (ev fr ix) ob K):
  ∃u y,K u∧(Instr.indexAt t (a.eval x) (a.eval ix)).run P w= .ok y w∧RepV w ρ (Owned ρ c.X) u y∧u.men M:=by
 unfold hindexAddr at hl;rw[aD]at hl;obtain⟨ti,ht,hl⟩:=hl;obtain⟨i0,d0,ay,ab⟩:=bF ht;have hm:=h.evm x;split at hl
 ·
  rename_i e k i hd ah;have aa:=ab.d_;rw[hd]at aa;have hu:P.underlying t=some (.slice e):=by
   rw[ab.under];congr 1;cases d0<;>simp[tyd]at aa;grind
  have hi:=eC h ah;rw[aD]at hl;obtain⟨te,af,hl⟩:=hl;obtain⟨ie,de,aw,I⟩:=bF af;have U:(sizeOf e).run P w= .ok te.size w:=by rw[bS I.info,I.size]
  split at hl
  ·
   rename_i l hx;obtain⟨⟨h0,h1⟩,hc,J⟩:=hl;obtain⟨ad,cap,xs,sz,he,ag,ae,an,hn,aj⟩:=aQ5 h hx;have ak:i.toNat<l.length:=by omega
   have ao:sz=te.size:=by rw[←hc];exact(ae _ (bM9 ak)).symm
   cases ad with
   |none=>have:=hn rfl;omega
   |some b=>
    obtain⟨c1,c2,c3,rfl,e1,e2⟩:=zX ag ae ak;refine⟨_,.pointer (some (b.add (i.toNat*te.size))),J,?_,?_,by simp[HV.men]⟩
    · rw[he,hi];simp[Instr.indexAt,asIntOf,D4 hu,h0,h1,U]
    · rw[←ao,←e1];exact aQ6 e2 (aj b rfl).part
  ·
   rename_i id n hx;split at hl
   ·
    rename_i tr sz l ho;obtain⟨⟨hn,hs⟩,⟨h0,h1⟩,J⟩:=hl;obtain⟨az,xs,hρ,he,hlen,ag,ae,how⟩:=nN h hx ho hn;rcases how.2 with⟨rfl,hz⟩|⟨g,cap,cur,rfl,_⟩
    · omega
    · refine⟨_,.pointer (some (⟨g,i.toNat*sz+0,none⟩)),J,?_,jH hρ,by rw[hx]at hm;simpa[HV.men]using hm⟩;rw[he,hi];simp[Instr.indexAt,asIntOf,D4 hu,h0,h1,U,hs,eS]
   · exact hl.elim
  ·
   rename_i id n lo sz ba hx;split at hl
   ·
    rename_i tr ar l ho;obtain⟨⟨hn,au,hs,rfl,ax⟩,⟨h0,h1⟩,J⟩:=hl;obtain⟨g,cap,xs,hρ,he,an,ag,ae,how⟩:=tX h hx ho hn au;have ai:cap≠lo:=by omega
    refine⟨_,.pointer (some (⟨g,(lo+i.toNat)*ar+0,none⟩)),J,?_,jH hρ,by rw[hx]at hm;simpa[HV.men]using hm⟩;rw[he,hi];simp[Instr.indexAt,asIntOf,D4 hu,h0,h1,U,hs,eS,ai,N0]
   ·
    rename_i T v ho;obtain⟨⟨hs,ax⟩,⟨h0,h1⟩,J⟩:=hl;obtain⟨b,cs,hρ,_⟩:=h.box ho;have hr:=dO (h.ev x (by rw[hx];simp)) (by rw[hx];rfl);rw[hx]at hr;simp only[RepH]at hr;obtain⟨⟨y,hy,bb,_,aq⟩,_⟩:=hr;simp only[F8,J9]at hy;have he:a.eval x=_:=hy.trans (aq b hρ);have ai:n≠lo:=by omega
    refine⟨_,.pointer (some (⟨b,(lo+i.toNat)*sz,none⟩)),J,?_,qW hρ,by rw[hx]at hm;simpa[HV.men]using hm⟩;rw[he,hi];simp[Instr.indexAt,asIntOf,D4 hu,h0,h1,U,hs,eS,ai,N0]
   · exact hl.elim
  · exact hl.elim
 ·
  rename_i m e k i hd ah;have aa:=ab.d_;rw[hd]at aa;have hu:P.underlying t=some (.array m e):=by
   rw[ab.under];congr 1;cases d0<;>simp[tyd]at aa;grind
  have hi:=eC h ah;rw[aD]at hl;obtain⟨te,af,hl⟩:=hl;obtain⟨ie,de,aw,I⟩:=bF af;have U:(sizeOf e).run P w= .ok te.size w:=by rw[bS I.info,I.size]
  obtain⟨⟨h0,h1⟩,hl⟩:=hl;have run: ∀ad,(Instr.indexAt t (.pointer (some ad)) (.int k i)).run P w= .ok (.pointer (some (ad.add (i.toNat*te.size)))) w:=fun ad=>by simp_all[Instr.indexAt,asIntOf,D4,Instr.sureAddr]
  split at hl
  · rename_i id o hx;obtain⟨hb,J⟩:=hl;obtain⟨b,hρ,he⟩:=lR h hx hb;refine⟨_,_,J,by rw[he,hi];exact run _,?_,by rw[hx]at hm;simpa[HV.men]using hm⟩;rw[eS];exact qW hρ
  · rename_i id n i' sz o hx;obtain⟨hb,J⟩:=hl;obtain⟨g,cap,hρ,he⟩:=qV h hx hb;refine⟨_,_,J,by rw[he,hi];exact run _,?_,by rw[hx]at hm;simpa[HV.men]using hm⟩;rw[eS,BV];exact jH hρ
  · rename_i v hx;rw[aD]at hl;obtain⟨u,hg,J⟩:=hl;obtain⟨ad,xs,he,hv,aj⟩:=bN1 h hx;obtain⟨c1,c2,c3,rfl,e1,e2,e3,e4⟩:=CV.getAt_spec hg hv;exact⟨.c (.rp u),_,J,by rw[he,hi];exact run ad,by rw[←e1];exact aQ6 e3 aj.part,by simp[HV.men]⟩
  · exact hl.elim
 grind
end
mutual
def HV.toC :HV→Option CV
 | .c v=>some v
 | .agg l=>(HV.toCL l).map .agg
 |_=>none
def HV.toCL :List HV→Option (List CV)
 |[]=>some []
 |v::vs=>match v.toC,HV.toCL vs with
  |some a,some b=>some (a::b)
  |_,_=>none
end
mutual
theorem HV.toC_spec {w:World}{ρ:Env}{O:Nat→Prop}: ∀{v:HV} {u:CV} {cs:List Value},v.toC=some u→RepH w ρ O v cs→RepC w O u cs
 | .c v,u,cs,h,hr=>by simp only[HV.toC,E8]at h;subst h;simpa only[RepH]using hr
 | .agg l,u,cs,h,hr=>by
  simp only[HV.toC,C9]at h;obtain⟨I,h,rfl⟩:=h;simp only[RepH,RepC]at hr⊢;exact HV.toCL_spec h hr
 | .junk,u,cs,h,hr=>by simp[HV.toC]at h
 | .own ..,u,cs,h,hr=>by simp[HV.toC]at h
 | .ptr ..,u,cs,h,hr=>by simp[HV.toC]at h
 | .eptr ..,u,cs,h,hr=>by simp[HV.toC]at h
 | .osl ..,u,cs,h,hr=>by simp[HV.toC]at h
 | .mapr ..,u,cs,h,hr=>by simp[HV.toC]at h
 | .mrow ..,u,cs,h,hr=>by simp[HV.toC]at h
 | .clo ..,u,cs,h,hr=>by simp[HV.toC]at h
 | .opq _,u,cs,h,hr=>by simp[HV.toC]at h
 | .tup ..,u,cs,h,hr=>by simp[HV.toC]at h
theorem HV.toCL_spec {w:World}{ρ:Env}{O:Nat→Prop}: ∀{l:List HV} {I:List CV} {cs:List Value},HV.toCL l=some I→RepHL w ρ O l cs→RepL w O I cs
 |[],I,cs,h,hr=>by simp only[HV.toCL,E8]at h;subst h;simpa only[RepHL,RepL]using hr
 |v::vs,I,cs,h,hr=>by
  simp only[HV.toCL]at h;split at h
  · rename_i a b U h2;cases h;simp only[RepHL,RepL]at hr⊢;obtain⟨c1,c2,e,h3,J⟩:=hr;exact⟨c1,c2,e,HV.toC_spec U h3,HV.toCL_spec h2 J⟩
  · cases h
end
theorem HV.toC_agg {u:CV}(h:v.toC=some u):u.isAgg=v.isAgg:=by
 cases v with
 |c v=>simp only[HV.toC,E8]at h;subst h;rfl
 |agg l=>simp only[HV.toC,C9]at h;obtain⟨I,_,rfl⟩:=h;rfl
 |_=>simp[HV.toC]at h
mutual
theorem HV.toC_cells : ∀{v:HV} {u:CV},v.toC=some u→u.cells=v.cells
 | .c v,u,h=>by simp only[HV.toC,E8]at h;subst h;simp[HV.cells]
 | .agg l,u,h=>by
  simp only[HV.toC,C9]at h;obtain⟨I,h,rfl⟩:=h;simp only[CV.cells,HV.cells];exact HV.toCL_cells h
 | .junk,u,h=>by simp[HV.toC]at h
 | .own ..,u,h=>by simp[HV.toC]at h
 | .ptr ..,u,h=>by simp[HV.toC]at h
 | .eptr ..,u,h=>by simp[HV.toC]at h
 | .osl ..,u,h=>by simp[HV.toC]at h
 | .mapr ..,u,h=>by simp[HV.toC]at h
 | .mrow ..,u,h=>by simp[HV.toC]at h
 | .clo ..,u,h=>by simp[HV.toC]at h
 | .opq _,u,h=>by simp[HV.toC]at h
 | .tup ..,u,h=>by simp[HV.toC]at h
theorem HV.toCL_cells : ∀{l:List HV} {I:List CV},HV.toCL l=some I→CV.cellsL I=HV.cellsL l
 |[],I,h=>by simp only[HV.toCL,E8]at h;subst h;rfl
 |v::vs,I,h=>by
  simp only[HV.toCL]at h;split at h
  · rename_i a b U J;cases h;simp only[CV.cellsL,HV.cellsL,HV.toC_cells U,HV.toCL_cells J]
  · cases h
end
def HV.norm (v:HV):HV:=match v.toC with|some u=> .c u|none=>v
theorem HV.norm_cells (v:HV):v.norm.cells=v.cells:=by grind[HV.norm,HV.cells,HV.toC_cells]
theorem HV.norm_rep {cs:List Value}(h:RepH w ρ O v cs):RepH w ρ O v.norm cs:=by grind[HV.norm,RepH,HV.toC_spec]
theorem HV.norm_men (h:v.men M):v.norm.men M:=by grind[HV.norm,HV.men]
theorem HV.norm_agg (v:HV):v.norm.isAgg=v.isAgg:=by grind[HV.norm,HV.isAgg,HV.toC_agg]
theorem HV.norm_sto (h:v.sto=true):v.norm.sto=true:=by
 unfold HV.norm;split
 · rfl
 grind
theorem aW0 {w:World}{O:Nat→Prop}{sz:Nat}{u:CV}: ∀{l:List CV} {cs:List Value} {i:Nat},RepL w O l cs→(∀v∈l,v.cells=sz)→i<l.length→
  ∃J U c3,cs=J++U++c3∧J.length=i*sz∧RepC w O (nth l i) U∧ ∀I,RepC w O u I→RepL w O (l.set i u) (J++I++c3)
 |[],cs,i,_,_,hi=>by grind
 |v::vs,cs,0,h,_,_=>by
  simp only[RepL]at h;obtain⟨J,U,rfl,h1,h2⟩:=h;exact⟨[],J,U,by simp,by simp,by simpa[nth]using h1,fun I h'=>by grind[RepL]⟩
 |v::vs,cs,i+1,h,hc,hi=>by
  simp only[RepL]at h;obtain⟨J,U,rfl,h1,h2⟩:=h;obtain⟨d1,d2,d3,rfl,e1,e2,e3⟩:=aW0 (i:=i) h2 (fun v hv=>hc v (by grind)) (by grind);refine⟨J++d1,d2,d3,by simp,?_,by simpa[nth]using e2,fun I h'=>?_⟩
  · rw[A3,bK h1,hc v (by simp),e1,N0];omega
  · simp only[N8,RepL];exact⟨J,d1++I++d3,by simp,h1,e3 I h'⟩
def hstore (ti:TyI)(x v:HV)(ob:Ob)(K:HV→Ob→Prop):Prop:=
 match x with
 | .ptr id off=>match ob id with
  |some (.box T u)=>(u.sto=true∧v.sto=true∧v.cells=ti.size)∧hlift (HV.setAt off ti.size v u) fun u'=>K .junk (upd ob id (some (.box T u'.norm)))
  |_=>False
 | .eptr id n i sz off=>match ob id with
  |some (.row T sz' l)=>(n=l.length∧sz=sz'∧i<l.length∧v.sto=true∧v.cells=ti.size)∧hlift (HV.setAt off ti.size v (.c (nth l i))) fun u'=>hlift u'.toC fun cu=>K .junk (upd ob id (some (.row T sz' (l.set i cu))))
  |_=>False
 |_=>False
section
variable {P:Program}{c:Ctx}{M:Nat→Prop}{fr:Fr}{ob:Ob}{a:Act}{w:World}{ρ:Env}
theorem nB {t:TypeId}{i:TypeInfo}(hi:P.info? t=some i)(y:Value)(hy:y.cells.size=i.size)(b off:Nat)(T:TypeId)(cur:Array Value)(U:w.heap[b]? =some (.cells cur T (0,0)))
  (I:off+i.size≤cur.size) (J: ∀u∈y.cells.toList,u.oneCell'=true):
  (Instr.storeAt t (.pointer (some ⟨b,off,none⟩)) y).run P w= .ok () (w.setRow b (cur.toList.take off++y.cells.toList++cur.toList.drop (off+y.cells.toList.length)).toArray):=by
 have:=Z2 P b off T y.cells.toList 0 cur w U (by grind) J;simp_all[L4,Instr.storeAt,Instr.sureAddr,storeVar,bS]
theorem mR {l1 l2 l3 x:List Value}(h:x.length=l2.length):(l1++l2++l3).take l1.length++x++(l1++l2++l3).drop (l1.length+x.length)=l1++x++l3:=by grind
theorem aW1 (h:RepA' c M fr ob a w ρ){t:TypeId}{ti:TyI}(ht:aP P t=some ti){x y:Operand}{K:HV→Ob→Prop}(hl:hstore ti (ev fr x) (ev fr y) ob K):
  ∃ob' w',K .junk ob'∧(Instr.storeAt t (a.eval x) (a.eval y)).run P w= .ok () w'∧ ∀d z,(∀k,d=some k→k<c.n)→RepA' c M (updo fr d .junk) ob' (a.put d z) w' ρ:=by
 obtain⟨i,d,zv,aa⟩:=bF ht;have bh:=h.evm x;have az:=h.evm y;unfold hstore at hl;split at hl
 ·
  rename_i id off hx;split at hl
  ·
   rename_i T u ho;obtain⟨⟨hs,U,ah⟩,hl⟩:=hl;rw[aD]at hl;obtain⟨u',ad,hK⟩:=hl;obtain⟨b,hρ,he⟩:=lR h hx (by rw[ho];rfl);obtain⟨b',cs,ab,hb,hu⟩:=h.box ho;rw[hρ]at ab;cases ab;have I:=h.ev y (by grind[HV.sto]);obtain⟨c1,c2,c3,rfl,e1,e2,e3,e4,e5⟩:=HV.setAt_spec U ad hs hu;have ak:(a.eval y).cells.toList.length=c2.length:=by rw[bR I.1,ah,e2]
   have af:=nB (P:=P) (w:=w) aa.info (a.eval y) (by rw[aa.size,←ah,←bR I.1];simp) b off T _ hb (by simp[aa.size];omega) (pL U I.1);refine⟨_,_,hK,by rw[he];exact af,fun d z hd=>?_⟩;have J:(((c1++c2++c3).toArray.toList.take off++(a.eval y).cells.toList++(c1++c2++c3).toArray.toList.drop (off+(a.eval y).cells.toList.length)))=c1++(a.eval y).cells.toList++c3:=by
    rw[←e1];exact mR ak
   rw[J];have au:u'.men M:=e5 M az (h.mo id _ ho).2;refine h.setObj hρ rfl (h.mo id _ ho).1 (fun b' aq=>R7 w b b' _ aq) (X3 _ _ _) rfl rfl rfl (fun aj=>?_) (HV.norm_men au) (fun _=> .inl rfl) (by simp[HV.men]) hd;exact⟨b,_,hρ,T1 w b _ _ T (0,0) hb,HV.norm_rep (RepH.stay aj (Moves.refl M ρ) au (e3 _ I.1))⟩
  grind
 ·
  rename_i id n i' sz off hx;split at hl
  ·
   rename_i T bf l ho;obtain⟨⟨hn,bc,hi,U,ah⟩,hl⟩:=hl;subst hn bc;rw[aD]at hl;obtain⟨u',ad,hl⟩:=hl;rw[aD]at hl;obtain⟨cu,ay,hK⟩:=hl;obtain⟨g,cap,hρ,he⟩:=qV h hx (by rw[ho];exact⟨rfl,fun e=>by grind⟩);obtain⟨bj,xs,ab,ba,ao,how⟩:=h.rowO ho;rw[hρ]at ab;cases ab;have I:=h.ev y (by intro e;rw[e]at U;simp[HV.sto]at U);obtain⟨d1,d2,d3,rfl,f1,f2,f3⟩:=aW0 (u:=cu) ba ao hi;obtain⟨c1,c2,c3,rfl,e1,e2,e3,e4,e5⟩:=HV.setAt_spec (ρ:=ρ) U ad rfl (by simpa only[RepH]using f2);have ak:(a.eval y).cells.toList.length=c2.length:=by rw[bR I.1,ah,e2]
   rcases how.2 with⟨e,_⟩|⟨g',bd,cur,e,bg,hh,aw,hmax,ax,an⟩
   · cases e
   ·
    cases e;have ae:cur.toList=(d1++c1)++c2++(c3++d3++cur.toList.drop (l.length*sz)):=by
     refine(K9 (l.length*sz) cur.toList).symm.trans ?_;rw[an];simp
    have ag:cur.size=cur.toList.length:=by simp
    have ai:i'*sz+off=(d1++c1).length:=by simp[f1,e1]
    have af:=nB (P:=P) (w:=w) aa.info (a.eval y) (by rw[aa.size,←ah,←bR I.1];simp) g (i'*sz+off) T cur hh
     (by rw[ag,ae,ai];simp only[A3];rw[aa.size,←e2];omega) (pL U I.1)
    refine⟨_,_,hK,by rw[he];exact af,fun d z hd=>?_⟩;have ar:cur.toList.take (i'*sz+off)++(a.eval y).cells.toList++cur.toList.drop (i'*sz+off+(a.eval y).cells.toList.length)=(d1++c1)++(a.eval y).cells.toList++(c3++d3++cur.toList.drop (l.length*sz)):=by
     rw[ai]
     conv=>lhs;rw[ae]
     exact mR ak
    rw[ar];have J:(∀v∈l.set i' cu,v.cells=sz):=by
     intro v hv;rcases M8 hv with hv|rfl
     · exact ao v hv
     · have h1:=bK (HV.toC_spec ay (e3 _ I.1));have h2:=bK f2;rw[ao _ (bM9 hi)]at h2;simp only[A3]at h1 h2;omega
    have bb:RepL w (Owned ρ c.X) (l.set i' cu) (d1++(c1++(a.eval y).cells.toList++c3)++d3):=f3 _ (HV.toC_spec ay (e3 _ I.1));refine h.setObj (b0:=g) hρ (by simp[Loc.has,Value.ownBlock]) (h.mo id _ ho).1 (fun b' aq=>R7 w g b' _ aq) (X3 _ _ _) rfl rfl rfl (fun aj=>?_) trivial (fun _=> .inl rfl) (by simp[HV.men]) hd;refine⟨_,_,hρ,bb.stay aj,J,?_,.inr ⟨g,cap,_,by rw[M5],I1 _,T1 w g _ _ T (0,0) hh,by simpa using aw,hmax,?_,?_⟩⟩
    · have:=how.1;simp only[A3,M5]at this⊢;omega
    ·
     rw[←ax,ag]
     conv=>rhs;rw[ae]
     simp only[I8,A3];omega
    ·
     have:=how.1;rw[M5];simp only[A3]at this;have e:(d1++c1++(a.eval y).cells.toList++(c3++d3++cur.toList.drop (l.length*sz)))=(d1++(c1++(a.eval y).cells.toList++c3)++d3)++cur.toList.drop (l.length*sz):=by simp
     rw[e];refine X6 ?_;simp only[A3];omega
  grind
 grind
theorem aJ8 {M':Nat→Prop}(h:RepA' c M fr ob a w ρ){nid:Nat}(hn: ¬M nid)(U: ∀i,M i→M' i)(I:M' nid)(t:TypeId){v:HV}{y:Value}(hv:RepV w ρ (Owned ρ c.X) v y)(hm:v.men M)
  (d:Option Nat) (hd: ∀k,d=some k→k<c.n):
  RepA' c M' (updo fr d (.ptr nid 0)) (upd ob nid (some (.box t v))) (a.put d (.pointer (some ⟨w.heap.size,0,none⟩))) (w.alloc (.cells y.cells t)) (upd ρ nid (some (.blk w.heap.size))):=by
 refine h.newObj (w1:=w) hn U I rfl rfl rfl rfl (fun _ hb=>hb) (fun J=>?_) (HV.men_mono U hm) (.inr (qW (aR _ _ _))) (by simpa[HV.men]using I) hd;refine⟨w.heap.size,y.cells.toList,aR _ _ _,?_,RepH.stay J (Moves.upd_new hn) hm hv.1⟩;rw[T7];exact N4 w _
theorem aW2 {M':Nat→Prop}(h:RepA' c M fr ob a w ρ){nid:Nat}(hn: ¬M nid)(U: ∀i,M i→M' i)(J:M' nid){t:TypeId}{ti:TyI}(ht:aP P t=some ti)
  (d:Option Nat) (hd: ∀k,d=some k→k<c.n):
  ∃y w' ρ',(Instr.alloc t true (.tuple #[])).run P w= .ok y w'∧RepA' c M' (updo fr d (.ptr nid 0)) (upd ob nid (some (.box t (.c ti.z)))) (a.put d y) w' ρ':=by
 obtain⟨i,d',zv,I⟩:=bF ht;refine⟨_,_,_,?_,aJ8 h hn U J t (v:= .c ti.z) (y:=zv) ⟨by simp only[RepH];exact I.rep w _,by rw[HV.isAgg,I.agg]⟩ (by simp[HV.men]) d hd⟩;simp[Instr.alloc,zeroValue,typeInfo,I.info,I.zero,newVar,newRow]
theorem bT5 {M':Nat→Prop}(h:RepA' c M fr ob a w ρ){nid:Nat}(hn: ¬M nid)(J: ∀i,M i→M' i)(I:M' nid){t:TypeId}{x:Operand}(hx:ev fr x≠ .junk)
  (d:Option Nat) (U: ∀k,d=some k→k<c.n):
  ∃y w' ρ',(Instr.box t (a.eval x)).run P w= .ok y w'∧RepA' c M' (updo fr d (.ptr nid 0)) (upd ob nid (some (.box t (ev fr x)))) (a.put d y) w' ρ':=
 ⟨_,_,_,by simp[Instr.box,newVar,newRow],aJ8 h hn J I t (h.ev x hx) (h.evm x) d U⟩
end
end Go.Hl
