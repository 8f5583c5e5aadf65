/- HL, part F: stores, new variables, structs and arrays that are built, slices that are built. By an AI agent. -/
import Derived.KernelRfl
import Derived.Test.YtlgckianjabghaaGreatDoorHlB
set_option linter.unusedSimpArgs false
set_option linter.unusedVariables false
set_option linter.defProp false
namespace Go.Hl
open Go
theorem CV.setAt_single {v:CV}(hv:v.isAgg=false)(off sz:Nat)(x:HV):v.setAt off sz x=if off=0∧sz=1 then some x else none:=by
 cases v<;>simp_all[CV.setAt,CV.isAgg]
theorem CV.cells_single {v:CV}(hv:v.isAgg=false):v.cells=1:=by cases v<;>simp_all[CV.cells,CV.isAgg]
variable {v:HV}
theorem HV.cells_single (hv:v.isAgg=false):v.cells=1:=by
 cases v<;>simp_all[HV.cells,HV.isAgg];exact CV.cells_single hv
theorem HV.stoL_c : ∀{l:List CV},HV.stoL (l.map .c)=true
 |[]=>rfl
 |v::vs=>by simp only[D0,HV.stoL,HV.sto,HV.stoL_c,E3]
mutual
theorem CV.setAt_spec {w:World}{ρ:Env}{O:Nat→Prop}{sz:Nat}{x:HV}(hx:x.sto=true): ∀{v:CV} {v':HV} {off:Nat} {cs:List Value},v.setAt off sz x=some v'→RepC w O v cs→
  ∃c1 c2 c3,cs=c1++c2++c3∧c1.length=off∧c2.length=sz∧(∀c2',RepH w ρ O x c2'→RepH w ρ O v' (c1++c2'++c3))∧v'.sto=true∧(∀M,x.men M→v'.men M)
 | .agg l,v',off,cs,hg,h=>by
  simp only[CV.setAt]at hg;simp only[RepC]at h;by_cases hc:off=0∧CV.cellsL l=sz
  · rw[B6 hc]at hg;cases hg;exact⟨[],cs,[],by simp,by grind,by grind[oC],fun c2' h'=>by grind,hx,fun M h=>h⟩
  · rw[A7 hc,C8]at hg;obtain⟨l',hg,rfl⟩:=hg;obtain⟨c1,c2,c3,e1,e2,e3,e4,e5,e6⟩:=CV.setAtL_spec (ρ:=ρ) hx hg h;grind[RepH,HV.sto,HV.men]
 | .bool b,v',off,cs,hg,h=>by
  rw[CV.setAt_single rfl]at hg;split at hg
  · rename_i hc;cases hg;exact⟨[],cs,[],by simp,by grind,by rw[bS h,CV.cells_single rfl,hc.2],fun c2' h'=>by grind,hx,fun M h=>h⟩
  grind
 | .int k n,v',off,cs,hg,h=>by
  rw[CV.setAt_single rfl]at hg;split at hg
  · rename_i hc;cases hg;exact⟨[],cs,[],by simp,by grind,by rw[bS h,CV.cells_single rfl,hc.2],fun c2' h'=>by grind,hx,fun M h=>h⟩
  grind
 | .str s,v',off,cs,hg,h=>by
  rw[CV.setAt_single rfl]at hg;split at hg
  · rename_i hc;cases hg;exact⟨[],cs,[],by simp,by grind,by rw[bS h,CV.cells_single rfl,hc.2],fun c2' h'=>by grind,hx,fun M h=>h⟩
  grind
 | .nils,v',off,cs,hg,h=>by
  rw[CV.setAt_single rfl]at hg;split at hg
  · rename_i hc;cases hg;exact⟨[],cs,[],by simp,by grind,by rw[bS h,CV.cells_single rfl,hc.2],fun c2' h'=>by grind,hx,fun M h=>h⟩
  grind
 | .slc l,v',off,cs,hg,h=>by
  rw[CV.setAt_single rfl]at hg;split at hg
  · rename_i hc;cases hg;exact⟨[],cs,[],by simp,by grind,by rw[bS h,CV.cells_single rfl,hc.2],fun c2' h'=>by grind,hx,fun M h=>h⟩
  grind
 | .rp _,v',off,cs,hg,h=>by
  rw[CV.setAt_single rfl]at hg;split at hg
  · rename_i hc;cases hg;exact⟨[],cs,[],by simp,by grind,by rw[bS h,CV.cells_single rfl,hc.2],fun c2' h'=>by grind,hx,fun M h=>h⟩
  grind
 | .fn _,v',off,cs,hg,h=>by
  rw[CV.setAt_single rfl]at hg;split at hg
  · rename_i hc;cases hg;exact⟨[],cs,[],by simp,by grind,by rw[bS h,CV.cells_single rfl,hc.2],fun c2' h'=>by grind,hx,fun M h=>h⟩
  grind
 | .nilp,v',off,cs,hg,h=>by
  rw[CV.setAt_single rfl]at hg;split at hg
  · rename_i hc;cases hg;exact⟨[],cs,[],by simp,by grind,by rw[bS h,CV.cells_single rfl,hc.2],fun c2' h'=>by grind,hx,fun M h=>h⟩
  grind
 | .nilf,v',off,cs,hg,h=>by
  rw[CV.setAt_single rfl]at hg;split at hg
  · rename_i hc;cases hg;exact⟨[],cs,[],by simp,by grind,by rw[bS h,CV.cells_single rfl,hc.2],fun c2' h'=>by grind,hx,fun M h=>h⟩
  grind
 | .nili,v',off,cs,hg,h=>by
  rw[CV.setAt_single rfl]at hg;split at hg
  · rename_i hc;cases hg;exact⟨[],cs,[],by simp,by grind,by rw[bS h,CV.cells_single rfl,hc.2],fun c2' h'=>by grind,hx,fun M h=>h⟩
  grind
 | .nilm,v',off,cs,hg,h=>by
  rw[CV.setAt_single rfl]at hg;split at hg
  · rename_i hc;cases hg;exact⟨[],cs,[],by simp,by grind,by rw[bS h,CV.cells_single rfl,hc.2],fun c2' h'=>by grind,hx,fun M h=>h⟩
  grind
 | .ifc _ _,v',off,cs,hg,h=>by
  rw[CV.setAt_single rfl]at hg;split at hg
  · rename_i hc;cases hg;exact⟨[],cs,[],by simp,by grind,by rw[bS h,CV.cells_single rfl,hc.2],fun c2' h'=>by grind,hx,fun M h=>h⟩
  grind
theorem CV.setAtL_spec {w:World}{ρ:Env}{O:Nat→Prop}{sz:Nat}{x:HV}(hx:x.sto=true): ∀{l:List CV} {l':List HV} {off:Nat} {cs:List Value},CV.setAtL off sz x l=some l'→RepL w O l cs→
  ∃c1 c2 c3,cs=c1++c2++c3∧c1.length=off∧c2.length=sz∧(∀c2',RepH w ρ O x c2'→RepHL w ρ O l' (c1++c2'++c3))∧HV.stoL l'=true∧(∀M,x.men M→HV.menL M l')
 |[],l',off,cs,hg,h=>by simp[CV.setAtL]at hg
 |v::vs,l',off,cs,hg,h=>by
  simp only[CV.setAtL]at hg;simp only[RepL]at h;obtain⟨y,z,rfl,h1,h2⟩:=h;split at hg
  · rw[C8]at hg;obtain⟨v',hg,rfl⟩:=hg;obtain⟨c1,c2,c3,rfl,e1,e2,e3,e4,e5⟩:=CV.setAt_spec (ρ:=ρ) hx hg h1;refine⟨c1,c2,c3++z,by simp,e1,e2,fun c2' h'=>?_,?_,fun M h=>?_⟩;all_goals grind[RepHL,sF,HV.stoL,HV.stoL_c,Bool.and_self,HV.menL,HV.menL_c]
  ·
   rw[C8]at hg;obtain⟨l2,hg,rfl⟩:=hg;obtain⟨c1,c2,c3,rfl,e1,e2,e3,e4,e5⟩:=CV.setAtL_spec (ρ:=ρ) hx hg h2;refine⟨y++c1,c2,c3,by simp,by grind[List.length_append,bS],e2,fun c2' h'=>?_,?_,fun M h=>?_⟩
   · grind[RepHL,RepH]
   all_goals simp_all[HV.stoL,HV.sto,E3,HV.menL,HV.men,V5]
end
theorem HV.setAt_single (hv:v.isAgg=false)(off sz:Nat)(x:HV):HV.setAt off sz x v=if off=0∧sz=1 then some x else none:=by
 cases v with
 |c v=>simp only[HV.setAt];exact CV.setAt_single hv _ _ _
 |agg l=>simp[HV.isAgg]at hv
 |_=>simp only[HV.setAt]
mutual
theorem HV.setAt_spec {w:World}{ρ:Env}{O:Nat→Prop}{sz:Nat}{x:HV}(hx:x.sto=true): ∀{v v':HV} {off:Nat} {cs:List Value},HV.setAt off sz x v=some v'→v.sto=true→RepH w ρ O v cs→
  ∃c1 c2 c3,cs=c1++c2++c3∧c1.length=off∧c2.length=sz∧(∀c2',RepH w ρ O x c2'→RepH w ρ O v' (c1++c2'++c3))∧v'.sto=true∧(∀M,x.men M→v.men M→v'.men M)
 | .c v,v',off,cs,hg,_,h=>by
  simp only[HV.setAt]at hg;simp only[RepH]at h;obtain⟨c1,c2,c3,e1,e2,e3,e4,e5,e6⟩:=CV.setAt_spec (ρ:=ρ) hx hg h;exact⟨c1,c2,c3,e1,e2,e3,e4,e5,fun M h _=>e6 M h⟩
 | .agg l,v',off,cs,hg,hs,h=>by
  simp only[HV.setAt]at hg;simp only[RepH,HV.sto]at h hs;by_cases hc:off=0∧HV.cellsL l=sz
  · rw[B6 hc]at hg;cases hg;exact⟨[],cs,[],by simp,by simp[hc.1],by rw[mK h];exact hc.2,fun c2' h'=>by simpa using h',hx,fun M h _=>h⟩
  · rw[A7 hc,C8]at hg;obtain⟨l',hg,rfl⟩:=hg;obtain⟨c1,c2,c3,e1,e2,e3,e4,e5,e6⟩:=HV.setAtL_spec hx hg hs h;exact⟨c1,c2,c3,e1,e2,e3,fun c2' h'=>by simp only[RepH];exact e4 c2' h',by simpa only[HV.sto]using e5,fun M h h'=>by simp only[HV.men]at h'⊢;exact e6 M h h'⟩
 | .junk,v',off,cs,hg,hs,h=>by simp[HV.sto]at hs
 | .tup _,v',off,cs,hg,hs,h=>by simp[HV.sto]at hs
 | .own id n,v',off,cs,hg,hs,h=>by
  rw[HV.setAt_single rfl]at hg;split at hg
  · rename_i hc;cases hg;exact⟨[],cs,[],by simp,by simp[hc.1],by rw[bZ h,HV.cells_single rfl,hc.2],fun c2' h'=>by simpa using h',hx,fun M h _=>h⟩
  · cases hg
 | .ptr id n,v',off,cs,hg,hs,h=>by
  rw[HV.setAt_single rfl]at hg;split at hg
  · rename_i hc;cases hg;exact⟨[],cs,[],by simp,by simp[hc.1],by rw[bZ h,HV.cells_single rfl,hc.2],fun c2' h'=>by simpa using h',hx,fun M h _=>h⟩
  · cases hg
 | .eptr ..,v',off,cs,hg,hs,h=>by
  rw[HV.setAt_single rfl]at hg;split at hg
  · rename_i hc;cases hg;exact⟨[],cs,[],by simp,by simp[hc.1],by rw[bZ h,HV.cells_single rfl,hc.2],fun c2' h'=>by simpa using h',hx,fun M h _=>h⟩
  · cases hg
 | .osl ..,v',off,cs,hg,hs,h=>by
  rw[HV.setAt_single rfl]at hg;split at hg
  · rename_i hc;cases hg;exact⟨[],cs,[],by simp,by simp[hc.1],by rw[bZ h,HV.cells_single rfl,hc.2],fun c2' h'=>by simpa using h',hx,fun M h _=>h⟩
  · cases hg
 | .mapr id,v',off,cs,hg,hs,h=>by
  rw[HV.setAt_single rfl]at hg;split at hg
  · rename_i hc;cases hg;exact⟨[],cs,[],by simp,by simp[hc.1],by rw[bZ h,HV.cells_single rfl,hc.2],fun c2' h'=>by simpa using h',hx,fun M h _=>h⟩
  · cases hg
 | .mrow ..,v',off,cs,hg,hs,h=>by
  rw[HV.setAt_single rfl]at hg;split at hg
  · rename_i hc;cases hg;exact⟨[],cs,[],by simp,by simp[hc.1],by rw[bZ h,HV.cells_single rfl,hc.2],fun c2' h'=>by simpa using h',hx,fun M h _=>h⟩
  · cases hg
 | .clo id n,v',off,cs,hg,hs,h=>by
  rw[HV.setAt_single rfl]at hg;split at hg
  · rename_i hc;cases hg;exact⟨[],cs,[],by simp,by simp[hc.1],by rw[bZ h,HV.cells_single rfl,hc.2],fun c2' h'=>by simpa using h',hx,fun M h _=>h⟩
  · cases hg
 | .opq _,v',off,cs,hg,hs,h=>by
  rw[HV.setAt_single rfl]at hg;split at hg
  · rename_i hc;cases hg;exact⟨[],cs,[],by simp,by simp[hc.1],by rw[bZ h,HV.cells_single rfl,hc.2],fun c2' h'=>by simpa using h',hx,fun M h _=>h⟩
  · cases hg
theorem HV.setAtL_spec {w:World}{ρ:Env}{O:Nat→Prop}{sz:Nat}{x:HV}(hx:x.sto=true): ∀{l l':List HV} {off:Nat} {cs:List Value},HV.setAtL off sz x l=some l'→HV.stoL l=true→RepHL w ρ O l cs→
  ∃c1 c2 c3,cs=c1++c2++c3∧c1.length=off∧c2.length=sz∧(∀c2',RepH w ρ O x c2'→RepHL w ρ O l' (c1++c2'++c3))∧HV.stoL l'=true∧(∀M,x.men M→HV.menL M l→HV.menL M l')
 |[],l',off,cs,hg,_,h=>by simp[HV.setAtL]at hg
 |v::vs,l',off,cs,hg,hs,h=>by
  simp only[HV.setAtL]at hg;simp only[RepHL,HV.stoL,A6]at h hs;obtain⟨y,z,rfl,h1,h2⟩:=h;split at hg
  · rw[C8]at hg;obtain⟨v',hg,rfl⟩:=hg;obtain⟨c1,c2,c3,rfl,e1,e2,e3,e4,e5⟩:=HV.setAt_spec hx hg hs.1 h1;refine⟨c1,c2,c3++z,by simp,e1,e2,fun c2' h'=>?_,?_,fun M h h'=>?_⟩;all_goals grind[RepHL,HV.stoL,Bool.and_self,HV.menL]
  · rw[C8]at hg;obtain⟨l2,hg,rfl⟩:=hg;obtain⟨c1,c2,c3,rfl,e1,e2,e3,e4,e5⟩:=HV.setAtL_spec hx hg hs.2 h2;refine⟨y++c1,c2,c3,by simp,by grind[List.length_append,bZ],e2,fun c2' h'=>?_,?_,fun M h h'=>?_⟩;all_goals grind[RepHL,HV.stoL,Bool.and_self,HV.menL]
end
inductive TyD where
 |bool|int (k:IntKind)|string
 |pointer (e:TypeId)|slice (e:TypeId)|array (n:Nat) (e:TypeId)|map (k e:TypeId)
 |struct (fs:List (Nat×TypeId))
 |func|iface (empty:Bool)|other
 deriving DecidableEq
def tyd :TypeDesc→TyD
 | .bool=> .bool
 | .int k=> .int k
 | .string=> .string
 | .pointer e=> .pointer e
 | .slice e=> .slice e
 | .array n e=> .array n e
 | .map k e=> .map k e
 | .struct fs=> .struct (fs.toList.map fun f=>(f.offset,f.type))
 | .func _ _ _=> .func
 | .interface ms=> .iface ms.isEmpty
 |_=> .other
structure TyI where
 size:Nat
 bytes:Nat
 d:TyD
 z:CV
def TyD.isAgg :TyD→Bool
 | .struct _| .array _ _=>true
 |_=>false
def bU4 (P:Program):Nat→TypeId→Option CV
 |0,_=>none
 |n+1,t=>
  match P.underlying t with
  |some .bool=>some (.bool false)
  |some (.int k)=>some (.int k 0)
  |some .string=>some (.str [])
  |some (.pointer _)=>some .nilp
  |some (.slice _)=>some .nils
  |some (.map _ _)=>some .nilm
  |some (.func _ _ _)=>some .nilf
  |some (.interface _)=>some .nili
  |some (.array m e)=>(bU4 P n e).map fun z=> .agg (List.replicate m z)
  |some (.struct fs)=>(fs.toList.mapM fun f=>bU4 P n f.type).map .agg
  |_=>none
mutual
def CV.flat :CV→Option (List Value)
 | .bool b=>some [.bool b]
 | .int k n=>some [.int k n]
 | .str s=>some [.string ⟨s.toArray⟩]
 | .agg l=>CV.flatL l
 | .nils=>some [.slice none 0 0]
 | .nilp=>some [.pointer none]
 | .nilf=>some [.nilFunc]
 | .nili=>some [.nilIface]
 | .nilm=>some [.map none]
 |_=>none
def CV.flatL :List CV→Option (List Value)
 |[]=>some []
 |v::vs=>match v.flat,CV.flatL vs with
  |some a,some b=>some (a++b)
  |_,_=>none
end
mutual
theorem CV.flat_rep {w:World}{O:Nat→Prop}: ∀{v:CV} {cs:List Value},v.flat=some cs→RepC w O v cs
 | .bool b,cs,h=>by simp only[CV.flat,D6]at h;simp only[RepC];exact h.symm
 | .int k n,cs,h=>by simp only[CV.flat,D6]at h;simp only[RepC];exact h.symm
 | .str s,cs,h=>by simp only[CV.flat,D6]at h;simp only[RepC];exact h.symm
 | .agg l,cs,h=>by simp only[CV.flat]at h;simp only[RepC];exact CV.flatL_rep h
 | .nils,cs,h=>by simp only[CV.flat,D6]at h;simp only[RepC];exact h.symm
 | .nilp,cs,h=>by simp only[CV.flat,D6]at h;simp only[RepC];exact h.symm
 | .nilf,cs,h=>by simp only[CV.flat,D6]at h;simp only[RepC];exact h.symm
 | .nili,cs,h=>by simp only[CV.flat,D6]at h;simp only[RepC];exact h.symm
 | .nilm,cs,h=>by simp only[CV.flat,D6]at h;simp only[RepC];exact h.symm
 | .slc _,cs,h=>by simp[CV.flat]at h
 | .rp _,cs,h=>by simp[CV.flat]at h
 | .fn _,cs,h=>by simp[CV.flat]at h
 | .ifc _ _,cs,h=>by simp[CV.flat]at h
theorem CV.flatL_rep {w:World}{O:Nat→Prop}: ∀{l:List CV} {cs:List Value},CV.flatL l=some cs→RepL w O l cs
 |[],cs,h=>by grind[CV.flatL,Option.some.injEq,RepL]
 |v::vs,cs,h=>by
  simp only[CV.flatL]at h;split at h
  · rename_i a b h1 h2;cases h;simp only[RepL];exact⟨a,b,rfl,CV.flat_rep h1,CV.flatL_rep h2⟩
  grind
end
def bU5 :Value→Value→Bool
 | .bool a,.bool b=>a==b
 | .int k a,.int j b=>k==j&&a==b
 | .string a,.string b=>a.data.toList==b.data.toList
 | .pointer none,.pointer none=>true
 | .slice none 0 0,.slice none 0 0=>true
 | .map none,.map none=>true
 | .nilFunc,.nilFunc=>true
 | .nilIface,.nilIface=>true
 |_,_=>false
theorem bU6 {a b:Value}(h:bU5 a b=true):a=b:=by
 unfold bU5 at h;split at h<;>simp_all;rename_i x y;cases x;simp_all
def uG :List Value→List Value→Bool
 |[],[]=>true
 |a::as,b::bs=>bU5 a b&&uG as bs
 |_,_=>false
theorem aC2 : ∀{a b:List Value},uG a b=true→a=b
 |[],[],_=>rfl
 |a::as,b::bs,h=>by simp only[uG,A6]at h;rw[bU6 h.1,aC2 h.2]
 |[],_::_,h=>by simp[uG]at h
 |_::_,[],h=>by simp[uG]at h
def aI7 (P:Program):List (Nat×TypeId)→List CV→Nat→Bool
 |[],[],_=>true
 |(o,t)::fs,z::zs,k=>o==k&&(P.info? t).isSome&&P.cellsOf t==z.cells&&aI7 P fs zs (k+z.cells)
 |_,_,_=>false
def lay (P:Program):TyD→CV→Bool
 | .struct fs,.agg zs=>aI7 P fs zs 0
 | .array n e,.agg zs=>zs.length==n&&zs.all (fun z=>z.cells==P.cellsOf e)
 | .struct _,_=>false
 | .array _ _,_=>false
 |_,_=>true
def aT (P:Program)(t:TypeId):Option TyI:=
 match P.info? t,P.underlying t,bU4 P 8 t with
 |some i,some d,some z=>
  match i.zero,z.flat with
  |some zv,some cs=>
   if uG cs zv.cells.toList&&(tyd d).isAgg==z.isAgg&&Value.isAgg' zv==z.isAgg&&cs.length==i.size&&decide (0<i.size)&&lay P (tyd d) z then some ⟨i.size,i.bytes,tyd d,z⟩else none
  |_,_=>none
 |_,_,_=>none
structure TyOk (P:Program)(t:TypeId)(ti:TyI)(i:TypeInfo)(d:TypeDesc)(zv:Value):Prop where
 info:P.info? t=some i
 under:P.underlying t=some d
 size:i.size=ti.size
 bytes:i.bytes=ti.bytes
 d_:tyd d=ti.d
 zero:i.zero=some zv
 rep: ∀w O,RepC w O ti.z zv.cells.toList
 agg:Value.isAgg' zv=ti.z.isAgg
 dagg:ti.d.isAgg=ti.z.isAgg
 pos:0<ti.size
 zsize:zv.cells.size=ti.size
 lay_:lay P ti.d ti.z=true
theorem bM {P:Program}{t:TypeId}{ti:TyI}(h:aT P t=some ti): ∃i d zv,TyOk P t ti i d zv:=by
 unfold aT at h;split at h
 ·
  rename_i i d z h1 h2 h3;split at h
  ·
   rename_i zv cs h4 h5;split at h
   · rename_i hc;simp only[A6,G9,B9]at hc;obtain⟨⟨⟨⟨⟨c1,c2⟩,c3⟩,c4⟩,c5⟩,c6⟩:=hc;cases h;have hcs:=aC2 c1;exact⟨i,d,zv,h1,h2,rfl,rfl,rfl,h4,fun w O=>by grind[CV.flat_rep],c3,c2,c5,by grind,c6⟩
   grind
  grind
 grind
def cvC1 :Value→Option CV
 | .bool b=>some (.bool b)
 | .int k n=>some (.int k n)
 | .string s=>some (.str s.data.toList)
 | .pointer none=>some .nilp
 | .slice none 0 0=>some .nils
 | .map none=>some .nilm
 | .nilFunc=>some .nilf
 | .nilIface=>some .nili
 |_=>none
def cvC :Value→Option CV
 | .agg cs=>(cs.toList.mapM cvC1).map .agg
 |v=>cvC1 v
def ev (fr:Fr):Operand→HV
 | .tmp t=>fr t
 | .const v=>match cvC v with|some c=> .c c|none=> .junk
 | .global _=> .junk
 | .func f=> .c (.fn f)
variable {O:Nat→Prop}{w:World}
theorem aP0 {v:Value}{c:CV}(h:cvC1 v=some c):RepC w O c [v]∧c.isAgg=false∧Value.isAgg' v=false:=by
 unfold cvC1 at h;split at h<;>first|(cases h;done)|(simp only[D6]at h;subst h;simp[RepC,CV.isAgg,Value.isAgg'])
theorem aC3 {w:World}{O:Nat→Prop}: ∀{l:List Value} {cs:List CV},l.mapM cvC1=some cs→RepL w O cs l
 |[],cs,h=>by grind[RepL]
 |v::vs,cs,h=>by
  simp only[M9,Option.bind_eq_bind,Z0,Option.pure_def,D6]at h;obtain⟨c,h1,cs',h2,rfl⟩:=h;simp only[RepL];exact⟨[v],vs,rfl,(aP0 h1).1,aC3 h2⟩
theorem cI0 {v:Value}{c:CV}(h:cvC v=some c):RepC w O c v.cells.toList∧c.isAgg=Value.isAgg' v:=by
 unfold cvC at h;split at h
 · rename_i cs;rw[C8]at h;obtain⟨l,h1,rfl⟩:=h;exact⟨by grind[RepC,Value.cells,aC3],rfl⟩
 · obtain⟨h1,h2,h3⟩:=aP0 (w:=w) (O:=O) h;grind[cells_single]
variable {ρ:Env}{a:Act}{ob:Ob}{fr:Fr}{M:Nat→Prop}{c:Ctx}
theorem RepA'.ev (h:RepA' c M fr ob a w ρ)(x:Operand)(hj:ev fr x≠ .junk):
  RepV w ρ (Owned ρ c.X) (ev fr x) (a.eval x):=by
 cases x with
 |tmp t=>exact h.f t hj
 |const v=>
  simp only[Hl.ev]at hj⊢;cases hc:cvC v with
  |none=>grind
  |some cv=>
   obtain⟨h1,h2⟩:=cI0 (w:=w) (O:=Owned ρ c.X) hc;exact⟨by simp only[RepH];exact h1,h2⟩
 |global g=>exact absurd rfl hj
 |func f=>exact⟨by simp[Hl.ev,RepH,RepC,Act.eval,Value.cells],rfl⟩
theorem RepA'.evm (h:RepA' c M fr ob a w ρ)(x:Operand):(Hl.ev fr x).men M:=by
 cases x with
 |tmp t=>exact h.mf t
 |const v=>grind[Hl.ev,cvC,HV.men]
 |global g=>simp[Hl.ev,HV.men]
 |func f=>simp[Hl.ev,HV.men]
variable {x:Value}
theorem RepV.single {v:CV}(h:RepV w ρ O (.c v) x)(hv:v.isAgg=false):RepC w O v [x]:=by
 obtain⟨h1,h2⟩:=h;grind[RepH,HV.isAgg,cells_single]
theorem dD {v:CV}(h:RepC w O v [x])(hv:v.isAgg=false)(hx:Value.isAgg' x=false):RepV w ρ O (.c v) x:=
 ⟨by grind[RepH,cells_single],by rw[HV.isAgg,hv,hx]⟩
theorem dQ (h:RepV w ρ O v x)(hv:v.isAgg=false):RepH w ρ O v [x]∧Value.isAgg' x=false:=by
 obtain⟨h1,h2⟩:=h;grind[cells_single]
theorem dR (h:RepH w ρ O v [x])(hv:v.isAgg=false)(hx:Value.isAgg' x=false):RepV w ρ O v x:=
 ⟨by grind[cells_single],by rw[hv,hx]⟩
theorem gY (h:x.oneCell'=true):Value.isAgg' x=false:=by cases x<;>simp_all[Value.oneCell',Value.isAgg']
theorem RepV.bool {b:Bool}(h:RepV w ρ O (.c (.bool b)) x):x= .bool b:=by
 have:=h.single rfl;simpa[RepC]using this
theorem RepV.int {k:IntKind}{n:Int}(h:RepV w ρ O (.c (.int k n)) x):x= .int k n:=by
 have:=h.single rfl;simpa[RepC]using this
theorem RepV.str {s:List UInt8}(h:RepV w ρ O (.c (.str s)) x):x= .string ⟨s.toArray⟩:=by
 have:=h.single rfl;simpa[RepC]using this
theorem iT (w:World)(ρ:Env)(O:Nat→Prop)(b:Bool):RepV w ρ O (.c (.bool b)) (.bool b):=dD (by simp[RepC]) rfl rfl
theorem eV (w:World)(ρ:Env)(O:Nat→Prop)(k:IntKind)(n:Int):RepV w ρ O (.c (.int k n)) (.int k n):=dD (by simp[RepC]) rfl rfl
theorem sG (w:World)(ρ:Env)(O:Nat→Prop)(s:List UInt8):RepV w ρ O (.c (.str s)) (.string ⟨s.toArray⟩):=dD (by simp[RepC]) rfl rfl
def hlift {α:Type}(o:Option α)(f:α→Prop):Prop:=match o with|some a=>f a|none=>False
@[simp] theorem hlift_some {α:Type}(a:α)(f:α→Prop):hlift (some a) f=f a:=rfl
@[simp] theorem hlift_none {α:Type}(f:α→Prop):hlift none f=False:=rfl
variable {α:Type}
@[congr] theorem cP1 {o o':Option α}(h:o=o')(f:α→Prop):hlift o f=hlift o' f:=by rw[h]
theorem aD {o:Option α}{f:α→Prop}:hlift o f↔ ∃a,o=some a∧f a:=by cases o<;>simp[hlift]
def nth (l:List CV)(i:Nat):CV:=l.getD i .nilp
def hpick (c a b:HV)(K:HV→Prop):Prop:=match c with| .c (.bool t)=>K (if t then a else b)|_=>False
def hload (ti:TyI)(a:HV)(ob:Ob)(K:HV→Prop):Prop:=
 match a with
 | .c (.rp v)=>hlift (v.getAt 0 ti.size ti.d.isAgg) fun u=>K (.c u)
 | .ptr id off=>match ob id with
  |some (.box _ v)=>v.sto=true∧hlift (v.getAt off ti.size ti.d.isAgg) K
  |_=>False
 | .eptr id n i sz off=>match ob id with
  |some (.row _ sz' l)=>(n=l.length∧sz=sz'∧i<l.length)∧hlift ((nth l i).getAt off ti.size ti.d.isAgg) fun u=>K (.c u)
  |_=>False
 |_=>False
def hfield (P:Program)(t:TypeId)(f:Nat)(K:Nat→TyI→Prop):Prop:=
 hlift (aT P t) fun ti=>match ti.d with
  | .struct fs=>hlift fs[f]? fun p=>hlift (aT P p.2) fun tf=>K p.1 tf
  |_=>False
def HO.isBox :Option HO→Bool
 |some (.box _ _)=>true
 |_=>false
def HO.isRow (n:Nat):Option HO→Prop
 |some (.row _ _ l)=>n=l.length∧l≠[]
 |_=>False
def hfieldAddr (P:Program)(t:TypeId)(a:HV)(f:Nat)(ob:Ob)(K:HV→Prop):Prop:=
 hfield P t f fun off tf=>match a with
  | .c (.rp v)=>hlift (v.getAt off tf.size tf.d.isAgg) fun u=>K (.c (.rp u))
  | .ptr id o=>HO.isBox (ob id)=true∧K (.ptr id (o+off))
  | .eptr id n i sz o=>HO.isRow n (ob id)∧K (.eptr id n i sz (o+off))
  |_=>False
def hindexAddr (P:Program)(t:TypeId)(x i:HV)(ob:Ob)(K:HV→Prop):Prop:=
 hlift (aT P t) fun ti=>match ti.d,i with
  | .slice e,.c (.int _ i)=>hlift (aT P e) fun te=>match x with
   | .c (.slc l)=>(0≤i∧i<(l.length:Int))∧(nth l i.toNat).cells=te.size∧K (.c (.rp (nth l i.toNat)))
   | .own id n=>match ob id with
    |some (.row _ sz l)=>(n=l.length∧sz=te.size)∧(0≤i∧i<(n:Int))∧K (.eptr id n i.toNat sz 0)
    |_=>False
   | .osl id n lo sz hi=>match ob id with
    |some (.row _ sz' l)=>(n=l.length∧0<n∧sz=te.size∧sz'=sz∧hi≤n)∧(0≤i∧i<((hi-lo:Nat):Int))∧K (.eptr id n (lo+i.toNat) sz 0)
    |some (.box _ _)=>(sz=te.size∧hi≤n)∧(0≤i∧i<((hi-lo:Nat):Int))∧K (.ptr id ((lo+i.toNat)*sz))
    |_=>False
   |_=>False
  | .array m e,.c (.int _ i)=>hlift (aT P e) fun te=>(0≤i∧i<(m:Int))∧match x with
   | .ptr id o=>HO.isBox (ob id)=true∧K (.ptr id (o+i.toNat*te.size))
   | .eptr id n j sz o=>HO.isRow n (ob id)∧K (.eptr id n j sz (o+i.toNat*te.size))
   | .c (.rp v)=>hlift (v.getAt (i.toNat*te.size) te.size te.d.isAgg) fun u=>K (.c (.rp u))
   |_=>False
  |_,_=>False
section
variable {P:Program}{w:World}
theorem cD {t:TypeId}{i:TypeInfo}(h:P.info? t=some i):(sizeOf t).run P w= .ok i.size w:=by simp[sizeOf,typeInfo,h]
theorem xL {t:TypeId}{d:TypeDesc}(h:P.underlying t=some d):(Go.isAgg t).run P w= .ok (tyd d).isAgg w:=by
 unfold Go.isAgg;rw[F8,D3 h];cases d<;>simp[tyd,TyD.isAgg]
theorem kG {t:TypeId}{ti:TyI}{i:TypeInfo}{d:TypeDesc}{zv:Value}(ht:TyOk P t ti i d zv)(ad:Addr)(cs:List Value)(hl:cs.length=ti.size)
  (h: ∀j u,cs[j]? =some u→w.cell? (ad.add j)=some u):(loadVar t ad).run P w= .ok (eP ti.d.isAgg cs) w:=by
 have ha:(Go.isAgg t).run P w= .ok ti.d.isAgg w:=by rw[xL ht.under,ht.d_]
 have hp:=ht.pos;simp only[loadVar,F8,ha,E4];cases hag:ti.d.isAgg with
 |true=>
  have:=run_loadCells_list (P:=P) w ad cs h;rw[hl,←ht.size]at this;simp[cD ht.info,this,eP]
 |false=>
  have hz:ti.z.isAgg=false:=by rw[←ht.dagg,hag]
  have h1:ti.size=1:=by
   have:=ht.zsize;have hzv:Value.isAgg' zv=false:=by rw[ht.agg,hz]
   rw[cells_single hzv]at this;simpa using this.symm
  match cs,hl with
  |[u],_=>
   have:=h 0 u (by simp);simp_all[Addr.add,eP]
  |[],hl=>grind
  |_::_::_,hl=>grind
theorem gE {ρ:Env}{O:Nat→Prop}{v:HV}{cs:List Value}{ag:Bool}(h:RepH w ρ O v cs)(hv:v.isAgg=ag)(hs:v.sto=true):RepV w ρ O v (eP ag cs):=by
 cases ag with
 |true=>exact⟨by rw[wR];exact h,by rw[hv,wS]⟩
 |false=>
  have hl:=bZ h;rw[HV.cells_single hv]at hl
  match cs,hl with
  |[x],_=>
   grind[gY,oD,dR,eP]
end
theorem add_add (ad:Addr)(i j:Nat):(ad.add i).add j=ad.add (i+j):=by grind[Addr.add,Nat.add_assoc]
theorem bM3 (ad:Addr)(i:Nat):(ad.add i).block=ad.block:=by grind[Addr.add]
theorem Reads.part {ad:Addr}{c1 c2 c3:List Value}(h:Reads w O ad (c1++c2++c3)):Reads w O (ad.add c1.length) c2:=by
 refine⟨fun j u hj=>?_,fun hne=>by rw[bM3];exact h.2 (by simp[hne])⟩;rw[add_add];have hlt:j<c2.length:=(I2.1 hj).1;refine h.1 (c1.length+j) u ?_;grind
theorem xM {w:World}{O:Nat→Prop}{sz:Nat}: ∀{l:List CV} {cs:List Value} {i:Nat},RepL w O l cs→(∀v∈l,v.cells=sz)→i<l.length→
  ∃c1 c2 c3,cs=c1++c2++c3∧c1.length=i*sz∧RepC w O (nth l i) c2
 |[],cs,i,_,_,hi=>by grind
 |v::vs,cs,0,h,_,_=>by
  simp only[RepL]at h;obtain⟨c1,c2,rfl,h1,h2⟩:=h;exact⟨[],c1,c2,by simp,by simp,by simpa[nth]using h1⟩
 |v::vs,cs,i+1,h,hc,hi=>by
  simp only[RepL]at h;obtain⟨c1,c2,rfl,h1,h2⟩:=h;obtain⟨d1,d2,d3,rfl,e1,e2⟩:=xM (i:=i) h2 (fun v hv=>hc v (by grind)) (by grind);refine⟨c1++d1,d2,d3,by simp,?_,by simpa[nth]using e2⟩;rw[A3,bS h1,hc v (by simp),e1,K0];omega
theorem bF7 {l:List CV}{i:Nat}(h:i<l.length):nth l i∈l:=by simp[nth,h]
section
variable {P:Program}{c:Ctx}{M:Nat→Prop}{fr:Fr}{ob:Ob}{a:Act}{w:World}{ρ:Env}
theorem RepA'.box (h:RepA' c M fr ob a w ρ){id:Nat}{t:TypeId}{v:HV}(ho:ob id=some (.box t v)):
  ∃b cs,ρ id=some (.blk b)∧w.heap[b]? =some (.cells cs.toArray t (0,0))∧RepH w ρ (Owned ρ c.X) v cs:=h.s.objs id _ ho
theorem RepA'.rowO (h:RepA' c M fr ob a w ρ){id sz:Nat}{t:TypeId}{l:List CV}(ho:ob id=some (.row t sz l)):
  ∃hd xs,ρ id=some (.hdr hd)∧RepL w (Owned ρ c.X) l xs∧(∀v∈l,v.cells=sz)∧w.ownsRow 0 t sz hd l.length xs:=h.s.objs id _ ho
theorem eU (b o j:Nat):(⟨b,o,none⟩:Addr).add j=⟨b,o+j,none⟩:=by grind[Addr.add]
theorem xN (h:RepA' c M fr ob a w ρ){t:TypeId}{ti:TyI}(ht:aT P t=some ti){x:Operand}{K:HV→Prop}(hl:hload ti (ev fr x) ob K):
  ∃u y,K u∧(Instr.loadAt t (a.eval x)).run P w= .ok y w∧RepV w ρ (Owned ρ c.X) u y∧u.men M:=by
 obtain⟨i,d,zv,hty⟩:=bM ht;unfold hload at hl;split at hl
 ·
  rename_i v hx;rw[aD]at hl;obtain⟨u,hg,hK⟩:=hl;have hr:=h.ev x (by grind);rw[hx]at hr;have:=hr.single rfl;simp only[RepC]at this;obtain⟨ad,xs,he,hv,hrd⟩:=this;have he':a.eval x= .pointer (some ad):=by simpa using he
  obtain⟨c1,c2,c3,rfl,e1,e2,e3,e4⟩:=CV.getAt_spec hg hv;have hrd':=hrd.part;have h0:c1=[]:=D5 e1;subst h0;simp only[E5]at hrd';have hadd:ad.add 0=ad:=by simp[Addr.add]
  rw[hadd]at hrd';refine⟨.c u,eP ti.d.isAgg c2,hK,?_,gE (by grind[RepH]) e4 rfl,by simp[HV.men]⟩;rw[he'];simp only[Instr.loadAt,Instr.sureAddr,F8,I5,E4];exact kG hty ad c2 e2 hrd'.1
 ·
  rename_i id off hx;split at hl
  ·
   rename_i tb v ho;obtain⟨hs,hl⟩:=hl;rw[aD]at hl;obtain⟨u,hg,hK⟩:=hl;obtain⟨b,cs,hρ,hb,hv⟩:=h.box ho;have hr:=dQ (h.ev x (by grind)) (by rw[hx];rfl);rw[hx]at hr;simp only[RepH]at hr;obtain⟨⟨y,hy,_,hp⟩,_⟩:=hr;have he:a.eval x= .pointer (some ⟨b,off,none⟩):=by
    have:a.eval x=y:=by simpa using hy
    rw[this];exact hp b hρ
   obtain⟨c1,c2,c3,rfl,e1,e2,e3,e4,e5,e6⟩:=HV.getAt_spec hg hs hv;refine⟨u,eP ti.d.isAgg c2,hK,?_,gE e3 e4 e5,?_⟩
   · rw[he];simp only[Instr.loadAt,Instr.sureAddr,F8,I5,E4];refine kG hty _ c2 e2 (fun j u hj=>?_);have hlt:j<c2.length:=(I2.1 hj).1;rw[eU,AF w b _ _ _ _ hb];simp only[O1,E8];rw[M4 (by omega),M8 (by omega)];rw[←hj];congr 1;omega
   · exact e6 M (h.mo id _ ho).2
  grind
 ·
  rename_i id n i' sz off hx;split at hl
  ·
   rename_i tb sz' l ho;obtain⟨⟨hn,hsz,hi⟩,hl⟩:=hl;subst hn hsz;rw[aD]at hl;obtain⟨u,hg,hK⟩:=hl;obtain⟨hd,xs,hρ,hl2,hcs,how⟩:=h.rowO ho;have hr:=dQ (h.ev x (by grind)) (by rw[hx];rfl);rw[hx]at hr;simp only[RepH]at hr;obtain⟨⟨y,hy,_,hp⟩,_⟩:=hr;obtain⟨hp1,hp2⟩:=hp hd hρ;rcases how.2 with⟨rfl,hz⟩|⟨g,cap,cur,rfl,hg2,hh,hcap,_,hcsz,htake⟩
   · omega
   ·
    have he:a.eval x= .pointer (some ⟨g,i'*sz+off,none⟩):=by
     have:a.eval x=y:=by simpa using hy
     rw[this];exact hp2 rfl g cap rfl
    obtain⟨d1,d2,d3,rfl,f1,f2⟩:=xM hl2 hcs hi;obtain⟨c1,c2,c3,rfl,e1,e2,e3,e4⟩:=CV.getAt_spec hg f2;refine⟨.c u,eP ti.d.isAgg c2,hK,?_,gE (by simpa only[RepH]using e3) e4 rfl,by simp[HV.men]⟩;rw[he];simp only[Instr.loadAt,Instr.sureAddr,F8,I5,E4];refine kG hty _ c2 e2 (fun j u hj=>?_);have hlt:j<c2.length:=(I2.1 hj).1;rw[eU,AF w g _ _ _ _ hh];have htot:i'*sz+off+j<l.length*sz:=by
     have:=congrArg List.length htake;simp only[A3,D9,N6]at this;omega
    have h3:cur[i'*sz+off+j]? =(cur.toList.take (l.length*sz))[i'*sz+off+j]? :=by
     rw[O2,B6 htot,U9]
    rw[h3,htake];simp only[E8];rw[M4 (by omega),M4 (by omega),M8 (by omega)];rw[←hj];congr 1;omega
  grind
 grind
end
section
variable {P:Program}{c:Ctx}{M:Nat→Prop}{fr:Fr}{ob:Ob}{a:Act}{w:World}{ρ:Env}
theorem cQ7 (h:RepA' c M fr ob a w ρ){x:Operand}{id off:Nat}(hx:ev fr x= .ptr id off):
  ∃y,a.eval x=y∧y.oneCell'=true∧ ∀b,ρ id=some (.blk b)→y= .pointer (some ⟨b,off,none⟩):=by
 have hr:=dQ (h.ev x (by grind)) (by rw[hx];rfl);grind[RepH]
theorem bF8 (h:RepA' c M fr ob a w ρ){x:Operand}{id n i sz off:Nat}(hx:ev fr x= .eptr id n i sz off):
  ∃y,a.eval x=y∧y.oneCell'=true∧ ∀hd,ρ id=some (.hdr hd)→n≤hlen hd∧(hlen hd=n→ ∀g cap,hd= .slice (some ⟨g,0,none⟩) n cap→y= .pointer (some ⟨g,i*sz+off,none⟩)):=by
 have hr:=dQ (h.ev x (by grind)) (by rw[hx];rfl);grind[RepH]
theorem bU7 (h:RepA' c M fr ob a w ρ){x:Operand}{id n:Nat}(hx:ev fr x= .own id n):
  ∃y,a.eval x=y∧y.oneCell'=true∧ ∀hd,ρ id=some (.hdr hd)→n≤hlen hd∧(hlen hd=n→y=hd):=by
 have hr:=dQ (h.ev x (by grind)) (by rw[hx];rfl);grind[RepH]
theorem bF9 (h:RepA' c M fr ob a w ρ){x:Operand}{v:CV}(hx:ev fr x= .c (.rp v)):
  ∃ad xs,a.eval x= .pointer (some ad)∧RepC w (Owned ρ c.X) v xs∧Reads w (Owned ρ c.X) ad xs:=by
 have hr:=h.ev x (by grind);rw[hx]at hr;have:=hr.single rfl;grind[RepC]
theorem aI8 (h:RepA' c M fr ob a w ρ){x:Operand}{l:List CV}(hx:ev fr x= .c (.slc l)):
  ∃ad cap xs sz,a.eval x= .slice ad l.length cap∧RepL w (Owned ρ c.X) l xs∧(∀v∈l,v.cells=sz)∧l.length≤cap∧(ad=none→cap=0)∧ ∀b,ad=some b→Reads w (Owned ρ c.X) b xs:=by
 have hr:=h.ev x (by grind);rw[hx]at hr;have:=hr.single rfl;simp_all[RepC]
theorem eI (h:RepA' c M fr ob a w ρ){x:Operand}{k:IntKind}{n:Int}(hx:ev fr x= .c (.int k n)):a.eval x= .int k n:=by
 have hr:=h.ev x (by grind);rw[hx]at hr;exact hr.int
theorem pO (h:RepA' c M fr ob a w ρ){x:Operand}{b:Bool}(hx:ev fr x= .c (.bool b)):a.eval x= .bool b:=by
 have hr:=h.ev x (by grind);rw[hx]at hr;exact hr.bool
theorem nF (h:RepA' c M fr ob a w ρ){x:Operand}{s:List UInt8}(hx:ev fr x= .c (.str s)):a.eval x= .string ⟨s.toArray⟩:=by
 have hr:=h.ev x (by grind);rw[hx]at hr;exact hr.str
theorem xB (h:RepA' c M fr ob a w ρ){x:Operand}(hx:ev fr x= .c .nils):a.eval x= .slice none 0 0:=by
 have hr:=h.ev x (by grind);rw[hx]at hr;have:=hr.single rfl;simpa[RepC]using this
theorem aI9 {O:Nat→Prop}{v:CV}{ad:Addr}{xs:List Value}(h1:RepC w O v xs)(h2:Reads w O ad xs):RepV w ρ O (.c (.rp v)) (.pointer (some ad)):=
 dD (by simp only[RepC];grind) rfl rfl
theorem bU8 {O:Nat→Prop}{id off:Nat}{y:Value}(h1:y.oneCell'=true)(h2: ∀b,ρ id=some (.blk b)→y= .pointer (some ⟨b,off,none⟩)):RepV w ρ O (.ptr id off) y:=
 dR (by simp only[RepH];exact⟨y,rfl,h1,h2⟩) rfl (gY h1)
theorem oE {i:TypeInfo}{f:Field}(hi:P.info? f.type=some i)(hp:0<i.size)(ad:Addr):(fieldPlace ad f).run P w= .ok (ad.add f.offset) w:=by simp[fieldPlace,cD hi,Nat.ne_of_gt hp]
theorem uH {t:TypeId}{f:Nat}{K:Nat→TyI→Prop}(h:hfield P t f K):
  ∃(fs:Array Field) (fd:Field) (tf:TyI) (i:TypeInfo) (d:TypeDesc) (zv:Value),P.underlying t=some (.struct fs)∧fs[f]? =some fd∧TyOk P fd.type tf i d zv∧K fd.offset tf:=by
 unfold hfield at h;rw[aD]at h;obtain⟨ti,ht,h⟩:=h;obtain⟨i,d,zv,hty⟩:=bM ht;split at h
 · rename_i fs hfs;rw[aD]at h;obtain⟨p,hp,h⟩:=h;rw[aD]at h;obtain⟨tf,htf,h⟩:=h;have hd:=hty.d_;rw[hfs]at hd;cases d<;>simp[tyd]at hd;rename_i gs;rw[←hd]at hp;simp only[N3,C8]at hp;obtain⟨fd,hfd,rfl⟩:=hp;obtain⟨i',d',zv',h'⟩:=bM htf;exact⟨gs,fd,tf,i',d',zv',hty.under,by grind,h',h⟩
 grind
theorem kW (h:RepA' c M fr ob a w ρ){x:Operand}{id off:Nat}(hx:ev fr x= .ptr id off)(hb:HO.isBox (ob id)=true):
  ∃b,ρ id=some (.blk b)∧a.eval x= .pointer (some ⟨b,off,none⟩):=by
 obtain⟨y,he,h1,hp⟩:=cQ7 h hx;unfold HO.isBox at hb;split at hb
 · rename_i t v ho;obtain⟨b,cs,hρ,_⟩:=h.box ho;grind
 grind
theorem pP (h:RepA' c M fr ob a w ρ){x:Operand}{id n i sz off:Nat}(hx:ev fr x= .eptr id n i sz off)(hb:HO.isRow n (ob id)):
  ∃g cap,ρ id=some (.hdr (.slice (some ⟨g,0,none⟩) n cap))∧a.eval x= .pointer (some ⟨g,i*sz+off,none⟩):=by
 obtain⟨y,he,h1,hp⟩:=bF8 h hx;unfold HO.isRow at hb;split at hb
 ·
  rename_i t sz' l ho;obtain⟨rfl,hne⟩:=hb;obtain⟨hd,xs,hρ,hl2,hcs,how⟩:=h.rowO ho;obtain⟨hp1,hp2⟩:=hp hd hρ;rcases how.2 with⟨rfl,hz⟩|⟨g,cap,cur,rfl,_⟩
  · exact absurd (D5 hz) hne
  · exact⟨g,cap,hρ,by rw[he];exact hp2 rfl g cap rfl⟩
 grind
theorem mM (h:RepA' c M fr ob a w ρ){x:Operand}{id n sz:Nat}{t:TypeId}{l:List CV}(hx:ev fr x= .own id n)(ho:ob id=some (.row t sz l))(hn:n=l.length):
  ∃hd xs,ρ id=some (.hdr hd)∧a.eval x=hd∧hlen hd=n∧RepL w (Owned ρ c.X) l xs∧(∀v∈l,v.cells=sz)∧w.ownsRow 0 t sz hd n xs:=by
 subst hn;obtain⟨y,he,h1,hp⟩:=bU7 h hx;obtain⟨hd,xs,hρ,hl2,hcs,how⟩:=h.rowO ho;obtain⟨hp1,hp2⟩:=hp hd hρ;have hlen:hlen hd=l.length:=by
  rcases how.2 with⟨rfl,hz⟩|⟨g,cap,cur,rfl,_⟩
  · simp[hlen,hz]
  · simp[hlen]
 grind
theorem pQ {O:Nat→Prop}{id off b:Nat}(h:ρ id=some (.blk b)):RepV w ρ O (.ptr id off) (.pointer (some ⟨b,off,none⟩)):=
 bU8 (by simp[Value.oneCell']) (fun b' hb'=>by grind)
theorem iJ {O:Nat→Prop}{id n i sz off g cap:Nat}(h:ρ id=some (.hdr (.slice (some ⟨g,0,none⟩) n cap))):RepV w ρ O (.eptr id n i sz off) (.pointer (some ⟨g,i*sz+off,none⟩)):=by
 refine dR ?_ rfl rfl;simp only[RepH];refine⟨_,rfl,by simp[Value.oneCell'],fun hd hρ=>?_⟩;rw[h]at hρ;cases hρ;refine⟨by simp[hlen],fun _ g' cap' e=>?_⟩;cases e;rfl
theorem wT (h:RepA' c M fr ob a w ρ){t:TypeId}{x:Operand}{f:Nat}{K:HV→Prop}(hl:hfieldAddr P t (ev fr x) f ob K):
  ∃u y,K u∧(Instr.fieldAt t (a.eval x) f).run P w= .ok y w∧RepV w ρ (Owned ρ c.X) u y∧u.men M:=by
 obtain⟨fs,fd,tf,i,d,zv,hu,hf,hty,hK⟩:=uH hl;have hp:0<i.size:=by rw[hty.size];exact hty.pos
 have run: ∀ad,(Instr.fieldAt t (.pointer (some ad)) f).run P w= .ok (.pointer (some (ad.add fd.offset))) w:=fun ad=>by simp[Instr.fieldAt,D3 hu,hf,Instr.sureAddr,oE hty.info hp]
 have hm:=h.evm x;split at hK
 · rename_i v hx;rw[aD]at hK;obtain⟨u,hg,hK⟩:=hK;obtain⟨ad,xs,he,hv,hrd⟩:=bF9 h hx;obtain⟨c1,c2,c3,rfl,e1,e2,e3,e4⟩:=CV.getAt_spec hg hv;exact⟨.c (.rp u),_,hK,by rw[he];exact run ad,by rw[←e1];exact aI9 e3 hrd.part,by simp[HV.men]⟩
 · grind[id,kW,HV.men,eU,pQ]
 all_goals grind[id,pP,HV.men,eU,Nat.add_assoc,iJ]
theorem sI (h:RepA' c M fr ob a w ρ){x:Operand}{id n lo hi sz sz':Nat}{t:TypeId}{l:List CV}(hx:ev fr x= .osl id n lo sz hi)(ho:ob id=some (.row t sz' l))(hn:n=l.length)(hn0:0<n):
  ∃g cap xs,ρ id=some (.hdr (.slice (some ⟨g,0,none⟩) n cap))∧a.eval x= .slice (some ⟨g,if cap=lo then 0 else lo*sz,none⟩) (hi-lo) (cap-lo)∧n≤cap∧RepL w (Owned ρ c.X) l xs∧(∀v∈l,v.cells=sz')∧w.ownsRow 0 t sz' (.slice (some ⟨g,0,none⟩) n cap) n xs:=by
 obtain⟨hd,xs,hρ,hl2,hcs,how⟩:=h.rowO ho;subst hn;rcases how.2 with⟨rfl,hz⟩|⟨g,cap,cur,rfl,hg0,hg,hcap,_⟩
 · omega
 have hr:=dQ (h.ev x (by rw[hx];simp)) (by rw[hx];rfl);rw[hx]at hr;simp only[RepH]at hr;obtain⟨⟨y,hy,hy1,hy2,_⟩,_⟩:=hr;simp only[G4,L8]at hy;obtain⟨_,hy3⟩:=hy2 _ hρ;exact⟨g,cap,xs,hρ,by rw[hy];exact hy3 (by simp[hlen]) g cap rfl,hcap,hl2,hcs,how⟩
theorem wU (h:RepA' c M fr ob a w ρ){t:TypeId}{x ix:Operand}{K:HV→Prop}(hl:hindexAddr P t (ev fr x) (ev fr ix) ob K):
  ∃u y,K u∧(Instr.indexAt t (a.eval x) (a.eval ix)).run P w= .ok y w∧RepV w ρ (Owned ρ c.X) u y∧u.men M:=by
 unfold hindexAddr at hl;rw[aD]at hl;obtain⟨ti,ht,hl⟩:=hl;obtain⟨i0,d0,zv0,hty⟩:=bM ht;have hm:=h.evm x;split at hl
 ·
  rename_i e k i hd hix;have hdd:=hty.d_;rw[hd]at hdd;have hu:P.underlying t=some (.slice e):=by
   rw[hty.under];congr 1;cases d0<;>simp[tyd]at hdd;grind
  have hi:=eI h hix;rw[aD]at hl;obtain⟨te,hte,hl⟩:=hl;obtain⟨ie,de,zve,htye⟩:=bM hte;have hsz:(sizeOf e).run P w= .ok te.size w:=by rw[cD htye.info,htye.size]
  split at hl
  ·
   rename_i l hx;obtain⟨⟨h0,h1⟩,hc,hK⟩:=hl;obtain⟨ad,cap,xs,sz,he,hl2,hcs,hcap,hn,hrd⟩:=aI8 h hx;have hlt:i.toNat<l.length:=by omega
   have hszz:sz=te.size:=by rw[←hc];exact(hcs _ (bF7 hlt)).symm
   cases ad with
   |none=>have:=hn rfl;omega
   |some b=>
    obtain⟨c1,c2,c3,rfl,e1,e2⟩:=xM hl2 hcs hlt;refine⟨_,.pointer (some (b.add (i.toNat*te.size))),hK,?_,?_,by simp[HV.men]⟩
    · rw[he,hi];simp[Instr.indexAt,asIntOf,D3 hu,h0,h1,hsz]
    · rw[←hszz,←e1];exact aI9 e2 (hrd b rfl).part
  ·
   rename_i id n hx;split at hl
   ·
    rename_i tr sz l ho;obtain⟨⟨hn,hs⟩,⟨h0,h1⟩,hK⟩:=hl;obtain⟨hd',xs,hρ,he,hlen,hl2,hcs,how⟩:=mM h hx ho hn;rcases how.2 with⟨rfl,hz⟩|⟨g,cap,cur,rfl,_⟩
    · omega
    · refine⟨_,.pointer (some (⟨g,i.toNat*sz+0,none⟩)),hK,?_,iJ hρ,by rw[hx]at hm;simpa[HV.men]using hm⟩;rw[he,hi];simp[Instr.indexAt,asIntOf,D3 hu,h0,h1,hsz,hs,eU]
   · exact hl.elim
  ·
   rename_i id n lo sz hi' hx;split at hl
   ·
    rename_i tr sz' l ho;obtain⟨⟨hn,hn0,hs,rfl,hhn⟩,⟨h0,h1⟩,hK⟩:=hl;obtain⟨g,cap,xs,hρ,he,hcap,hl2,hcs,how⟩:=sI h hx ho hn hn0;have hne:cap≠lo:=by omega
    refine⟨_,.pointer (some (⟨g,(lo+i.toNat)*sz'+0,none⟩)),hK,?_,iJ hρ,by rw[hx]at hm;simpa[HV.men]using hm⟩;rw[he,hi];simp[Instr.indexAt,asIntOf,D3 hu,h0,h1,hsz,hs,eU,hne,K0]
   ·
    rename_i T v ho;obtain⟨⟨hs,hhn⟩,⟨h0,h1⟩,hK⟩:=hl;obtain⟨b,cs,hρ,_⟩:=h.box ho;have hr:=dQ (h.ev x (by rw[hx];simp)) (by rw[hx];rfl);rw[hx]at hr;simp only[RepH]at hr;obtain⟨⟨y,hy,hy1,_,hy2⟩,_⟩:=hr;simp only[G4,L8]at hy;have he:a.eval x=_:=hy.trans (hy2 b hρ);have hne:n≠lo:=by omega
    refine⟨_,.pointer (some (⟨b,(lo+i.toNat)*sz,none⟩)),hK,?_,pQ hρ,by rw[hx]at hm;simpa[HV.men]using hm⟩;rw[he,hi];simp[Instr.indexAt,asIntOf,D3 hu,h0,h1,hsz,hs,eU,hne,K0]
   · exact hl.elim
  · exact hl.elim
 ·
  rename_i m e k i hd hix;have hdd:=hty.d_;rw[hd]at hdd;have hu:P.underlying t=some (.array m e):=by
   rw[hty.under];congr 1;cases d0<;>simp[tyd]at hdd;grind
  have hi:=eI h hix;rw[aD]at hl;obtain⟨te,hte,hl⟩:=hl;obtain⟨ie,de,zve,htye⟩:=bM hte;have hsz:(sizeOf e).run P w= .ok te.size w:=by rw[cD htye.info,htye.size]
  obtain⟨⟨h0,h1⟩,hl⟩:=hl;have run: ∀ad,(Instr.indexAt t (.pointer (some ad)) (.int k i)).run P w= .ok (.pointer (some (ad.add (i.toNat*te.size)))) w:=fun ad=>by simp_all[Instr.indexAt,asIntOf,D3,Instr.sureAddr]
  split at hl
  · rename_i id o hx;obtain⟨hb,hK⟩:=hl;obtain⟨b,hρ,he⟩:=kW h hx hb;refine⟨_,_,hK,by rw[he,hi];exact run _,?_,by rw[hx]at hm;simpa[HV.men]using hm⟩;rw[eU];exact pQ hρ
  · rename_i id n i' sz o hx;obtain⟨hb,hK⟩:=hl;obtain⟨g,cap,hρ,he⟩:=pP h hx hb;refine⟨_,_,hK,by rw[he,hi];exact run _,?_,by rw[hx]at hm;simpa[HV.men]using hm⟩;rw[eU,S9];exact iJ hρ
  · rename_i v hx;rw[aD]at hl;obtain⟨u,hg,hK⟩:=hl;obtain⟨ad,xs,he,hv,hrd⟩:=bF9 h hx;obtain⟨c1,c2,c3,rfl,e1,e2,e3,e4⟩:=CV.getAt_spec hg hv;exact⟨.c (.rp u),_,hK,by rw[he,hi];exact run ad,by rw[←e1];exact aI9 e3 hrd.part,by simp[HV.men]⟩
  · exact hl.elim
 grind
end
mutual
def HV.toC :HV→Option CV
 | .c v=>some v
 | .agg l=>(HV.toCL l).map .agg
 |_=>none
def HV.toCL :List HV→Option (List CV)
 |[]=>some []
 |v::vs=>match v.toC,HV.toCL vs with
  |some a,some b=>some (a::b)
  |_,_=>none
end
mutual
theorem HV.toC_spec {w:World}{ρ:Env}{O:Nat→Prop}: ∀{v:HV} {u:CV} {cs:List Value},v.toC=some u→RepH w ρ O v cs→RepC w O u cs
 | .c v,u,cs,h,hr=>by simp only[HV.toC,D6]at h;subst h;simpa only[RepH]using hr
 | .agg l,u,cs,h,hr=>by
  simp only[HV.toC,C8]at h;obtain⟨l',h,rfl⟩:=h;simp only[RepH,RepC]at hr⊢;exact HV.toCL_spec h hr
 | .junk,u,cs,h,hr=>by simp[HV.toC]at h
 | .own ..,u,cs,h,hr=>by simp[HV.toC]at h
 | .ptr ..,u,cs,h,hr=>by simp[HV.toC]at h
 | .eptr ..,u,cs,h,hr=>by simp[HV.toC]at h
 | .osl ..,u,cs,h,hr=>by simp[HV.toC]at h
 | .mapr ..,u,cs,h,hr=>by simp[HV.toC]at h
 | .mrow ..,u,cs,h,hr=>by simp[HV.toC]at h
 | .clo ..,u,cs,h,hr=>by simp[HV.toC]at h
 | .opq _,u,cs,h,hr=>by simp[HV.toC]at h
 | .tup ..,u,cs,h,hr=>by simp[HV.toC]at h
theorem HV.toCL_spec {w:World}{ρ:Env}{O:Nat→Prop}: ∀{l:List HV} {l':List CV} {cs:List Value},HV.toCL l=some l'→RepHL w ρ O l cs→RepL w O l' cs
 |[],l',cs,h,hr=>by simp only[HV.toCL,D6]at h;subst h;simpa only[RepHL,RepL]using hr
 |v::vs,l',cs,h,hr=>by
  simp only[HV.toCL]at h;split at h
  · rename_i a b h1 h2;cases h;simp only[RepHL,RepL]at hr⊢;obtain⟨c1,c2,e,h3,h4⟩:=hr;exact⟨c1,c2,e,HV.toC_spec h1 h3,HV.toCL_spec h2 h4⟩
  · cases h
end
theorem HV.toC_agg {u:CV}(h:v.toC=some u):u.isAgg=v.isAgg:=by
 cases v with
 |c v=>simp only[HV.toC,D6]at h;subst h;rfl
 |agg l=>simp only[HV.toC,C8]at h;obtain⟨l',_,rfl⟩:=h;rfl
 |_=>simp[HV.toC]at h
mutual
theorem HV.toC_cells : ∀{v:HV} {u:CV},v.toC=some u→u.cells=v.cells
 | .c v,u,h=>by simp only[HV.toC,D6]at h;subst h;simp[HV.cells]
 | .agg l,u,h=>by
  simp only[HV.toC,C8]at h;obtain⟨l',h,rfl⟩:=h;simp only[CV.cells,HV.cells];exact HV.toCL_cells h
 | .junk,u,h=>by simp[HV.toC]at h
 | .own ..,u,h=>by simp[HV.toC]at h
 | .ptr ..,u,h=>by simp[HV.toC]at h
 | .eptr ..,u,h=>by simp[HV.toC]at h
 | .osl ..,u,h=>by simp[HV.toC]at h
 | .mapr ..,u,h=>by simp[HV.toC]at h
 | .mrow ..,u,h=>by simp[HV.toC]at h
 | .clo ..,u,h=>by simp[HV.toC]at h
 | .opq _,u,h=>by simp[HV.toC]at h
 | .tup ..,u,h=>by simp[HV.toC]at h
theorem HV.toCL_cells : ∀{l:List HV} {l':List CV},HV.toCL l=some l'→CV.cellsL l'=HV.cellsL l
 |[],l',h=>by simp only[HV.toCL,D6]at h;subst h;rfl
 |v::vs,l',h=>by
  simp only[HV.toCL]at h;split at h
  · rename_i a b h1 h2;cases h;simp only[CV.cellsL,HV.cellsL,HV.toC_cells h1,HV.toCL_cells h2]
  · cases h
end
def HV.norm (v:HV):HV:=match v.toC with|some u=> .c u|none=>v
theorem HV.norm_cells (v:HV):v.norm.cells=v.cells:=by grind[HV.norm,HV.cells,HV.toC_cells]
theorem HV.norm_rep {cs:List Value}(h:RepH w ρ O v cs):RepH w ρ O v.norm cs:=by grind[HV.norm,RepH,HV.toC_spec]
theorem HV.norm_men (h:v.men M):v.norm.men M:=by grind[HV.norm,HV.men]
theorem HV.norm_agg (v:HV):v.norm.isAgg=v.isAgg:=by grind[HV.norm,HV.isAgg,HV.toC_agg]
theorem HV.norm_sto (h:v.sto=true):v.norm.sto=true:=by
 unfold HV.norm;split
 · rfl
 grind
theorem aP1 {w:World}{O:Nat→Prop}{sz:Nat}{u:CV}: ∀{l:List CV} {cs:List Value} {i:Nat},RepL w O l cs→(∀v∈l,v.cells=sz)→i<l.length→
  ∃c1 c2 c3,cs=c1++c2++c3∧c1.length=i*sz∧RepC w O (nth l i) c2∧ ∀c2',RepC w O u c2'→RepL w O (l.set i u) (c1++c2'++c3)
 |[],cs,i,_,_,hi=>by grind
 |v::vs,cs,0,h,_,_=>by
  simp only[RepL]at h;obtain⟨c1,c2,rfl,h1,h2⟩:=h;exact⟨[],c1,c2,by simp,by simp,by simpa[nth]using h1,fun c2' h'=>by grind[RepL]⟩
 |v::vs,cs,i+1,h,hc,hi=>by
  simp only[RepL]at h;obtain⟨c1,c2,rfl,h1,h2⟩:=h;obtain⟨d1,d2,d3,rfl,e1,e2,e3⟩:=aP1 (i:=i) h2 (fun v hv=>hc v (by grind)) (by grind);refine⟨c1++d1,d2,d3,by simp,?_,by simpa[nth]using e2,fun c2' h'=>?_⟩
  · rw[A3,bS h1,hc v (by simp),e1,K0];omega
  · simp only[P0,RepL];exact⟨c1,d1++c2'++d3,by simp,h1,e3 c2' h'⟩
def hstore (ti:TyI)(x v:HV)(ob:Ob)(K:HV→Ob→Prop):Prop:=
 match x with
 | .ptr id off=>match ob id with
  |some (.box T u)=>(u.sto=true∧v.sto=true∧v.cells=ti.size)∧hlift (HV.setAt off ti.size v u) fun u'=>K .junk (upd ob id (some (.box T u'.norm)))
  |_=>False
 | .eptr id n i sz off=>match ob id with
  |some (.row T sz' l)=>(n=l.length∧sz=sz'∧i<l.length∧v.sto=true∧v.cells=ti.size)∧hlift (HV.setAt off ti.size v (.c (nth l i))) fun u'=>hlift u'.toC fun cu=>K .junk (upd ob id (some (.row T sz' (l.set i cu))))
  |_=>False
 |_=>False
section
variable {P:Program}{c:Ctx}{M:Nat→Prop}{fr:Fr}{ob:Ob}{a:Act}{w:World}{ρ:Env}
theorem lZ {t:TypeId}{i:TypeInfo}(hi:P.info? t=some i)(y:Value)(hy:y.cells.size=i.size)(b off:Nat)(T:TypeId)(cur:Array Value)(hb:w.heap[b]? =some (.cells cur T (0,0)))
  (hfit:off+i.size≤cur.size) (h1: ∀u∈y.cells.toList,u.oneCell'=true):
  (Instr.storeAt t (.pointer (some ⟨b,off,none⟩)) y).run P w= .ok () (w.setRow b (cur.toList.take off++y.cells.toList++cur.toList.drop (off+y.cells.toList.length)).toArray):=by
 have:=Y1 P b off T y.cells.toList 0 cur w hb (by grind) h1;simp_all[N0,Instr.storeAt,Instr.sureAddr,storeVar,cD]
theorem lO {l1 l2 l3 x:List Value}(h:x.length=l2.length):(l1++l2++l3).take l1.length++x++(l1++l2++l3).drop (l1.length+x.length)=l1++x++l3:=by grind
theorem aP2 (h:RepA' c M fr ob a w ρ){t:TypeId}{ti:TyI}(ht:aT P t=some ti){x y:Operand}{K:HV→Ob→Prop}(hl:hstore ti (ev fr x) (ev fr y) ob K):
  ∃ob' w',K .junk ob'∧(Instr.storeAt t (a.eval x) (a.eval y)).run P w= .ok () w'∧ ∀d z,(∀k,d=some k→k<c.n)→RepA' c M (updo fr d .junk) ob' (a.put d z) w' ρ:=by
 obtain⟨i,d,zv,hty⟩:=bM ht;have hmx:=h.evm x;have hmy:=h.evm y;unfold hstore at hl;split at hl
 ·
  rename_i id off hx;split at hl
  ·
   rename_i T u ho;obtain⟨⟨hs,hvs,hvc⟩,hl⟩:=hl;rw[aD]at hl;obtain⟨u',hset,hK⟩:=hl;obtain⟨b,hρ,he⟩:=kW h hx (by rw[ho];rfl);obtain⟨b',cs,hρ',hb,hu⟩:=h.box ho;rw[hρ]at hρ';cases hρ';have hvr:=h.ev y (by grind[HV.sto]);obtain⟨c1,c2,c3,rfl,e1,e2,e3,e4,e5⟩:=HV.setAt_spec hvs hset hs hu;have hvl:(a.eval y).cells.toList.length=c2.length:=by rw[bZ hvr.1,hvc,e2]
   have hrun:=lZ (P:=P) (w:=w) hty.info (a.eval y) (by rw[hty.size,←hvc,←bZ hvr.1];simp) b off T _ hb (by simp[hty.size];omega) (oD hvs hvr.1);refine⟨_,_,hK,by rw[he];exact hrun,fun d z hd=>?_⟩;have hcells:(((c1++c2++c3).toArray.toList.take off++(a.eval y).cells.toList++(c1++c2++c3).toArray.toList.drop (off+(a.eval y).cells.toList.length)))=c1++(a.eval y).cells.toList++c3:=by
    rw[←e1];exact lO hvl
   rw[hcells];have hmu:u'.men M:=e5 M hmy (h.mo id _ ho).2;refine h.setObj hρ rfl (h.mo id _ ho).1 (fun b' hb'=>Q6 w b b' _ hb') (V6 _ _ _) rfl rfl rfl (fun hst=>?_) (HV.norm_men hmu) (fun _=> .inl rfl) (by simp[HV.men]) hd;exact⟨b,_,hρ,R7 w b _ _ T (0,0) hb,HV.norm_rep (RepH.stay hst (Moves.refl M ρ) hmu (e3 _ hvr.1))⟩
  grind
 ·
  rename_i id n i' sz off hx;split at hl
  ·
   rename_i T sz' l ho;obtain⟨⟨hn,hsz,hi,hvs,hvc⟩,hl⟩:=hl;subst hn hsz;rw[aD]at hl;obtain⟨u',hset,hl⟩:=hl;rw[aD]at hl;obtain⟨cu,hcu,hK⟩:=hl;obtain⟨g,cap,hρ,he⟩:=pP h hx (by rw[ho];exact⟨rfl,fun e=>by grind⟩);obtain⟨hd',xs,hρ',hl2,hcs,how⟩:=h.rowO ho;rw[hρ]at hρ';cases hρ';have hvr:=h.ev y (by intro e;rw[e]at hvs;simp[HV.sto]at hvs);obtain⟨d1,d2,d3,rfl,f1,f2,f3⟩:=aP1 (u:=cu) hl2 hcs hi;obtain⟨c1,c2,c3,rfl,e1,e2,e3,e4,e5⟩:=HV.setAt_spec (ρ:=ρ) hvs hset rfl (by simpa only[RepH]using f2);have hvl:(a.eval y).cells.toList.length=c2.length:=by rw[bZ hvr.1,hvc,e2]
   rcases how.2 with⟨e,_⟩|⟨g',cap',cur,e,hg0,hh,hcap,hmax,hcsz,htake⟩
   · cases e
   ·
    cases e;have hcur:cur.toList=(d1++c1)++c2++(c3++d3++cur.toList.drop (l.length*sz)):=by
     refine(R3 (l.length*sz) cur.toList).symm.trans ?_;rw[htake];simp
    have hclen:cur.size=cur.toList.length:=by simp
    have hoff:i'*sz+off=(d1++c1).length:=by simp[f1,e1]
    have hrun:=lZ (P:=P) (w:=w) hty.info (a.eval y) (by rw[hty.size,←hvc,←bZ hvr.1];simp) g (i'*sz+off) T cur hh
     (by rw[hclen,hcur,hoff];simp only[A3];rw[hty.size,←e2];omega) (oD hvs hvr.1)
    refine⟨_,_,hK,by rw[he];exact hrun,fun d z hd=>?_⟩;have hnew:cur.toList.take (i'*sz+off)++(a.eval y).cells.toList++cur.toList.drop (i'*sz+off+(a.eval y).cells.toList.length)=(d1++c1)++(a.eval y).cells.toList++(c3++d3++cur.toList.drop (l.length*sz)):=by
     rw[hoff]
     conv=>lhs;rw[hcur]
     exact lO hvl
    rw[hnew];have hcells:(∀v∈l.set i' cu,v.cells=sz):=by
     intro v hv;rcases K4 hv with hv|rfl
     · exact hcs v hv
     · have h1:=bS (HV.toC_spec hcu (e3 _ hvr.1));have h2:=bS f2;rw[hcs _ (bF7 hi)]at h2;simp only[A3]at h1 h2;omega
    have hxs:RepL w (Owned ρ c.X) (l.set i' cu) (d1++(c1++(a.eval y).cells.toList++c3)++d3):=f3 _ (HV.toC_spec hcu (e3 _ hvr.1));refine h.setObj (b0:=g) hρ (by simp[Loc.has,Value.ownBlock]) (h.mo id _ ho).1 (fun b' hb'=>Q6 w g b' _ hb') (V6 _ _ _) rfl rfl rfl (fun hst=>?_) trivial (fun _=> .inl rfl) (by simp[HV.men]) hd;refine⟨_,_,hρ,hxs.stay hst,hcells,?_,.inr ⟨g,cap,_,by rw[M6],F9 _,R7 w g _ _ T (0,0) hh,by simpa using hcap,hmax,?_,?_⟩⟩
    · have:=how.1;simp only[A3,M6]at this⊢;omega
    ·
     rw[←hcsz,hclen]
     conv=>rhs;rw[hcur]
     simp only[I6,A3];omega
    ·
     have:=how.1;rw[M6];simp only[A3]at this;have e:(d1++c1++(a.eval y).cells.toList++(c3++d3++cur.toList.drop (l.length*sz)))=(d1++(c1++(a.eval y).cells.toList++c3)++d3)++cur.toList.drop (l.length*sz):=by simp
     rw[e];refine V9 ?_;simp only[A3];omega
  grind
 grind
theorem aC4 {M':Nat→Prop}(h:RepA' c M fr ob a w ρ){nid:Nat}(hn: ¬M nid)(hM: ∀i,M i→M' i)(hM':M' nid)(t:TypeId){v:HV}{y:Value}(hv:RepV w ρ (Owned ρ c.X) v y)(hm:v.men M)
  (d:Option Nat) (hd: ∀k,d=some k→k<c.n):
  RepA' c M' (updo fr d (.ptr nid 0)) (upd ob nid (some (.box t v))) (a.put d (.pointer (some ⟨w.heap.size,0,none⟩))) (w.alloc (.cells y.cells t)) (upd ρ nid (some (.blk w.heap.size))):=by
 refine h.newObj (w1:=w) hn hM hM' rfl rfl rfl rfl (fun _ hb=>hb) (fun hst=>?_) (HV.men_mono hM hm) (.inr (pQ (aU _ _ _))) (by simpa[HV.men]using hM') hd;refine⟨w.heap.size,y.cells.toList,aU _ _ _,?_,RepH.stay hst (Moves.upd_new hn) hm hv.1⟩;rw[I4];exact O5 w _
theorem aP3 {M':Nat→Prop}(h:RepA' c M fr ob a w ρ){nid:Nat}(hn: ¬M nid)(hM: ∀i,M i→M' i)(hM':M' nid){t:TypeId}{ti:TyI}(ht:aT P t=some ti)
  (d:Option Nat) (hd: ∀k,d=some k→k<c.n):
  ∃y w' ρ',(Instr.alloc t true (.tuple #[])).run P w= .ok y w'∧RepA' c M' (updo fr d (.ptr nid 0)) (upd ob nid (some (.box t (.c ti.z)))) (a.put d y) w' ρ':=by
 obtain⟨i,d',zv,hty⟩:=bM ht;refine⟨_,_,_,?_,aC4 h hn hM hM' t (v:= .c ti.z) (y:=zv) ⟨by simp only[RepH];exact hty.rep w _,by rw[HV.isAgg,hty.agg]⟩ (by simp[HV.men]) d hd⟩;simp[Instr.alloc,zeroValue,typeInfo,hty.info,hty.zero,newVar,newRow]
theorem bM4 {M':Nat→Prop}(h:RepA' c M fr ob a w ρ){nid:Nat}(hn: ¬M nid)(hM: ∀i,M i→M' i)(hM':M' nid){t:TypeId}{x:Operand}(hx:ev fr x≠ .junk)
  (d:Option Nat) (hd: ∀k,d=some k→k<c.n):
  ∃y w' ρ',(Instr.box t (a.eval x)).run P w= .ok y w'∧RepA' c M' (updo fr d (.ptr nid 0)) (upd ob nid (some (.box t (ev fr x)))) (a.put d y) w' ρ':=
 ⟨_,_,_,by simp[Instr.box,newVar,newRow],aC4 h hn hM hM' t (h.ev x hx) (h.evm x) d hd⟩
end
end Go.Hl
