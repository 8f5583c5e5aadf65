/- HL: rows that a function makes and hands back as the caller's own; rows that are lent. By an AI agent. -/
import Derived.Test.YthedbjfipmkpiaaGreatDoorPl11
import Derived.Test.YthedbjfipmkpiaaGreatDoorChecked
set_option linter.unusedSimpArgs false
set_option linter.unusedVariables false
set_option linter.defProp false
namespace Go.Pl
open Go Go.Hl
structure Rq where
 k:Int
 n:Int
 m:Int
 t:aK
def Rq.cv (x:Rq):CV:= .agg [.int .i64 x.k,.int .i64 x.n,.int .i64 x.m,.str x.t]
theorem Rq.cells (x:Rq):x.cv.cells=4:=by simp[Rq.cv,CV.cells,CV.cellsL,dg_cells,aN]
theorem Rq.denil (x:Rq):x.cv.denil=x.cv:=by simp only[Rq.cv,CV.denil,CV.denilL,dg_denil,fK,denilL_str,denilL_dg]
theorem denilL_Rq (l:List Rq):CV.denilL (l.map Rq.cv)=l.map Rq.cv:=bZ Rq.denil l
theorem Rq.isAgg (x:Rq):x.cv.isAgg=true:=rfl
theorem Rq.getAll (x:Rq):CV.getAt 0 4 true x.cv=some x.cv:=by
 have:=Rq.cells x;simp_all[Rq.cv,CV.cells,CV.getAt,I4,G4]
theorem Rq.setAll (x:Rq)(y:HV):CV.setAt 0 4 y x.cv=some y:=by
 have:=Rq.cells x;simp_all[Rq.cv,CV.cells,CV.setAt,I4,G4]
theorem Rq.fold (k:Int)(n:Int)(m:Int)(t:aK):CV.agg [.int .i64 k,.int .i64 n,.int .i64 m,.str t]=Rq.cv ⟨k,n,m,t⟩:=rfl
theorem Rq.get_k (x:Rq):CV.getAt 0 1 false x.cv=some (.int .i64 x.k):=by simp[Rq.cv,CV.getAt,CV.getAtL,CV.cells,CV.cellsL,dg_cells,aN]
theorem Rq.set_k (x:Rq)(y:HV):CV.setAt 0 1 y x.cv=some (.agg [y,.c (.int .i64 x.n),.c (.int .i64 x.m),.c (.str x.t)]):=by simp[Rq.cv,CV.setAt,CV.setAtL,CV.cells,CV.cellsL,dg_cells,aN]
theorem Rq.get_n (x:Rq):CV.getAt 1 1 false x.cv=some (.int .i64 x.n):=by simp[Rq.cv,CV.getAt,CV.getAtL,CV.cells,CV.cellsL,dg_cells,aN]
theorem Rq.set_n (x:Rq)(y:HV):CV.setAt 1 1 y x.cv=some (.agg [.c (.int .i64 x.k),y,.c (.int .i64 x.m),.c (.str x.t)]):=by simp[Rq.cv,CV.setAt,CV.setAtL,CV.cells,CV.cellsL,dg_cells,aN]
theorem Rq.get_m (x:Rq):CV.getAt 2 1 false x.cv=some (.int .i64 x.m):=by simp[Rq.cv,CV.getAt,CV.getAtL,CV.cells,CV.cellsL,dg_cells,aN]
theorem Rq.set_m (x:Rq)(y:HV):CV.setAt 2 1 y x.cv=some (.agg [.c (.int .i64 x.k),.c (.int .i64 x.n),y,.c (.str x.t)]):=by simp[Rq.cv,CV.setAt,CV.setAtL,CV.cells,CV.cellsL,dg_cells,aN]
theorem Rq.get_t (x:Rq):CV.getAt 3 1 false x.cv=some (.str x.t):=by simp[Rq.cv,CV.getAt,CV.getAtL,CV.cells,CV.cellsL,dg_cells,aN]
theorem Rq.set_t (x:Rq)(y:HV):CV.setAt 3 1 y x.cv=some (.agg [.c (.int .i64 x.k),.c (.int .i64 x.n),.c (.int .i64 x.m),y]):=by simp[Rq.cv,CV.setAt,CV.setAtL,CV.cells,CV.cellsL,dg_cells,aN]
structure Nd where
 k:Int
 n:Int
 c:Int
 q:Rq
def Nd.cv (x:Nd):CV:= .agg [.int .i64 x.k,.int .i64 x.n,.int .i64 x.c,x.q.cv]
theorem Nd.cells (x:Nd):x.cv.cells=7:=by simp[Nd.cv,CV.cells,CV.cellsL,dg_cells,aN,Rq.cells]
theorem Nd.denil (x:Nd):x.cv.denil=x.cv:=by simp only[Nd.cv,CV.denil,CV.denilL,dg_denil,fK,denilL_str,denilL_dg,Rq.denil]
theorem denilL_Nd (l:List Nd):CV.denilL (l.map Nd.cv)=l.map Nd.cv:=bZ Nd.denil l
theorem Nd.isAgg (x:Nd):x.cv.isAgg=true:=rfl
theorem Nd.getAll (x:Nd):CV.getAt 0 7 true x.cv=some x.cv:=by
 have:=Nd.cells x;simp_all[Nd.cv,CV.cells,CV.getAt,I4,G4]
theorem Nd.setAll (x:Nd)(y:HV):CV.setAt 0 7 y x.cv=some y:=by
 have:=Nd.cells x;simp_all[Nd.cv,CV.cells,CV.setAt,I4,G4]
theorem Nd.fold (k:Int)(n:Int)(c:Int)(q:Rq):CV.agg [.int .i64 k,.int .i64 n,.int .i64 c,q.cv]=Nd.cv ⟨k,n,c,q⟩:=rfl
theorem Nd.get_k (x:Nd):CV.getAt 0 1 false x.cv=some (.int .i64 x.k):=by simp[Nd.cv,CV.getAt,CV.getAtL,CV.cells,CV.cellsL,dg_cells,aN,Rq.cells]
theorem Nd.set_k (x:Nd)(y:HV):CV.setAt 0 1 y x.cv=some (.agg [y,.c (.int .i64 x.n),.c (.int .i64 x.c),.c (x.q.cv)]):=by simp[Nd.cv,CV.setAt,CV.setAtL,CV.cells,CV.cellsL,dg_cells,aN,Rq.cells]
theorem Nd.get_n (x:Nd):CV.getAt 1 1 false x.cv=some (.int .i64 x.n):=by simp[Nd.cv,CV.getAt,CV.getAtL,CV.cells,CV.cellsL,dg_cells,aN,Rq.cells]
theorem Nd.set_n (x:Nd)(y:HV):CV.setAt 1 1 y x.cv=some (.agg [.c (.int .i64 x.k),y,.c (.int .i64 x.c),.c (x.q.cv)]):=by simp[Nd.cv,CV.setAt,CV.setAtL,CV.cells,CV.cellsL,dg_cells,aN,Rq.cells]
theorem Nd.get_c (x:Nd):CV.getAt 2 1 false x.cv=some (.int .i64 x.c):=by simp[Nd.cv,CV.getAt,CV.getAtL,CV.cells,CV.cellsL,dg_cells,aN,Rq.cells]
theorem Nd.set_c (x:Nd)(y:HV):CV.setAt 2 1 y x.cv=some (.agg [.c (.int .i64 x.k),.c (.int .i64 x.n),y,.c (x.q.cv)]):=by simp[Nd.cv,CV.setAt,CV.setAtL,CV.cells,CV.cellsL,dg_cells,aN,Rq.cells]
theorem Nd.get_q (x:Nd):CV.getAt 3 4 true x.cv=some (x.q.cv):=by simp[Nd.cv,CV.getAt,CV.getAtL,CV.cells,CV.cellsL,dg_cells,aN,Rq.cells,Rq.getAll]
theorem Nd.set_q (x:Nd)(y:HV):CV.setAt 3 4 y x.cv=some (.agg [.c (.int .i64 x.k),.c (.int .i64 x.n),.c (.int .i64 x.c),y]):=by simp[Nd.cv,CV.setAt,CV.setAtL,CV.cells,CV.cellsL,dg_cells,aN,Rq.cells,Rq.setAll]
structure Pr where
 a:aK
 b:aK
 c:aK
 g:Int
 t:List Nd
def Pr.cv (x:Pr):CV:= .agg [.str x.a,.str x.b,.str x.c,.int .i64 x.g,.slc (x.t.map Nd.cv)]
theorem Pr.cells (x:Pr):x.cv.cells=5:=by simp[Pr.cv,CV.cells,CV.cellsL,dg_cells,aN]
theorem Pr.denil (x:Pr):x.cv.denil=x.cv:=by simp only[Pr.cv,CV.denil,CV.denilL,dg_denil,fK,denilL_str,denilL_dg,denilL_Nd]
theorem bV5 (l:List Pr):CV.denilL (l.map Pr.cv)=l.map Pr.cv:=bZ Pr.denil l
theorem Pr.isAgg (x:Pr):x.cv.isAgg=true:=rfl
theorem Pr.getAll (x:Pr):CV.getAt 0 5 true x.cv=some x.cv:=by
 have:=Pr.cells x;simp_all[Pr.cv,CV.cells,CV.getAt,I4,G4]
theorem Pr.setAll (x:Pr)(y:HV):CV.setAt 0 5 y x.cv=some y:=by
 have:=Pr.cells x;simp_all[Pr.cv,CV.cells,CV.setAt,I4,G4]
theorem Pr.fold (a:aK)(b:aK)(c:aK)(g:Int)(t:List Nd):CV.agg [.str a,.str b,.str c,.int .i64 g,.slc (t.map Nd.cv)]=Pr.cv ⟨a,b,c,g,t⟩:=rfl
theorem Pr.get_a (x:Pr):CV.getAt 0 1 false x.cv=some (.str x.a):=by simp[Pr.cv,CV.getAt,CV.getAtL,CV.cells,CV.cellsL,dg_cells,aN]
theorem Pr.set_a (x:Pr)(y:HV):CV.setAt 0 1 y x.cv=some (.agg [y,.c (.str x.b),.c (.str x.c),.c (.int .i64 x.g),.c (.slc (x.t.map Nd.cv))]):=by simp[Pr.cv,CV.setAt,CV.setAtL,CV.cells,CV.cellsL,dg_cells,aN]
theorem Pr.get_c (x:Pr):CV.getAt 2 1 false x.cv=some (.str x.c):=by simp[Pr.cv,CV.getAt,CV.getAtL,CV.cells,CV.cellsL,dg_cells,aN]
theorem Pr.set_c (x:Pr)(y:HV):CV.setAt 2 1 y x.cv=some (.agg [.c (.str x.a),.c (.str x.b),y,.c (.int .i64 x.g),.c (.slc (x.t.map Nd.cv))]):=by simp[Pr.cv,CV.setAt,CV.setAtL,CV.cells,CV.cellsL,dg_cells,aN]
theorem Pr.get_t (x:Pr):CV.getAt 4 1 false x.cv=some (.slc (x.t.map Nd.cv)):=by simp[Pr.cv,CV.getAt,CV.getAtL,CV.cells,CV.cellsL,dg_cells,aN]
theorem Pr.set_t (x:Pr)(y:HV):CV.setAt 4 1 y x.cv=some (.agg [.c (.str x.a),.c (.str x.b),.c (.str x.c),.c (.int .i64 x.g),y]):=by simp[Pr.cv,CV.setAt,CV.setAtL,CV.cells,CV.cellsL,dg_cells,aN]
structure Po where
 n:aK
 v:Int
 r:List Pr
def Po.cv (x:Po):CV:= .agg [.str x.n,.int .i64 x.v,.slc (x.r.map Pr.cv)]
theorem Po.cells (x:Po):x.cv.cells=3:=by simp[Po.cv,CV.cells,CV.cellsL,dg_cells,aN]
theorem Po.denil (x:Po):x.cv.denil=x.cv:=by simp only[Po.cv,CV.denil,CV.denilL,dg_denil,fK,denilL_str,denilL_dg,bV5]
theorem Po.isAgg (x:Po):x.cv.isAgg=true:=rfl
theorem Po.getAll (x:Po):CV.getAt 0 3 true x.cv=some x.cv:=by
 have:=Po.cells x;simp_all[Po.cv,CV.cells,CV.getAt,I4,G4]
theorem Po.setAll (x:Po)(y:HV):CV.setAt 0 3 y x.cv=some y:=by
 have:=Po.cells x;simp_all[Po.cv,CV.cells,CV.setAt,I4,G4]
theorem Po.fold (n:aK)(v:Int)(r:List Pr):CV.agg [.str n,.int .i64 v,.slc (r.map Pr.cv)]=Po.cv ⟨n,v,r⟩:=rfl
theorem Po.get_n (x:Po):CV.getAt 0 1 false x.cv=some (.str x.n):=by simp[Po.cv,CV.getAt,CV.getAtL,CV.cells,CV.cellsL,dg_cells,aN]
theorem Po.set_n (x:Po)(y:HV):CV.setAt 0 1 y x.cv=some (.agg [y,.c (.int .i64 x.v),.c (.slc (x.r.map Pr.cv))]):=by simp[Po.cv,CV.setAt,CV.setAtL,CV.cells,CV.cellsL,dg_cells,aN]
theorem Po.get_v (x:Po):CV.getAt 1 1 false x.cv=some (.int .i64 x.v):=by simp[Po.cv,CV.getAt,CV.getAtL,CV.cells,CV.cellsL,dg_cells,aN]
theorem Po.set_v (x:Po)(y:HV):CV.setAt 1 1 y x.cv=some (.agg [.c (.str x.n),y,.c (.slc (x.r.map Pr.cv))]):=by simp[Po.cv,CV.setAt,CV.setAtL,CV.cells,CV.cellsL,dg_cells,aN]
theorem Po.get_r (x:Po):CV.getAt 2 1 false x.cv=some (.slc (x.r.map Pr.cv)):=by simp[Po.cv,CV.getAt,CV.getAtL,CV.cells,CV.cellsL,dg_cells,aN]
theorem Po.set_r (x:Po)(y:HV):CV.setAt 2 1 y x.cv=some (.agg [.c (.str x.n),.c (.int .i64 x.v),y]):=by simp[Po.cv,CV.setAt,CV.setAtL,CV.cells,CV.cellsL,dg_cells,aN]
def iH (a b:Rq):Bool:=a.k==b.k&&(a.n==b.n&&(a.m==b.m&&a.t==b.t))
theorem cF2 (a b:Rq):iH a b=true↔a=b:=by
 obtain⟨I,a2,a3,a4⟩:=a;obtain⟨b1,J,U,b4⟩:=b;simp only[iH,B3,I6,Rq.mk.injEq]
def rq0 :Rq:=⟨0,0,0,[]⟩
def nd0 :Nd:=⟨0,0,0,rq0⟩
def inB (n lo hi:Int):Bool:=decide (lo≤n)&&decide (n≤hi)
def fE (q:Rq):Bool:=
 if q.k=1∨q.k=3∨q.k=5 then inB q.n 1 32&&(q.m==0&&q.t==[])
 else if q.k=4 then inB q.n 1 32&&(inB q.m 0 32&&q.t==[])
 else if q.k=2 then fL q.t&&(q.n==0&&q.m==0)
 else if q.k=6 then inB q.n 1 10&&(q.m==0&&q.t==[])
 else if q.k=7 then inB q.n 0 zG&&(q.m==0&&q.t==[])
 else if q.k=8 then q.n==0&&(q.m==0&&q.t==[])
 else false
def dK (n:Nd):Bool:=
 if n.k=1 then n.c==0&&(n.n==0&&fE n.q)
 else if n.k=2∨n.k=3 then inB n.c 1 60&&(iH n.q rq0&&n.n==0)
 else if n.k=4 then inB n.c 1 60&&(iH n.q rq0&&inB n.n 1 n.c)
 else false
theorem fM {n:Nd}(h:dK n=true):0≤n.c∧n.c≤60∧(n.k=1→n.c=0)∧(n.k≠1→1≤n.c):=by
 unfold dK inB at h;split at h
 · grind
 grind
def uH :List Nd→Int→Int→Option (Int×Int)
 |[],m,v=>some (m,v)
 |n::l,m,v=>if m=0 then none else if dK n then uH l (m+(n.c-1)) (if n.k=1 then v+1 else v)else none
def eJ (l:List Nd):Bool:=decide (1≤l.length)&&(decide (l.length≤60)&&(match uH l 1 0 with|some (m,v)=>m==0&&decide (v≤16)|none=>false))
def lv :List Nd→Nat
 |[]=>0
 |n::l=>(if n.k=1 then 1 else 0)+lv l
theorem wV (a b:List Nd):lv (a++b)=lv a+lv b:=by
 induction a with
 |nil=>simp[lv]
 |cons n a I=>grind[lv]
theorem bO3 (l:List Nd):lv l≤l.length:=by
 induction l with
 |nil=>simp[lv]
 |cons n l I=>grind[lv,List.length_cons]
def skip :Nat→List Nd→Option (List Nd)
 |0,l=>some l
 |_+1,[]=>none
 |m+1,n::l=>skip (m+n.c.toNat) l
theorem gW (l:List Nd):skip 0 l=some l:=by cases l<;>rfl
theorem nR : ∀(l:List Nd) (a b:Nat),skip (a+b) l=(skip a l).bind (skip b)
 |l,0,b=>by rw[F0,gW];rfl
 |[],a+1,b=>by rw[show a+1+b=a+b+1 from by omega];rfl
 |n::l,a+1,b=>by
  rw[show a+1+b=a+b+1 from by omega];show skip (a+b+n.c.toNat) l=(skip (a+n.c.toNat) l).bind (skip b);rw[show a+b+n.c.toNat=a+n.c.toNat+b from by omega];exact nR l (a+n.c.toNat) b
theorem aL3 : ∀(l:List Nd) (m:Nat) (r:List Nd),skip m l=some r→ ∃j,j≤l.length∧r=l.drop j∧(0<m→0<j)∧m≤j+0*l.length+m
 |l,0,r,h=>by rw[gW]at h;cases h;exact⟨0,by omega,by simp,by omega,by omega⟩
 |[],m+1,r,h=>by cases h
 |n::l,m+1,r,h=>by
  obtain⟨j,J,I,_,_⟩:=aL3 l (m+n.c.toNat) r h;exact⟨j+1,by grind,by grind,by omega,by omega⟩
theorem aL4 : ∀(l:List Nd) (m:Nat) (v I:Int),uH l m v=some (0,I)→skip m l=some []∧I=v+lv l∧ ∀n∈l,dK n=true
 |[],m,v,I,h=>by
  simp only[uH,E8,Z7]at h;obtain⟨J,rfl⟩:=h;have:m=0:=by omega
  subst this;exact⟨rfl,by simp[lv],by simp⟩
 |n::l,m,v,I,h=>by
  simp only[uH]at h;split at h
  · cases h
  ·
   rename_i J;split at h
   ·
    rename_i U;obtain⟨c1,c2,c3,c4⟩:=fM U;obtain⟨k,rfl⟩: ∃k,m=k+1:=⟨m-1,by omega⟩;have e:((k+1:Nat):Int)+(n.c-1)=((k+n.c.toNat:Nat):Int):=by omega
    rw[e]at h;obtain⟨g1,g2,g3⟩:=aL4 l _ _ _ h;refine⟨g1,?_,fun x hx=>?_⟩
    · grind[lv]
    grind
   grind
structure IsTree (l:List Nd):Prop where
 ne:1≤l.length
 len:l.length≤60
 skip:skip 1 l=some []
 node: ∀n∈l,dK n=true
 lv:lv l≤16
variable {l:List Nd}
theorem fN (h:eJ l=true):IsTree l:=by
 unfold eJ at h;simp only[B3,C4]at h;obtain⟨J,U,I⟩:=h;split at I
 · rename_i m v hs;simp only[B3,I6,C4]at I;obtain⟨rfl,h4⟩:=I;obtain⟨g1,g2,g3⟩:=aL4 l 1 0 v hs;exact⟨J,U,g1,g3,by omega⟩
 grind
theorem wW : ∀(l:List Nd) (m:Nat),skip m l=some []→(∀n∈l,dK n=true)→ ∀i,i<l.length→ ∃k,skip (k+1) (l.drop i)=some []
 |[],m,h,_,i,hi=>by grind
 |n::l,0,h,_,i,hi=>by grind[gW]
 |n::l,m+1,h,hn,0,hi=>⟨m,h⟩
 |n::l,m+1,h,hn,i+1,hi=>by
  have h':skip (m+n.c.toNat) l=some []:=h;exact wW l _ h' (fun x hx=>hn x (H2 _ hx)) i (by grind)
variable {i:Nat}
theorem cF3 (h:IsTree l)(hi:i<l.length): ∃j,i<j∧j≤l.length∧skip 1 (l.drop i)=some (l.drop j):=by
 obtain⟨k,I⟩:=wW l 1 h.skip h.node i hi;rw[V6,nR]at I;cases J:skip 1 (l.drop i)with
 |none=>grind
 |some r=>
  grind[aL3,List.length_drop,List.drop_drop]
def aft (l:List Nd)(i:Nat):Nat:=l.length-((skip 1 (l.drop i)).getD []).length
theorem cF4 {j:Nat}(I:j≤l.length)(h:skip 1 (l.drop i)=some (l.drop j)):aft l i=j:=by grind[aft,List.length_drop]
theorem gL (h:IsTree l)(hi:i<l.length):i<aft l i∧aft l i≤l.length∧skip 1 (l.drop i)=some (l.drop (aft l i)):=by grind[cF3,cF4]
def AftSt (l:List Nd)(i m p:Nat):Prop:=p≤l.length∧skip m (l.drop p)=skip 1 (l.drop i)
variable {p:Nat}
theorem AftSt.lt (U:IsTree l){m:Nat}(hi:i<l.length)(h:AftSt l i m p)(hm:0<m):p<l.length:=by
 rcases H4 p l.length with I|I
 · grind
 · have J:=h.2;rw[O4 I,(gL U hi).2.2]at J;obtain⟨k,rfl⟩: ∃k,m=k+1:=⟨m-1,by omega⟩;cases J
theorem AftSt.next {m:Nat}(h:AftSt l i (m+1) p)(hp:p<l.length):AftSt l i (m+l[p].c.toNat) (p+1):=by
 refine⟨hp,?_⟩;rw[←h.2,F5 hp];rfl
theorem AftSt.fin (h:AftSt l i 0 p):p=aft l i:=by
 have I:=h.2;rw[gW]at I;exact(cF4 h.1 I.symm).symm
theorem bV6 {m q:Nat}(h:skip (m+1) (l.drop p)=skip 1 (l.drop i))(I:skip 1 (l.drop p)=some (l.drop q)):skip m (l.drop q)=skip 1 (l.drop i):=by
 rw[←h,V6 m 1,nR,I];rfl
def dL (l:List Nd):Nat→Nat→List Nat
 |0,_=>[]
 |k+1,at_=>at_::dL l k (aft l at_)
def aS4 (l:List Nd)(i:Nat):List Nat:=dL l (l.getD i nd0).c.toNat (i+1)
def qA (l:List Nd)(i:Int):List Nat:=if eJ l=true∧0≤i∧i<l.length then aS4 l i.toNat else []
theorem lM (l:List Nd): ∀(k p:Nat),(dL l k p).length=k
 |0,_=>rfl
 |k+1,p=>by simp[dL,lM l k]
def cF (l:List Nd):Nat→Nat→Nat
 |0,p=>p
 |k+1,p=>cF l k (aft l p)
theorem dB (l:List Nd): ∀(k p:Nat),cF l (k+1) p=aft l (cF l k p)
 |0,p=>rfl
 |k+1,p=>dB l k (aft l p)
theorem lW (l:List Nd): ∀(k p j:Nat),j≤k→(dL l k p).take j=dL l j p
 |_,p,0,_=>by simp[dL]
 |0,p,j+1,h=>by omega
 |k+1,p,j+1,h=>by simp only[dL,P8,lW l k _ j (by omega)]
theorem iJ (l:List Nd): ∀(k p:Nat),dL l (k+1) p=dL l k p++[cF l k p]
 |0,p=>rfl
 |k+1,p=>by rw[dL,iJ l k];rfl
theorem iK {l:List Nd}(J:IsTree l){i:Nat}(hi:i<l.length): ∀k,k≤l[i].c.toNat→cF l k (i+1)≤l.length∧skip (l[i].c.toNat-k) (l.drop (cF l k (i+1)))=some (l.drop (aft l i))∧i+1≤cF l k (i+1)
 |0,_=>by
  refine⟨hi,?_,E3 _⟩;have:=(gL J hi).2.2;rw[F5 hi]at this;show skip (l[i].c.toNat-0) _=_;rw[←this,H6];show _=skip (0+l[i].c.toNat) _;rw[F0];rfl
 |k+1,hk=>by
  obtain⟨h1,I,h3⟩:=iK J hi k (by omega);have aa:cF l k (i+1)<l.length:=by
   rcases H4 (cF l k (i+1)) l.length with h|h
   · exact h
   · rw[O4 h]at I;obtain⟨q,U⟩: ∃q,l[i].c.toNat-k=q+1:=⟨l[i].c.toNat-k-1,by omega⟩;rw[U]at I;cases I
  obtain⟨a1,a2,a3⟩:=gL J aa;rw[dB];refine⟨a2,?_,by omega⟩;obtain⟨q,U⟩: ∃q,l[i].c.toNat-k=1+q:=⟨l[i].c.toNat-k-1,by omega⟩;rw[U,nR,a3]at I;grind
variable {k:Nat}
theorem jC (J:IsTree l)(hi:i<l.length)(hk:k<l[i].c.toNat):cF l k (i+1)<l.length:=by
 obtain⟨h1,I,_⟩:=iK J hi k (by omega);rcases H4 (cF l k (i+1)) l.length with h|h
 · exact h
 · rw[O4 h]at I;obtain⟨q,U⟩: ∃q,l[i].c.toNat-k=q+1:=⟨l[i].c.toNat-k-1,by omega⟩;rw[U]at I;cases I
def fB :Nat→List Nd→List Nat
 |_,[]=>[]
 |o,n::l=>if n.k=1 then o::fB (o+1) l else fB (o+1) l
def eB (l:List Nd):List Nat:=if eJ l then fB 0 l else []
theorem iO : ∀(l:List Nd) (o:Nat),(fB o l).length=lv l
 |[],_=>rfl
 |n::l,o=>by
  rw[fB,lv];split
  · simp[iO l];omega
  · simp[iO l]
theorem oT : ∀(a b:List Nd) (o:Nat),fB o (a++b)=fB o a++fB (o+a.length) b
 |[],b,o=>by simp[fB]
 |n::a,b,o=>by
  simp only[J4,fB,oT a b,A8];grind
theorem bI5 (h:i<l.length):fB 0 (l.take (i+1))=fB 0 (l.take i)++(if l[i].k=1 then [i]else []):=by
 rw[A5 h,oT];have:(l.take i).length=i:=by simp;omega
 simp_all[F0,fB]
theorem aZ0 (h:IsTree l):1≤lv l:=by
 have key: ∀(l:List Nd) (m:Nat),skip (m+1) l=some []→(∀n∈l,dK n=true)→1≤lv l:=by
  intro l;induction l with
  |nil=>intro m h;cases h
  |cons n l U=>
   intro m h hn;have h':skip (m+n.c.toNat) l=some []:=h;obtain⟨c1,c2,c3,J⟩:=fM (hn n H9);rw[lv];split
   · omega
   · rename_i I;have:=J I;obtain⟨q,hq⟩: ∃q,m+n.c.toNat=q+1:=⟨m+n.c.toNat-1,by omega⟩;grind
 exact key l 0 h.skip h.node
def cnt (l:List Bool):Nat:=(l.filter id).length
theorem bI6 (a b:List Bool):cnt (a++b)=cnt a+cnt b:=by simp[cnt]
theorem bI7 (l:List Bool):cnt l≤l.length:=List.length_filter_le _ _
theorem aZ1 (l:List Bool):cnt l.reverse=cnt l:=by simp[cnt,List.filter_reverse]
def kL (n:Nd)(l:List Bool):Bool:=if n.k=2 then cnt l==l.length else if n.k=3 then decide (1≤cnt l)else decide (n.n≤cnt l)
def evS (T:Nat)(tr:List Bool):List Nd→List Bool
 |[]=>[]
 |n::l=>if n.k=1 then tr.getD (T-lv (n::l)) false::evS T tr l else kL n ((evS T tr l).take n.c.toNat)::(evS T tr l).drop n.c.toNat
theorem aZ2 {T:Nat}{tr:List Bool}: ∀(l:List Nd) (m:Nat) (r:List Nd),(∀n∈l,dK n=true)→skip m l=some r→evS T tr r=(evS T tr l).drop m
 |l,0,r,_,h=>by grind[gW]
 |[],m+1,r,_,h=>by cases h
 |n::l,m+1,r,hn,h=>by
  have h':skip (m+n.c.toNat) l=some r:=h;rw[aZ2 l _ r (fun x hx=>hn x (H2 _ hx)) h',evS];obtain⟨c1,U,J,I⟩:=fM (hn n H9);grind[List.drop_drop,Nat.add_comm]
theorem aS5 {T:Nat}{tr:List Bool}: ∀(l:List Nd) (m:Nat),(∀n∈l,dK n=true)→skip m l=some []→(evS T tr l).length=m
 |[],0,_,_=>rfl
 |[],m+1,_,h=>by cases h
 |n::l,0,_,h=>by grind[gW]
 |n::l,m+1,hn,h=>by
  have h':skip (m+n.c.toNat) l=some []:=h;have J:=aS5 (T:=T) (tr:=tr) l _ (fun x hx=>hn x (H2 _ hx)) h';obtain⟨c1,c2,U,I⟩:=fM (hn n H9);grind[evS,List.length_cons,List.length_drop]
def eV (l:List Nd)(tr:List Bool):Bool:=eJ l&&(evS (lv l) tr l).headD false
def dZ (l:List Nd)(tr:List Bool)(i:Nat):Bool:=(evS (lv l) tr (l.drop i)).headD false
theorem uI (l:List Nd)(i:Nat):lv (l.take i)+lv (l.drop i)=lv l:=by rw[←wV,K9]
variable {tr:List Bool}
theorem oU (hi:i<l.length)(I:l[i].k=1):dZ l tr i=tr.getD (lv (l.take i)) false:=by
 have J:=uI l i;unfold dZ;rw[F5 hi]at J⊢;rw[evS,B1 I];grind
theorem aL5 (I:IsTree l)(hi:i<l.length)(J:k<l[i].c.toNat):
  dZ l tr (cF l k (i+1))=(evS (lv l) tr (l.drop (i+1))).getD k false:=by
 have key: ∀k,k≤l[i].c.toNat→skip k (l.drop (i+1))=some (l.drop (cF l k (i+1))):=by
  intro k;induction k with
  |zero=>intro _;rw[gW];rfl
  |succ k U=>
   grind[nR,dB,gL,jC]
 unfold dZ;rw[aZ2 _ _ _ (fun n hn=>I.node n (H8 hn)) (key k (by omega))];simp_all
theorem yN (hi:i<l.length)(I:l[i].k≠1):dZ l tr i=kL l[i] ((evS (lv l) tr (l.drop (i+1))).take l[i].c.toNat):=by
 unfold dZ;rw[F5 hi,evS,A7 I];rfl
theorem uJ (I:IsTree l)(hi:i<l.length):l[i].c.toNat≤(evS (lv l) tr (l.drop (i+1))).length:=by
 obtain⟨k,U⟩:=wW l 1 I.skip I.node i hi;rw[F5 hi]at U;have J:skip (k+l[i].c.toNat) (l.drop (i+1))=some []:=U;rw[aS5 _ _ (fun n hn=>I.node n (H8 hn)) J];omega
structure Sp where
 h:Bool
 d:List Dig
 m:Int
def Sp.cv (x:Sp):CV:= .agg [.bool x.h,.slc (x.d.map dg),.int .i64 x.m]
theorem Sp.cells (x:Sp):x.cv.cells=3:=by simp[Sp.cv,CV.cells,CV.cellsL,dg_cells,aN]
theorem Sp.denil (x:Sp):x.cv.denil=x.cv:=by simp only[Sp.cv,CV.denil,CV.denilL,dg_denil,fK,denilL_str,denilL_dg]
theorem denilL_Sp (l:List Sp):CV.denilL (l.map Sp.cv)=l.map Sp.cv:=bZ Sp.denil l
theorem Sp.isAgg (x:Sp):x.cv.isAgg=true:=rfl
theorem Sp.getAll (x:Sp):CV.getAt 0 3 true x.cv=some x.cv:=by
 have:=Sp.cells x;simp only[Sp.cv,CV.cells]at this;simp only[Sp.cv,CV.getAt,this,I4,G4]
theorem Sp.setAll (x:Sp)(y:HV):CV.setAt 0 3 y x.cv=some y:=by
 have:=Sp.cells x;simp only[Sp.cv,CV.cells]at this;simp only[Sp.cv,CV.setAt,this,I4,G4]
theorem Sp.fold (h:Bool)(d:List Dig)(m:Int):CV.agg [.bool h,.slc (d.map dg),.int .i64 m]=Sp.cv ⟨h,d,m⟩:=rfl
theorem Sp.get_h (x:Sp):CV.getAt 0 1 false x.cv=some (.bool x.h):=by simp[Sp.cv,CV.getAt,CV.getAtL,CV.cells,CV.cellsL,dg_cells,aN]
theorem Sp.set_h (x:Sp)(y:HV):CV.setAt 0 1 y x.cv=some (.agg [y,.c (.slc (x.d.map dg)),.c (.int .i64 x.m)]):=by simp[Sp.cv,CV.setAt,CV.setAtL,CV.cells,CV.cellsL,dg_cells,aN]
theorem Sp.get_d (x:Sp):CV.getAt 1 1 false x.cv=some (.slc (x.d.map dg)):=by simp[Sp.cv,CV.getAt,CV.getAtL,CV.cells,CV.cellsL,dg_cells,aN]
theorem Sp.set_d (x:Sp)(y:HV):CV.setAt 1 1 y x.cv=some (.agg [.c (.bool x.h),y,.c (.int .i64 x.m)]):=by simp[Sp.cv,CV.setAt,CV.setAtL,CV.cells,CV.cellsL,dg_cells,aN]
theorem Sp.get_m (x:Sp):CV.getAt 2 1 false x.cv=some (.int .i64 x.m):=by simp[Sp.cv,CV.getAt,CV.getAtL,CV.cells,CV.cellsL,dg_cells,aN]
theorem Sp.set_m (x:Sp)(y:HV):CV.setAt 2 1 y x.cv=some (.agg [.c (.bool x.h),.c (.slc (x.d.map dg)),y]):=by simp[Sp.cv,CV.setAt,CV.setAtL,CV.cells,CV.cellsL,dg_cells,aN]
structure Ln where
 k:Int
 n:Int
 d:List Dig
 f:List Int
def Ln.cv (x:Ln):CV:= .agg [.int .i64 x.k,.int .i64 x.n,.slc (x.d.map dg),.slc (x.f.map (CV.int .i64))]
theorem Ln.cells (x:Ln):x.cv.cells=4:=by simp[Ln.cv,CV.cells,CV.cellsL,dg_cells,aN]
theorem Ln.denil (x:Ln):x.cv.denil=x.cv:=by simp only[Ln.cv,CV.denil,CV.denilL,dg_denil,fK,denilL_str,denilL_dg,denilL_int]
theorem denilL_Ln (l:List Ln):CV.denilL (l.map Ln.cv)=l.map Ln.cv:=bZ Ln.denil l
theorem Ln.isAgg (x:Ln):x.cv.isAgg=true:=rfl
theorem Ln.getAll (x:Ln):CV.getAt 0 4 true x.cv=some x.cv:=by
 have:=Ln.cells x;simp only[Ln.cv,CV.cells]at this;simp only[Ln.cv,CV.getAt,this,I4,G4]
theorem Ln.setAll (x:Ln)(y:HV):CV.setAt 0 4 y x.cv=some y:=by
 have:=Ln.cells x;simp only[Ln.cv,CV.cells]at this;simp only[Ln.cv,CV.setAt,this,I4,G4]
theorem Ln.fold (k:Int)(n:Int)(d:List Dig)(f:List Int):CV.agg [.int .i64 k,.int .i64 n,.slc (d.map dg),.slc (f.map (CV.int .i64))]=Ln.cv ⟨k,n,d,f⟩:=rfl
theorem Ln.get_k (x:Ln):CV.getAt 0 1 false x.cv=some (.int .i64 x.k):=by simp[Ln.cv,CV.getAt,CV.getAtL,CV.cells,CV.cellsL,dg_cells,aN]
theorem Ln.set_k (x:Ln)(y:HV):CV.setAt 0 1 y x.cv=some (.agg [y,.c (.int .i64 x.n),.c (.slc (x.d.map dg)),.c (.slc (x.f.map (CV.int .i64)))]):=by simp[Ln.cv,CV.setAt,CV.setAtL,CV.cells,CV.cellsL,dg_cells,aN]
theorem Ln.get_n (x:Ln):CV.getAt 1 1 false x.cv=some (.int .i64 x.n):=by simp[Ln.cv,CV.getAt,CV.getAtL,CV.cells,CV.cellsL,dg_cells,aN]
theorem Ln.set_n (x:Ln)(y:HV):CV.setAt 1 1 y x.cv=some (.agg [.c (.int .i64 x.k),y,.c (.slc (x.d.map dg)),.c (.slc (x.f.map (CV.int .i64)))]):=by simp[Ln.cv,CV.setAt,CV.setAtL,CV.cells,CV.cellsL,dg_cells,aN]
theorem Ln.get_d (x:Ln):CV.getAt 2 1 false x.cv=some (.slc (x.d.map dg)):=by simp[Ln.cv,CV.getAt,CV.getAtL,CV.cells,CV.cellsL,dg_cells,aN]
theorem Ln.set_d (x:Ln)(y:HV):CV.setAt 2 1 y x.cv=some (.agg [.c (.int .i64 x.k),.c (.int .i64 x.n),y,.c (.slc (x.f.map (CV.int .i64)))]):=by simp[Ln.cv,CV.setAt,CV.setAtL,CV.cells,CV.cellsL,dg_cells,aN]
theorem Ln.get_f (x:Ln):CV.getAt 3 1 false x.cv=some (.slc (x.f.map (CV.int .i64))):=by simp[Ln.cv,CV.getAt,CV.getAtL,CV.cells,CV.cellsL,dg_cells,aN]
theorem Ln.set_f (x:Ln)(y:HV):CV.setAt 3 1 y x.cv=some (.agg [.c (.int .i64 x.k),.c (.int .i64 x.n),.c (.slc (x.d.map dg)),y]):=by simp[Ln.cv,CV.setAt,CV.setAtL,CV.cells,CV.cellsL,dg_cells,aN]
structure Og where
 v:Dig
 l:aK
 r:aK
def Og.cv (x:Og):CV:= .agg [dg x.v,.str x.l,.str x.r]
theorem Og.cells (x:Og):x.cv.cells=34:=by simp[Og.cv,CV.cells,CV.cellsL,dg_cells,aN]
theorem Og.denil (x:Og):x.cv.denil=x.cv:=by simp only[Og.cv,CV.denil,CV.denilL,dg_denil,fK,denilL_str,denilL_dg]
theorem denilL_Og (l:List Og):CV.denilL (l.map Og.cv)=l.map Og.cv:=bZ Og.denil l
theorem Og.isAgg (x:Og):x.cv.isAgg=true:=rfl
theorem Og.getAll (x:Og):CV.getAt 0 34 true x.cv=some x.cv:=by
 have:=Og.cells x;simp only[Og.cv,CV.cells]at this;simp only[Og.cv,CV.getAt,this,I4,G4]
theorem Og.setAll (x:Og)(y:HV):CV.setAt 0 34 y x.cv=some y:=by
 have:=Og.cells x;simp only[Og.cv,CV.cells]at this;simp only[Og.cv,CV.setAt,this,I4,G4]
theorem Og.fold (v:Dig)(l:aK)(r:aK):CV.agg [dg v,.str l,.str r]=Og.cv ⟨v,l,r⟩:=rfl
theorem Og.get_v (x:Og):CV.getAt 0 32 true x.cv=some (dg x.v):=by simp[Og.cv,CV.getAt,CV.getAtL,CV.cells,CV.cellsL,dg_cells,aN,dg_getAt]
theorem Og.set_v (x:Og)(y:HV):CV.setAt 0 32 y x.cv=some (.agg [y,.c (.str x.l),.c (.str x.r)]):=by simp[Og.cv,CV.setAt,CV.setAtL,CV.cells,CV.cellsL,dg_cells,aN,dg_setAt]
theorem Og.get_l (x:Og):CV.getAt 32 1 false x.cv=some (.str x.l):=by simp[Og.cv,CV.getAt,CV.getAtL,CV.cells,CV.cellsL,dg_cells,aN]
theorem Og.set_l (x:Og)(y:HV):CV.setAt 32 1 y x.cv=some (.agg [.c (dg x.v),y,.c (.str x.r)]):=by simp[Og.cv,CV.setAt,CV.setAtL,CV.cells,CV.cellsL,dg_cells,aN]
theorem Og.get_r (x:Og):CV.getAt 33 1 false x.cv=some (.str x.r):=by simp[Og.cv,CV.getAt,CV.getAtL,CV.cells,CV.cellsL,dg_cells,aN]
theorem Og.set_r (x:Og)(y:HV):CV.setAt 33 1 y x.cv=some (.agg [.c (dg x.v),.c (.str x.l),y]):=by simp[Og.cv,CV.setAt,CV.setAtL,CV.cells,CV.cellsL,dg_cells,aN]
structure Qs where
 n:aK
 i:aK
 a:Dig
def Qs.cv (x:Qs):CV:= .agg [.str x.n,.str x.i,dg x.a]
theorem Qs.cells (x:Qs):x.cv.cells=34:=by simp[Qs.cv,CV.cells,CV.cellsL,dg_cells,aN]
theorem Qs.denil (x:Qs):x.cv.denil=x.cv:=by simp only[Qs.cv,CV.denil,CV.denilL,dg_denil,fK,denilL_str,denilL_dg]
theorem denilL_Qs (l:List Qs):CV.denilL (l.map Qs.cv)=l.map Qs.cv:=bZ Qs.denil l
theorem Qs.isAgg (x:Qs):x.cv.isAgg=true:=rfl
theorem Qs.getAll (x:Qs):CV.getAt 0 34 true x.cv=some x.cv:=by
 have:=Qs.cells x;simp only[Qs.cv,CV.cells]at this;simp only[Qs.cv,CV.getAt,this,I4,G4]
theorem Qs.setAll (x:Qs)(y:HV):CV.setAt 0 34 y x.cv=some y:=by
 have:=Qs.cells x;simp only[Qs.cv,CV.cells]at this;simp only[Qs.cv,CV.setAt,this,I4,G4]
theorem Qs.fold (n:aK)(i:aK)(a:Dig):CV.agg [.str n,.str i,dg a]=Qs.cv ⟨n,i,a⟩:=rfl
theorem Qs.get_n (x:Qs):CV.getAt 0 1 false x.cv=some (.str x.n):=by simp[Qs.cv,CV.getAt,CV.getAtL,CV.cells,CV.cellsL,dg_cells,aN]
theorem Qs.set_n (x:Qs)(y:HV):CV.setAt 0 1 y x.cv=some (.agg [y,.c (.str x.i),.c (dg x.a)]):=by simp[Qs.cv,CV.setAt,CV.setAtL,CV.cells,CV.cellsL,dg_cells,aN]
theorem Qs.get_i (x:Qs):CV.getAt 1 1 false x.cv=some (.str x.i):=by simp[Qs.cv,CV.getAt,CV.getAtL,CV.cells,CV.cellsL,dg_cells,aN]
theorem Qs.set_i (x:Qs)(y:HV):CV.setAt 1 1 y x.cv=some (.agg [.c (.str x.n),y,.c (dg x.a)]):=by simp[Qs.cv,CV.setAt,CV.setAtL,CV.cells,CV.cellsL,dg_cells,aN]
theorem Qs.get_a (x:Qs):CV.getAt 2 32 true x.cv=some (dg x.a):=by simp[Qs.cv,CV.getAt,CV.getAtL,CV.cells,CV.cellsL,dg_cells,aN,dg_getAt]
theorem Qs.set_a (x:Qs)(y:HV):CV.setAt 2 32 y x.cv=some (.agg [.c (.str x.n),.c (.str x.i),y]):=by simp[Qs.cv,CV.setAt,CV.setAtL,CV.cells,CV.cellsL,dg_cells,aN,dg_setAt]
structure Dv where
 q:Qs
 t:Int
 p:Dig
 r:Int
 o:Og
 l:List Ln
def Dv.cv (x:Dv):CV:= .agg [x.q.cv,.int .i64 x.t,dg x.p,.int .i64 x.r,x.o.cv,.slc (x.l.map Ln.cv)]
theorem Dv.cells (x:Dv):x.cv.cells=103:=by simp[Dv.cv,CV.cells,CV.cellsL,dg_cells,aN,Qs.cells,Og.cells]
theorem Dv.denil (x:Dv):x.cv.denil=x.cv:=by simp only[Dv.cv,CV.denil,CV.denilL,dg_denil,fK,denilL_str,denilL_dg,Qs.denil,Og.denil,denilL_Ln]
theorem denilL_Dv (l:List Dv):CV.denilL (l.map Dv.cv)=l.map Dv.cv:=bZ Dv.denil l
theorem Dv.isAgg (x:Dv):x.cv.isAgg=true:=rfl
theorem Dv.getAll (x:Dv):CV.getAt 0 103 true x.cv=some x.cv:=by
 have:=Dv.cells x;simp only[Dv.cv,CV.cells]at this;simp only[Dv.cv,CV.getAt,this,I4,G4]
theorem Dv.setAll (x:Dv)(y:HV):CV.setAt 0 103 y x.cv=some y:=by
 have:=Dv.cells x;simp only[Dv.cv,CV.cells]at this;simp only[Dv.cv,CV.setAt,this,I4,G4]
theorem Dv.fold (q:Qs)(t:Int)(p:Dig)(r:Int)(o:Og)(l:List Ln):CV.agg [q.cv,.int .i64 t,dg p,.int .i64 r,o.cv,.slc (l.map Ln.cv)]=Dv.cv ⟨q,t,p,r,o,l⟩:=rfl
theorem Dv.get_q (x:Dv):CV.getAt 0 34 true x.cv=some (x.q.cv):=by simp[Dv.cv,CV.getAt,CV.getAtL,CV.cells,CV.cellsL,dg_cells,aN,Qs.cells,Og.cells,Qs.getAll]
theorem Dv.set_q (x:Dv)(y:HV):CV.setAt 0 34 y x.cv=some (.agg [y,.c (.int .i64 x.t),.c (dg x.p),.c (.int .i64 x.r),.c (x.o.cv),.c (.slc (x.l.map Ln.cv))]):=by simp[Dv.cv,CV.setAt,CV.setAtL,CV.cells,CV.cellsL,dg_cells,aN,Qs.cells,Og.cells,Qs.setAll]
theorem Dv.get_t (x:Dv):CV.getAt 34 1 false x.cv=some (.int .i64 x.t):=by simp[Dv.cv,CV.getAt,CV.getAtL,CV.cells,CV.cellsL,dg_cells,aN,Qs.cells,Og.cells]
theorem Dv.set_t (x:Dv)(y:HV):CV.setAt 34 1 y x.cv=some (.agg [.c (x.q.cv),y,.c (dg x.p),.c (.int .i64 x.r),.c (x.o.cv),.c (.slc (x.l.map Ln.cv))]):=by simp[Dv.cv,CV.setAt,CV.setAtL,CV.cells,CV.cellsL,dg_cells,aN,Qs.cells,Og.cells]
theorem Dv.get_p (x:Dv):CV.getAt 35 32 true x.cv=some (dg x.p):=by simp[Dv.cv,CV.getAt,CV.getAtL,CV.cells,CV.cellsL,dg_cells,aN,Qs.cells,Og.cells,dg_getAt]
theorem Dv.set_p (x:Dv)(y:HV):CV.setAt 35 32 y x.cv=some (.agg [.c (x.q.cv),.c (.int .i64 x.t),y,.c (.int .i64 x.r),.c (x.o.cv),.c (.slc (x.l.map Ln.cv))]):=by simp[Dv.cv,CV.setAt,CV.setAtL,CV.cells,CV.cellsL,dg_cells,aN,Qs.cells,Og.cells,dg_setAt]
theorem Dv.get_r (x:Dv):CV.getAt 67 1 false x.cv=some (.int .i64 x.r):=by simp[Dv.cv,CV.getAt,CV.getAtL,CV.cells,CV.cellsL,dg_cells,aN,Qs.cells,Og.cells]
theorem Dv.set_r (x:Dv)(y:HV):CV.setAt 67 1 y x.cv=some (.agg [.c (x.q.cv),.c (.int .i64 x.t),.c (dg x.p),y,.c (x.o.cv),.c (.slc (x.l.map Ln.cv))]):=by simp[Dv.cv,CV.setAt,CV.setAtL,CV.cells,CV.cellsL,dg_cells,aN,Qs.cells,Og.cells]
theorem Dv.get_o (x:Dv):CV.getAt 68 34 true x.cv=some (x.o.cv):=by simp[Dv.cv,CV.getAt,CV.getAtL,CV.cells,CV.cellsL,dg_cells,aN,Qs.cells,Og.cells,Og.getAll]
theorem Dv.set_o (x:Dv)(y:HV):CV.setAt 68 34 y x.cv=some (.agg [.c (x.q.cv),.c (.int .i64 x.t),.c (dg x.p),.c (.int .i64 x.r),y,.c (.slc (x.l.map Ln.cv))]):=by simp[Dv.cv,CV.setAt,CV.setAtL,CV.cells,CV.cellsL,dg_cells,aN,Qs.cells,Og.cells,Og.setAll]
theorem Dv.get_l (x:Dv):CV.getAt 102 1 false x.cv=some (.slc (x.l.map Ln.cv)):=by simp[Dv.cv,CV.getAt,CV.getAtL,CV.cells,CV.cellsL,dg_cells,aN,Qs.cells,Og.cells]
theorem Dv.set_l (x:Dv)(y:HV):CV.setAt 102 1 y x.cv=some (.agg [.c (x.q.cv),.c (.int .i64 x.t),.c (dg x.p),.c (.int .i64 x.r),.c (x.o.cv),y]):=by simp[Dv.cv,CV.setAt,CV.setAtL,CV.cells,CV.cellsL,dg_cells,aN,Qs.cells,Og.cells]
def sp0 :Sp:=⟨false,[],0⟩
def cJ (S:List Sp):List Bool:=S.map Sp.h
theorem aZ3 (S:List Sp)(k:Nat):(cJ S).getD k false=(S.getD k sp0).h:=by
 unfold cJ;rcases H4 k S.length with h|h
 · simp[B4,h]
 · simp[B4,h,sp0]
def wantN (n:Nd):Nat:=if n.k=2 then n.c.toNat else if n.k=3 then 1 else n.n.toNat
def eW (n:Nd):Int:=if n.k=2 then 2 else if n.k=3 then 3 else 4
def lD (l:List Nd)(S:List Sp)(i:Nat):Ln:=⟨1,i,(S.getD (lv (l.take i)) sp0).d,[]⟩
def pJ (P:Nat→List Ln→List Ln)(v:Nat→Bool)(w:Nat)(st:List Ln×List Int)(j:Nat):List Ln×List Int:=
 if st.2.length<w∧v j=true then(P j st.1,st.2++[((P j st.1).length:Int)-1])else st
def prv (l:List Nd)(S:List Sp):Nat→Nat→List Ln→List Ln
 |0,_,out=>out
 |f+1,i,out=>
  if(l.getD i nd0).k=1 then out++[lD l S i]
  else
   let st:=(aS4 l i).foldl (pJ (prv l S f) (dZ l (cJ S)) (wantN (l.getD i nd0))) (out,[])
   st.1++[⟨eW (l.getD i nd0),i,[],st.2⟩]
def jM (l:List Nd)(S:List Sp)(f i j:Nat)(out:List Ln):List Ln×List Int:=
 (dL l j (i+1)).foldl (pJ (prv l S f) (dZ l (cJ S)) (wantN (l.getD i nd0))) (out,[])
theorem nS (l:List Nd)(S:List Sp)(f i:Nat)(out:List Ln):jM l S f i 0 out=(out,[]):=rfl
theorem fI (l:List Nd)(S:List Sp)(f i j:Nat)(out:List Ln):jM l S f i (j+1) out=pJ (prv l S f) (dZ l (cJ S)) (wantN (l.getD i nd0)) (jM l S f i j out) (cF l j (i+1)):=by
 unfold jM;rw[iJ,List.foldl_append];rfl
variable {out:List Ln}{S:List Sp}
theorem lX {f:Nat}(h:(l.getD i nd0).k=1):prv l S (f+1) i out=out++[lD l S i]:=by
 rw[prv,B1 h]
theorem nT {f:Nat}(h:(l.getD i nd0).k≠1):prv l S (f+1) i out=(jM l S f i (l.getD i nd0).c.toNat out).1++[⟨eW (l.getD i nd0),i,[],(jM l S f i (l.getD i nd0).c.toNat out).2⟩]:=by
 rw[prv,A7 h];rfl
def bI8 (l:List Nd)(S:List Sp)(i j:Nat):Nat:=cnt ((dL l j (i+1)).map (dZ l (cJ S)))
theorem bV7 (l:List Nd)(S:List Sp)(i j:Nat):bI8 l S i (j+1)=bI8 l S i j+(if dZ l (cJ S) (cF l j (i+1))then 1 else 0):=by
 unfold bI8;rw[iJ,C5,bI6];congr 1;simp only[B8,F2,cnt,List.filter,id];split<;>simp_all
theorem uK (l:List Nd)(S:List Sp)(f i:Nat)(out:List Ln): ∀j,(jM l S f i j out).2.length=min (wantN (l.getD i nd0)) (bI8 l S i j)
 |0=>by simp[jM,dL,bI8,cnt]
 |j+1=>by
  rw[fI,bV7,pJ];have:=uK l S f i out j;split
  · rename_i h;simp only[A3,A8,C0,h.2];grind
  · rename_i h;split<;>grind
theorem bI9 (I:IsTree l)(S:List Sp)(hi:i<l.length)(hk:l[i].k≠1):dZ l (cJ S) i=decide (wantN l[i]≤bI8 l S i l[i].c.toNat):=by
 have key: ∀j,j≤l[i].c.toNat→(dL l j (i+1)).map (dZ l (cJ S))=(evS (lv l) (cJ S) (l.drop (i+1))).take j:=by
  intro j;induction j with
  |zero=>intro _;rfl
  |succ j U=>
   intro hj;rw[iJ,C5,U (by omega)];simp only[B8,F2];rw[aL5 I hi (by omega)];have:=uJ I (tr:=cJ S) hi;rw[A5 (by omega),B4,A9 (by omega)];rfl
 have hl:=uJ I (tr:=cJ S) hi;rw[yN hi hk,bI8,key _ (E3 _),kL,wantN];have hlen:((evS (lv l) (cJ S) (l.drop (i+1))).take l[i].c.toNat).length=l[i].c.toNat:=by rw[E1];omega
 have J:=bI7 ((evS (lv l) (cJ S) (l.drop (i+1))).take l[i].c.toNat);rw[hlen]at J⊢;split
 · grind
 ·
  split
  · rfl
  ·
   have hn:=I.node _ (B5 hi);unfold dK inB at hn;have:1≤l[i].n:=by
    split at hn
    · grind
    ·
     split at hn
     · grind
     · split at hn<;>grind
   grind
theorem kP (J:IsTree l)(hi:i<l.length):cF l l[i].c.toNat (i+1)=aft l i:=by
 obtain⟨h1,I,h3⟩:=iK J hi l[i].c.toNat (E3 _);rw[U3,gW]at I;have U:=(gL J hi).2.1;have:=congrArg List.length (F6 I);simp only[G8]at this;omega
theorem uL (hi:i<l.length):l.getD i nd0=l[i]:=by simp[B4,hi]
theorem zM {l:List Nd}(I:IsTree l)(S:List Sp): ∀(f i:Nat) (out:List Ln),i<l.length→out.length≤(prv l S f i out).length∧(prv l S f i out).length≤out.length+(aft l i-i)
 |0,i,out,hi=>by simp only[prv];omega
 |f+1,i,out,hi=>by
  have ha:=gL I hi;rcases U4 ((l.getD i nd0).k=1)with h|h
  · rw[lX h];simp only[A3,A8,C0];omega
  ·
   rw[nT h];have key: ∀j,j≤l[i].c.toNat→out.length≤(jM l S f i j out).1.length∧(jM l S f i j out).1.length+(i+1)≤out.length+cF l j (i+1):=by
    intro j;induction j with
    |zero=>intro _;simp[jM,dL,cF]
    |succ j ih=>
     intro hj;have J:=ih (by omega);have U:=jC I hi (k:=j) (by omega);have h3:=zM I S f _ (jM l S f i j out).1 U;have h4:=gL I U;rw[fI,dB,pJ];split
     · simp only;omega
     · omega
   have J:=key l[i].c.toNat (E3 _);rw[kP I hi]at J;rw[uL hi];simp only[A3,A8,C0];omega
def qB (l:List Nd)(S:List Sp):List Ln:=prv l S l.length 0 []
def eL (l:List Nd)(S:List Sp):List Ln:=if eV l (cJ S)then qB l S++[⟨5,0,[],[((qB l S).length:Int)-1]⟩]else []
end Go.Pl
namespace Go.Proofs
namespace YthedbjfipmkpiaaGreatDoor
open Go Go.Hl Go.Pl
theorem ty1 :aP Tryz.prog 1=some ⟨1,8,.func,.nilf⟩:=by kernel_rfl
theorem ty2 :aP Tryz.prog 2=some ⟨1,8,.int .i64,.int .i64 0⟩:=by kernel_rfl
theorem ty3 :aP Tryz.prog 3=some ⟨1,8,.int .i64,.int .i64 0⟩:=by kernel_rfl
theorem ty4 :aP Tryz.prog 4=some ⟨1,1,.bool,.bool false⟩:=by kernel_rfl
theorem ty5 :aP Tryz.prog 5=some ⟨1,1,.int .u8,.int .u8 0⟩:=by kernel_rfl
theorem ty6 :aP Tryz.prog 6=some ⟨1,1,.int .u8,.int .u8 0⟩:=by kernel_rfl
theorem ty7 :aP Tryz.prog 7=some ⟨4,24,.struct [(0,2),(1,3),(2,4),(3,6)],.agg [.int .i64 0,.int .i64 0,.bool false,.int .u8 0]⟩:=by kernel_rfl
theorem ty8 :aP Tryz.prog 8=some ⟨4,24,.struct [(0,2),(1,3),(2,4),(3,6)],.agg [.int .i64 0,.int .i64 0,.bool false,.int .u8 0]⟩:=by kernel_rfl
theorem ty9 :aP Tryz.prog 9=some ⟨1,16,.string,.str []⟩:=by kernel_rfl
theorem ty10 :aP Tryz.prog 10=some ⟨1,16,.string,.str []⟩:=by kernel_rfl
theorem ty11 :aP Tryz.prog 11=some ⟨1,16,.string,.str []⟩:=by kernel_rfl
theorem ty12 :aP Tryz.prog 12=some ⟨1,8,.int .u64,.int .u64 0⟩:=by kernel_rfl
theorem ty13 :aP Tryz.prog 13=some ⟨2,24,.struct [(0,9),(1,12)],.agg [.str [],.int .u64 0]⟩:=by kernel_rfl
theorem ty14 :aP Tryz.prog 14=some ⟨2,24,.struct [(0,9),(1,12)],.agg [.str [],.int .u64 0]⟩:=by kernel_rfl
theorem ty15 :aP Tryz.prog 15=some ⟨1,8,.pointer 215,.nilp⟩:=by kernel_rfl
theorem ty16 :aP Tryz.prog 16=some ⟨1,8,.pointer 218,.nilp⟩:=by kernel_rfl
theorem ty17 :aP Tryz.prog 17=some ⟨1,8,.pointer 226,.nilp⟩:=by kernel_rfl
theorem ty18 :aP Tryz.prog 18=some ⟨1,8,.struct [(0,17)],.agg [.nilp]⟩:=by kernel_rfl
theorem ty19 :aP Tryz.prog 19=some ⟨1,8,.struct [(0,17)],.agg [.nilp]⟩:=by kernel_rfl
theorem ty20 :aP Tryz.prog 20=some ⟨1,16,.iface true,.nili⟩:=by kernel_rfl
theorem ty21 :aP Tryz.prog 21=some ⟨1,4,.int .i32,.int .i32 0⟩:=by kernel_rfl
theorem ty22 :aP Tryz.prog 22=some ⟨1,24,.slice 3,.nils⟩:=by kernel_rfl
theorem ty23 :aP Tryz.prog 23=some ⟨1,24,.slice 64,.nils⟩:=by kernel_rfl
theorem ty24 :aP Tryz.prog 24=some ⟨1,8,.pointer 76,.nilp⟩:=by kernel_rfl
theorem ty25 :aP Tryz.prog 25=some ⟨1,8,.func,.nilf⟩:=by kernel_rfl
theorem ty26 :aP Tryz.prog 26=some ⟨1,24,.slice 89,.nils⟩:=by kernel_rfl
theorem ty27 :aP Tryz.prog 27=some ⟨1,8,.func,.nilf⟩:=by kernel_rfl
theorem ty28 :aP Tryz.prog 28=some ⟨1,8,.func,.nilf⟩:=by kernel_rfl
theorem ty29 :aP Tryz.prog 29=some ⟨1,8,.func,.nilf⟩:=by kernel_rfl
theorem ty30 :aP Tryz.prog 30=some ⟨1,24,.slice 41,.nils⟩:=by kernel_rfl
theorem ty32 :aP Tryz.prog 32=some ⟨1,8,.func,.nilf⟩:=by kernel_rfl
theorem ty33 :aP Tryz.prog 33=some ⟨1,8,.func,.nilf⟩:=by kernel_rfl
theorem ty34 :aP Tryz.prog 34=some ⟨1,8,.func,.nilf⟩:=by kernel_rfl
theorem ty35 :aP Tryz.prog 35=some ⟨1,8,.func,.nilf⟩:=by kernel_rfl
theorem ty36 :aP Tryz.prog 36=some ⟨1,8,.func,.nilf⟩:=by kernel_rfl
theorem ty37 :aP Tryz.prog 37=some ⟨1,24,.slice 4,.nils⟩:=by kernel_rfl
theorem ty38 :aP Tryz.prog 38=some ⟨1,8,.func,.nilf⟩:=by kernel_rfl
theorem ty39 :aP Tryz.prog 39=some ⟨1,24,.slice 44,.nils⟩:=by kernel_rfl
theorem ty40 :aP Tryz.prog 40=some ⟨4,64,.struct [(0,3),(1,3),(2,39),(3,22)],.agg [.int .i64 0,.int .i64 0,.nils,.nils]⟩:=by kernel_rfl
theorem ty41 :aP Tryz.prog 41=some ⟨4,64,.struct [(0,3),(1,3),(2,39),(3,22)],.agg [.int .i64 0,.int .i64 0,.nils,.nils]⟩:=by kernel_rfl
theorem ty42 :aP Tryz.prog 42=some ⟨1,8,.func,.nilf⟩:=by kernel_rfl
theorem ty43 :aP Tryz.prog 43=some ⟨32,32,.array 32 5,zd⟩:=by kernel_rfl
theorem ty44 :aP Tryz.prog 44=some ⟨32,32,.array 32 5,zd⟩:=by kernel_rfl
theorem ty45 :aP Tryz.prog 45=some ⟨34,64,.struct [(0,9),(1,9),(2,44)],.agg [.str [],.str [],zd]⟩:=by kernel_rfl
theorem ty46 :aP Tryz.prog 46=some ⟨34,64,.struct [(0,9),(1,9),(2,44)],.agg [.str [],.str [],zd]⟩:=by kernel_rfl
theorem ty47 :aP Tryz.prog 47=some ⟨34,64,.struct [(0,44),(32,9),(33,9)],.agg [zd,.str [],.str []]⟩:=by kernel_rfl
theorem ty48 :aP Tryz.prog 48=some ⟨34,64,.struct [(0,44),(32,9),(33,9)],.agg [zd,.str [],.str []]⟩:=by kernel_rfl
theorem ty49 :aP Tryz.prog 49=some ⟨103,200,.struct [(0,46),(34,2),(35,44),(67,3),(68,48),(102,30)],.agg [.agg [.str [],.str [],zd],.int .i64 0,zd,.int .i64 0,.agg [zd,.str [],.str []],.nils]⟩:=by kernel_rfl
theorem ty50 :aP Tryz.prog 50=some ⟨103,200,.struct [(0,46),(34,2),(35,44),(67,3),(68,48),(102,30)],.agg [.agg [.str [],.str [],zd],.int .i64 0,zd,.int .i64 0,.agg [zd,.str [],.str []],.nils]⟩:=by kernel_rfl
theorem ty51 :aP Tryz.prog 51=some ⟨1,8,.func,.nilf⟩:=by kernel_rfl
theorem ty52 :aP Tryz.prog 52=some ⟨1,24,.slice 5,.nils⟩:=by kernel_rfl
theorem ty53 :aP Tryz.prog 53=some ⟨1,8,.int .i64,.int .i64 0⟩:=by kernel_rfl
theorem ty55 :aP Tryz.prog 55=some ⟨1,8,.func,.nilf⟩:=by kernel_rfl
theorem ty56 :aP Tryz.prog 56=some ⟨1,8,.func,.nilf⟩:=by kernel_rfl
theorem ty57 :aP Tryz.prog 57=some ⟨1,8,.func,.nilf⟩:=by kernel_rfl
theorem ty58 :aP Tryz.prog 58=some ⟨1,8,.func,.nilf⟩:=by kernel_rfl
theorem ty60 :aP Tryz.prog 60=some ⟨1,8,.func,.nilf⟩:=by kernel_rfl
theorem ty61 :aP Tryz.prog 61=some ⟨1,8,.func,.nilf⟩:=by kernel_rfl
theorem ty62 :aP Tryz.prog 62=some ⟨1,8,.func,.nilf⟩:=by kernel_rfl
theorem ty63 :aP Tryz.prog 63=some ⟨3,40,.struct [(0,4),(1,39),(2,3)],.agg [.bool false,.nils,.int .i64 0]⟩:=by kernel_rfl
theorem ty64 :aP Tryz.prog 64=some ⟨3,40,.struct [(0,4),(1,39),(2,3)],.agg [.bool false,.nils,.int .i64 0]⟩:=by kernel_rfl
theorem ty65 :aP Tryz.prog 65=some ⟨1,8,.func,.nilf⟩:=by kernel_rfl
theorem ty66 :aP Tryz.prog 66=some ⟨1,8,.func,.nilf⟩:=by kernel_rfl
theorem ty67 :aP Tryz.prog 67=some ⟨1,24,.slice 71,.nils⟩:=by kernel_rfl
theorem ty69 :aP Tryz.prog 69=some ⟨1,8,.func,.nilf⟩:=by kernel_rfl
theorem ty70 :aP Tryz.prog 70=some ⟨1,8,.func,.nilf⟩:=by kernel_rfl
theorem ty71 :aP Tryz.prog 71=some ⟨1,24,.slice 9,.nils⟩:=by kernel_rfl
theorem ty72 :aP Tryz.prog 72=some ⟨1,8,.int .u64,.int .u64 0⟩:=by kernel_rfl
theorem ty73 :aP Tryz.prog 73=some ⟨1,8,.func,.nilf⟩:=by kernel_rfl
theorem ty74 :aP Tryz.prog 74=some ⟨1,8,.func,.nilf⟩:=by kernel_rfl
theorem ty75 :aP Tryz.prog 75=some ⟨2,32,.struct [(0,22),(1,3)],.agg [.nils,.int .i64 0]⟩:=by kernel_rfl
theorem ty76 :aP Tryz.prog 76=some ⟨2,32,.struct [(0,22),(1,3)],.agg [.nils,.int .i64 0]⟩:=by kernel_rfl
theorem ty77 :aP Tryz.prog 77=some ⟨1,8,.func,.nilf⟩:=by kernel_rfl
theorem ty78 :aP Tryz.prog 78=some ⟨1,8,.pointer 80,.nilp⟩:=by kernel_rfl
theorem ty79 :aP Tryz.prog 79=some ⟨4,96,.struct [(0,26),(1,22),(2,23),(3,30)],.agg [.nils,.nils,.nils,.nils]⟩:=by kernel_rfl
theorem ty80 :aP Tryz.prog 80=some ⟨4,96,.struct [(0,26),(1,22),(2,23),(3,30)],.agg [.nils,.nils,.nils,.nils]⟩:=by kernel_rfl
theorem ty82 :aP Tryz.prog 82=some ⟨1,8,.func,.nilf⟩:=by kernel_rfl
theorem ty83 :aP Tryz.prog 83=some ⟨1,8,.func,.nilf⟩:=by kernel_rfl
theorem ty84 :aP Tryz.prog 84=some ⟨1,8,.func,.nilf⟩:=by kernel_rfl
theorem ty85 :aP Tryz.prog 85=some ⟨1,8,.func,.nilf⟩:=by kernel_rfl
theorem ty86 :aP Tryz.prog 86=some ⟨4,40,.struct [(0,3),(1,2),(2,2),(3,9)],.agg [.int .i64 0,.int .i64 0,.int .i64 0,.str []]⟩:=by kernel_rfl
theorem ty87 :aP Tryz.prog 87=some ⟨4,40,.struct [(0,3),(1,2),(2,2),(3,9)],.agg [.int .i64 0,.int .i64 0,.int .i64 0,.str []]⟩:=by kernel_rfl
theorem ty88 :aP Tryz.prog 88=some ⟨7,64,.struct [(0,3),(1,3),(2,3),(3,87)],.agg [.int .i64 0,.int .i64 0,.int .i64 0,.agg [.int .i64 0,.int .i64 0,.int .i64 0,.str []]]⟩:=by kernel_rfl
theorem ty89 :aP Tryz.prog 89=some ⟨7,64,.struct [(0,3),(1,3),(2,3),(3,87)],.agg [.int .i64 0,.int .i64 0,.int .i64 0,.agg [.int .i64 0,.int .i64 0,.int .i64 0,.str []]]⟩:=by kernel_rfl
theorem ty90 :aP Tryz.prog 90=some ⟨1,8,.func,.nilf⟩:=by kernel_rfl
theorem ty91 :aP Tryz.prog 91=some ⟨1,8,.func,.nilf⟩:=by kernel_rfl
theorem ty92 :aP Tryz.prog 92=some ⟨1,8,.func,.nilf⟩:=by kernel_rfl
theorem ty93 :aP Tryz.prog 93=some ⟨1,8,.func,.nilf⟩:=by kernel_rfl
theorem ty95 :aP Tryz.prog 95=some ⟨1,8,.func,.nilf⟩:=by kernel_rfl
theorem ty96 :aP Tryz.prog 96=some ⟨1,8,.func,.nilf⟩:=by kernel_rfl
theorem ty97 :aP Tryz.prog 97=some ⟨1,8,.func,.nilf⟩:=by kernel_rfl
theorem ty99 :aP Tryz.prog 99=some ⟨1,8,.func,.nilf⟩:=by kernel_rfl
theorem ty100 :aP Tryz.prog 100=some ⟨1,8,.func,.nilf⟩:=by kernel_rfl
theorem ty101 :aP Tryz.prog 101=some ⟨1,8,.func,.nilf⟩:=by kernel_rfl
theorem ty102 :aP Tryz.prog 102=some ⟨1,8,.func,.nilf⟩:=by kernel_rfl
theorem ty103 :aP Tryz.prog 103=some ⟨1,8,.func,.nilf⟩:=by kernel_rfl
theorem ty104 :aP Tryz.prog 104=some ⟨1,8,.func,.nilf⟩:=by kernel_rfl
theorem ty105 :aP Tryz.prog 105=some ⟨1,8,.func,.nilf⟩:=by kernel_rfl
theorem ty106 :aP Tryz.prog 106=some ⟨1,8,.func,.nilf⟩:=by kernel_rfl
theorem ty107 :aP Tryz.prog 107=some ⟨1,8,.func,.nilf⟩:=by kernel_rfl
theorem ty108 :aP Tryz.prog 108=some ⟨1,8,.func,.nilf⟩:=by kernel_rfl
theorem ty109 :aP Tryz.prog 109=some ⟨1,8,.func,.nilf⟩:=by kernel_rfl
theorem ty111 :aP Tryz.prog 111=some ⟨1,8,.func,.nilf⟩:=by kernel_rfl
theorem ty112 :aP Tryz.prog 112=some ⟨1,8,.func,.nilf⟩:=by kernel_rfl
theorem ty113 :aP Tryz.prog 113=some ⟨1,8,.func,.nilf⟩:=by kernel_rfl
theorem ty114 :aP Tryz.prog 114=some ⟨1,8,.func,.nilf⟩:=by kernel_rfl
theorem ty115 :aP Tryz.prog 115=some ⟨1,8,.func,.nilf⟩:=by kernel_rfl
theorem ty117 :aP Tryz.prog 117=some ⟨1,8,.func,.nilf⟩:=by kernel_rfl
theorem ty119 :aP Tryz.prog 119=some ⟨1,8,.func,.nilf⟩:=by kernel_rfl
theorem ty120 :aP Tryz.prog 120=some ⟨1,8,.func,.nilf⟩:=by kernel_rfl
theorem ty121 :aP Tryz.prog 121=some ⟨1,8,.func,.nilf⟩:=by kernel_rfl
theorem ty122 :aP Tryz.prog 122=some ⟨1,8,.func,.nilf⟩:=by kernel_rfl
theorem ty123 :aP Tryz.prog 123=some ⟨1,8,.func,.nilf⟩:=by kernel_rfl
theorem ty124 :aP Tryz.prog 124=some ⟨1,8,.func,.nilf⟩:=by kernel_rfl
theorem ty125 :aP Tryz.prog 125=some ⟨1,8,.func,.nilf⟩:=by kernel_rfl
theorem ty126 :aP Tryz.prog 126=some ⟨1,8,.func,.nilf⟩:=by kernel_rfl
theorem ty127 :aP Tryz.prog 127=some ⟨1,8,.func,.nilf⟩:=by kernel_rfl
theorem ty128 :aP Tryz.prog 128=some ⟨1,8,.func,.nilf⟩:=by kernel_rfl
theorem ty129 :aP Tryz.prog 129=some ⟨1,8,.func,.nilf⟩:=by kernel_rfl
theorem ty130 :aP Tryz.prog 130=some ⟨1,8,.map 3 9,.nilm⟩:=by kernel_rfl
theorem ty131 :aP Tryz.prog 131=some ⟨1,8,.func,.nilf⟩:=by kernel_rfl
theorem ty132 :aP Tryz.prog 132=some ⟨1,8,.func,.nilf⟩:=by kernel_rfl
theorem ty133 :aP Tryz.prog 133=some ⟨1,8,.func,.nilf⟩:=by kernel_rfl
theorem ty134 :aP Tryz.prog 134=some ⟨1,8,.func,.nilf⟩:=by kernel_rfl
theorem ty135 :aP Tryz.prog 135=some ⟨1,8,.int .u64,.int .u64 0⟩:=by kernel_rfl
theorem ty136 :aP Tryz.prog 136=some ⟨1,8,.func,.nilf⟩:=by kernel_rfl
theorem ty137 :aP Tryz.prog 137=some ⟨1,8,.func,.nilf⟩:=by kernel_rfl
theorem ty138 :aP Tryz.prog 138=some ⟨1,8,.func,.nilf⟩:=by kernel_rfl
theorem ty140 :aP Tryz.prog 140=some ⟨1,8,.func,.nilf⟩:=by kernel_rfl
theorem ty141 :aP Tryz.prog 141=some ⟨1,8,.func,.nilf⟩:=by kernel_rfl
theorem ty142 :aP Tryz.prog 142=some ⟨1,8,.func,.nilf⟩:=by kernel_rfl
theorem ty143 :aP Tryz.prog 143=some ⟨1,8,.func,.nilf⟩:=by kernel_rfl
theorem ty145 :aP Tryz.prog 145=some ⟨1,8,.func,.nilf⟩:=by kernel_rfl
theorem ty146 :aP Tryz.prog 146=some ⟨1,8,.func,.nilf⟩:=by kernel_rfl
theorem ty148 :aP Tryz.prog 148=some ⟨1,8,.func,.nilf⟩:=by kernel_rfl
theorem ty149 :aP Tryz.prog 149=some ⟨1,8,.func,.nilf⟩:=by kernel_rfl
theorem ty150 :aP Tryz.prog 150=some ⟨1,8,.func,.nilf⟩:=by kernel_rfl
theorem ty151 :aP Tryz.prog 151=some ⟨1,8,.func,.nilf⟩:=by kernel_rfl
theorem ty152 :aP Tryz.prog 152=some ⟨1,8,.func,.nilf⟩:=by kernel_rfl
theorem ty153 :aP Tryz.prog 153=some ⟨1,8,.func,.nilf⟩:=by kernel_rfl
theorem ty154 :aP Tryz.prog 154=some ⟨1,8,.pointer 156,.nilp⟩:=by kernel_rfl
theorem ty155 :aP Tryz.prog 155=some ⟨2,32,.struct [(0,154),(1,52)],.agg [.nilp,.nils]⟩:=by kernel_rfl
theorem ty156 :aP Tryz.prog 156=some ⟨2,32,.struct [(0,154),(1,52)],.agg [.nilp,.nils]⟩:=by kernel_rfl
theorem ty157 :aP Tryz.prog 157=some ⟨1,16,.iface false,.nili⟩:=by kernel_rfl
theorem ty158 :aP Tryz.prog 158=some ⟨1,16,.iface false,.nili⟩:=by kernel_rfl
theorem ty159 :aP Tryz.prog 159=some ⟨1,8,.func,.nilf⟩:=by kernel_rfl
theorem ty160 :aP Tryz.prog 160=some ⟨1,8,.func,.nilf⟩:=by kernel_rfl
theorem ty161 :aP Tryz.prog 161=some ⟨1,8,.int .i64,.int .i64 0⟩:=by kernel_rfl
theorem ty163 :aP Tryz.prog 163=some ⟨1,8,.func,.nilf⟩:=by kernel_rfl
theorem ty164 :aP Tryz.prog 164=some ⟨1,8,.func,.nilf⟩:=by kernel_rfl
theorem ty165 :aP Tryz.prog 165=some ⟨1,8,.func,.nilf⟩:=by kernel_rfl
theorem ty166 :aP Tryz.prog 166=some ⟨1,8,.func,.nilf⟩:=by kernel_rfl
theorem ty167 :aP Tryz.prog 167=some ⟨1,8,.func,.nilf⟩:=by kernel_rfl
theorem ty168 :aP Tryz.prog 168=some ⟨1,4,.int .u32,.int .u32 0⟩:=by kernel_rfl
theorem ty169 :aP Tryz.prog 169=some ⟨1,8,.func,.nilf⟩:=by kernel_rfl
theorem ty170 :aP Tryz.prog 170=some ⟨1,8,.func,.nilf⟩:=by kernel_rfl
theorem ty171 :aP Tryz.prog 171=some ⟨1,8,.func,.nilf⟩:=by kernel_rfl
theorem ty173 :aP Tryz.prog 173=some ⟨1,8,.func,.nilf⟩:=by kernel_rfl
theorem ty174 :aP Tryz.prog 174=some ⟨1,8,.func,.nilf⟩:=by kernel_rfl
theorem ty175 :aP Tryz.prog 175=some ⟨1,8,.func,.nilf⟩:=by kernel_rfl
theorem ty176 :aP Tryz.prog 176=some ⟨1,8,.func,.nilf⟩:=by kernel_rfl
theorem ty177 :aP Tryz.prog 177=some ⟨1,8,.func,.nilf⟩:=by kernel_rfl
theorem ty178 :aP Tryz.prog 178=some ⟨1,8,.func,.nilf⟩:=by kernel_rfl
theorem ty179 :aP Tryz.prog 179=some ⟨1,8,.pointer 5,.nilp⟩:=by kernel_rfl
theorem ty180 :aP Tryz.prog 180=some ⟨24,24,.array 24 5,.agg [.int .u8 0,.int .u8 0,.int .u8 0,.int .u8 0,.int .u8 0,.int .u8 0,.int .u8 0,.int .u8 0,.int .u8 0,.int .u8 0,.int .u8 0,.int .u8 0,.int .u8 0,.int .u8 0,.int .u8 0,.int .u8 0,.int .u8 0,.int .u8 0,.int .u8 0,.int .u8 0,.int .u8 0,.int .u8 0,.int .u8 0,.int .u8 0]⟩:=by kernel_rfl
theorem ty181 :aP Tryz.prog 181=some ⟨1,8,.func,.nilf⟩:=by kernel_rfl
theorem ty183 :aP Tryz.prog 183=some ⟨1,8,.func,.nilf⟩:=by kernel_rfl
theorem ty184 :aP Tryz.prog 184=some ⟨1,8,.int .u64,.int .u64 0⟩:=by kernel_rfl
theorem ty185 :aP Tryz.prog 185=some ⟨1,8,.func,.nilf⟩:=by kernel_rfl
theorem ty186 :aP Tryz.prog 186=some ⟨1,8,.func,.nilf⟩:=by kernel_rfl
theorem ty187 :aP Tryz.prog 187=some ⟨1,8,.func,.nilf⟩:=by kernel_rfl
theorem ty188 :aP Tryz.prog 188=some ⟨1,8,.pointer 3,.nilp⟩:=by kernel_rfl
theorem ty189 :aP Tryz.prog 189=some ⟨1,8,.func,.nilf⟩:=by kernel_rfl
theorem ty190 :aP Tryz.prog 190=some ⟨1,8,.func,.nilf⟩:=by kernel_rfl
theorem ty192 :aP Tryz.prog 192=some ⟨1,8,.func,.nilf⟩:=by kernel_rfl
theorem ty193 :aP Tryz.prog 193=some ⟨1,8,.func,.nilf⟩:=by kernel_rfl
theorem ty194 :aP Tryz.prog 194=some ⟨1,8,.func,.nilf⟩:=by kernel_rfl
theorem ty195 :aP Tryz.prog 195=some ⟨1,8,.func,.nilf⟩:=by kernel_rfl
theorem ty197 :aP Tryz.prog 197=some ⟨1,8,.func,.nilf⟩:=by kernel_rfl
theorem ty198 :aP Tryz.prog 198=some ⟨1,8,.func,.nilf⟩:=by kernel_rfl
theorem ty199 :aP Tryz.prog 199=some ⟨20,160,.array 20 135,.agg [.int .u64 0,.int .u64 0,.int .u64 0,.int .u64 0,.int .u64 0,.int .u64 0,.int .u64 0,.int .u64 0,.int .u64 0,.int .u64 0,.int .u64 0,.int .u64 0,.int .u64 0,.int .u64 0,.int .u64 0,.int .u64 0,.int .u64 0,.int .u64 0,.int .u64 0,.int .u64 0]⟩:=by kernel_rfl
theorem ty200 :aP Tryz.prog 200=some ⟨65,65,.array 65 5,.agg [.int .u8 0,.int .u8 0,.int .u8 0,.int .u8 0,.int .u8 0,.int .u8 0,.int .u8 0,.int .u8 0,.int .u8 0,.int .u8 0,.int .u8 0,.int .u8 0,.int .u8 0,.int .u8 0,.int .u8 0,.int .u8 0,.int .u8 0,.int .u8 0,.int .u8 0,.int .u8 0,.int .u8 0,.int .u8 0,.int .u8 0,.int .u8 0,.int .u8 0,.int .u8 0,.int .u8 0,.int .u8 0,.int .u8 0,.int .u8 0,.int .u8 0,.int .u8 0,.int .u8 0,.int .u8 0,.int .u8 0,.int .u8 0,.int .u8 0,.int .u8 0,.int .u8 0,.int .u8 0,.int .u8 0,.int .u8 0,.int .u8 0,.int .u8 0,.int .u8 0,.int .u8 0,.int .u8 0,.int .u8 0,.int .u8 0,.int .u8 0,.int .u8 0,.int .u8 0,.int .u8 0,.int .u8 0,.int .u8 0,.int .u8 0,.int .u8 0,.int .u8 0,.int .u8 0,.int .u8 0,.int .u8 0,.int .u8 0,.int .u8 0,.int .u8 0,.int .u8 0]⟩:=by kernel_rfl
theorem ty201 :aP Tryz.prog 201=some ⟨1,8,.func,.nilf⟩:=by kernel_rfl
theorem ty202 :aP Tryz.prog 202=some ⟨1,8,.pointer 184,.nilp⟩:=by kernel_rfl
theorem ty204 :aP Tryz.prog 204=some ⟨1,8,.func,.nilf⟩:=by kernel_rfl
theorem ty206 :aP Tryz.prog 206=some ⟨1,8,.func,.nilf⟩:=by kernel_rfl
theorem ty207 :aP Tryz.prog 207=some ⟨1,8,.func,.nilf⟩:=by kernel_rfl
theorem ty209 :aP Tryz.prog 209=some ⟨2,2,.struct [(0,5),(1,5)],.agg [.int .u8 0,.int .u8 0]⟩:=by kernel_rfl
theorem ty210 :aP Tryz.prog 210=some ⟨2,2,.struct [(0,5),(1,5)],.agg [.int .u8 0,.int .u8 0]⟩:=by kernel_rfl
theorem ty211 :aP Tryz.prog 211=some ⟨32,32,.array 16 210,.agg [.agg [.int .u8 0,.int .u8 0],.agg [.int .u8 0,.int .u8 0],.agg [.int .u8 0,.int .u8 0],.agg [.int .u8 0,.int .u8 0],.agg [.int .u8 0,.int .u8 0],.agg [.int .u8 0,.int .u8 0],.agg [.int .u8 0,.int .u8 0],.agg [.int .u8 0,.int .u8 0],.agg [.int .u8 0,.int .u8 0],.agg [.int .u8 0,.int .u8 0],.agg [.int .u8 0,.int .u8 0],.agg [.int .u8 0,.int .u8 0],.agg [.int .u8 0,.int .u8 0],.agg [.int .u8 0,.int .u8 0],.agg [.int .u8 0,.int .u8 0],.agg [.int .u8 0,.int .u8 0]]⟩:=by kernel_rfl
theorem ty212 :aP Tryz.prog 212=some ⟨1,8,.func,.nilf⟩:=by kernel_rfl
theorem ty213 :aP Tryz.prog 213=some ⟨64,64,.array 64 5,us (uz 64)⟩:=by kernel_rfl
theorem ty214 :aP Tryz.prog 214=some ⟨4,40,.struct [(0,17),(1,17),(2,17),(3,9)],.agg [.nilp,.nilp,.nilp,.str []]⟩:=by kernel_rfl
theorem ty215 :aP Tryz.prog 215=some ⟨4,40,.struct [(0,17),(1,17),(2,17),(3,9)],.agg [.nilp,.nilp,.nilp,.str []]⟩:=by kernel_rfl
theorem ty219 :aP Tryz.prog 219=some ⟨1,8,.func,.nilf⟩:=by kernel_rfl
theorem ty220 :aP Tryz.prog 220=some ⟨1,1,.int .u8,.int .u8 0⟩:=by kernel_rfl
theorem ty221 :aP Tryz.prog 221=some ⟨1,1,.int .u8,.int .u8 0⟩:=by kernel_rfl
theorem ty222 :aP Tryz.prog 222=some ⟨1,8,.func,.nilf⟩:=by kernel_rfl
theorem ty223 :aP Tryz.prog 223=some ⟨1,4,.int .i32,.int .i32 0⟩:=by kernel_rfl
theorem ty224 :aP Tryz.prog 224=some ⟨1,4,.int .i32,.int .i32 0⟩:=by kernel_rfl
theorem ty225 :aP Tryz.prog 225=some ⟨11,48,.struct [(0,12),(1,12),(2,168),(3,220),(4,5),(5,5),(6,221),(7,222),(8,179),(9,223),(10,224)],.agg [.int .u64 0,.int .u64 0,.int .u32 0,.int .u8 0,.int .u8 0,.int .u8 0,.int .u8 0,.nilf,.nilp,.int .i32 0,.int .i32 0]⟩:=by kernel_rfl
theorem ty226 :aP Tryz.prog 226=some ⟨11,48,.struct [(0,12),(1,12),(2,168),(3,220),(4,5),(5,5),(6,221),(7,222),(8,179),(9,223),(10,224)],.agg [.int .u64 0,.int .u64 0,.int .u32 0,.int .u8 0,.int .u8 0,.int .u8 0,.int .u8 0,.nilf,.nilp,.int .i32 0,.int .i32 0]⟩:=by kernel_rfl
theorem eqdg43 (x y:Dig)(K:CV→Prop):kK Tryz.prog .eql 43 (.c (dg x)) (.c (dg y)) K=K (.bool (x==y)):=(zK (by kernel_rfl) ty43 ty5 (by kernel_rfl) x y K).1
theorem nedg43 (x y:Dig)(K:CV→Prop):kK Tryz.prog .neq 43 (.c (dg x)) (.c (dg y)) K=K (.bool (!(x==y))):=(zK (by kernel_rfl) ty43 ty5 (by kernel_rfl) x y K).2
theorem eqdg44 (x y:Dig)(K:CV→Prop):kK Tryz.prog .eql 44 (.c (dg x)) (.c (dg y)) K=K (.bool (x==y)):=(zK (by kernel_rfl) ty44 ty5 (by kernel_rfl) x y K).1
theorem nedg44 (x y:Dig)(K:CV→Prop):kK Tryz.prog .neq 44 (.c (dg x)) (.c (dg y)) K=K (.bool (!(x==y))):=(zK (by kernel_rfl) ty44 ty5 (by kernel_rfl) x y K).2
theorem mixed :Tryz.prog.follows .mixedOrders=true:=by kernel_rfl
end YthedbjfipmkpiaaGreatDoor
end Go.Proofs
namespace Go.Hl
open Go
section
variable {P:Program}{av:List Nat}{f:FuncId}{ob:Ob}{nid id n:Nat}{K:HV→Ob→Prop}{T e:TypeId}{sz:Nat}{v:CV}{l:List CV}
end
def fH (P:Program)(f:FuncId)(args:List CV)(R:CV→CV→Prop):Prop:=
 HFn P f (args.map .c) 0 cZ (fun r ob'=> ∃u v,r= .tup [.c u,.c v]∧R u v∧ob'=cZ)
variable {R:CV→CV→Prop}{ob:Ob}
theorem aO {r:HV}(cl:List Nat)(u v:CV)(h:(r.close ob cl).norm= .tup [.c u,.c v])(I:R u v):gR 0 r ob (fun r ob'=> ∃u v,r= .tup [.c u,.c v]∧R u v∧ob'=cZ):=
 ⟨cl,id,.tup [.c u,.c v],cZ,⟨u,v,rfl,I,rfl⟩,by rw[h];rfl,fun _ h=>by omega,fun _ _ _ _ h=>h,by simp[HV.men,HV.menL],fun j o h=>by simp[cZ]at h⟩
theorem aC3 {P:Program}{av:List Nat}{f:FuncId}{nid:Nat}{K:HV→Ob→Prop}{args:List CV}(h:fH P f args R)(I:Free4 ob nid)(U: ∀u v,R u v→K (.tup [.c u,.c v]) ob):
  HCall P av f (args.map .c) ob nid K:=by
 refine⟨[],args.map .c,cZ,_,h,lL args,⟨N3,by simp⟩,(HV.renL_c _ _).symm,fun j o h=>by simp[cZ]at h,fun r J hR _=>?_⟩;obtain⟨u,v,rfl,hv,rfl⟩:=hR;rw[pW I.all];exact U u v hv
end Go.Hl
