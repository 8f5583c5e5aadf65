/- Plain Lean: derivations (chapter 31): supports, lines, and the lines that show a tree (31.1). By an AI agent. -/
import Derived.Test.YthedbjfipmkpiaaGreatDoorPl18e
set_option linter.unusedSimpArgs false
set_option linter.unusedVariables false
set_option linter.defProp false
namespace Go.Pl
open Go Go.Hl
abbrev aA4 :={l:List UInt8//l.length=16}
def hf (h:aA4):CV:= .agg (h.1.map u8)
theorem aO (h:aA4):(hf h).cells=16:=by rw[←h.2];exact us_cells h.1
theorem eQ (h:aA4):(hf h).denil=hf h:=by simp only[hf,CV.denil];rw[cE (f:=u8) (fun _=>rfl)]
theorem bT3 (h:aA4):CV.getAt 0 16 true (hf h)=some (hf h):=by
 have:=aO h;simp_all[hf,CV.cells,CV.getAt,and_self,if_true]
theorem bT4 (h:aA4)(x:HV):CV.setAt 0 16 x (hf h)=some x:=by
 have:=aO h;simp_all[hf,CV.cells,CV.setAt,and_self,if_true]
theorem denilL_dg (l:List Dig):CV.denilL (l.map dg)=l.map dg:=cE dg_denil l
theorem bT5 (d:Dig):dg d= .agg (d.1.map u8):=rfl
theorem iU {l:List UInt8}:(∀v∈l.map u8,v.cells=1)↔True:=by simp[u8,CV.cells]
structure Pk where
 h:Int
 r:aA4
def Pk.cv (x:Pk):CV:= .agg [.int .i64 x.h,hf x.r]
theorem Pk.cells (x:Pk):x.cv.cells=17:=by simp[Pk.cv,CV.cells,CV.cellsL,dg_cells,aO]
theorem Pk.denil (x:Pk):x.cv.denil=x.cv:=by simp only[Pk.cv,CV.denil,CV.denilL,dg_denil,eQ,denilL_str,denilL_dg]
theorem Pk.isAgg (x:Pk):x.cv.isAgg=true:=rfl
theorem Pk.getAll (x:Pk):CV.getAt 0 17 true x.cv=some x.cv:=by
 have:=Pk.cells x;simp_all[Pk.cv,CV.cells,CV.getAt,and_self,if_true]
theorem Pk.setAll (x:Pk)(y:HV):CV.setAt 0 17 y x.cv=some y:=by
 have:=Pk.cells x;simp_all[Pk.cv,CV.cells,CV.setAt,and_self,if_true]
theorem Pk.fold (h:Int)(r:aA4):CV.agg [.int .i64 h,hf r]=Pk.cv ⟨h,r⟩:=rfl
theorem Pk.get_h (x:Pk):CV.getAt 0 1 false x.cv=some (.int .i64 x.h):=by simp[Pk.cv,CV.getAt,CV.getAtL,CV.cells,CV.cellsL,dg_cells,aO]
theorem Pk.set_h (x:Pk)(y:HV):CV.setAt 0 1 y x.cv=some (.agg [y,.c (hf x.r)]):=by simp[Pk.cv,CV.setAt,CV.setAtL,CV.cells,CV.cellsL,dg_cells,aO]
theorem Pk.get_r (x:Pk):CV.getAt 1 16 true x.cv=some (hf x.r):=by simp[Pk.cv,CV.getAt,CV.getAtL,CV.cells,CV.cellsL,dg_cells,aO,bT3]
theorem Pk.set_r (x:Pk)(y:HV):CV.setAt 1 16 y x.cv=some (.agg [.c (.int .i64 x.h),y]):=by simp[Pk.cv,CV.setAt,CV.setAtL,CV.cells,CV.cellsL,dg_cells,aO,bT4]
structure Ky where
 p:Pk
 o:aG
 rs:List aG
 fr:Int
 un:Int
def Ky.cv (x:Ky):CV:= .agg [x.p.cv,.str x.o,.slc (x.rs.map .str),.int .i64 x.fr,.int .i64 x.un]
theorem Ky.cells (x:Ky):x.cv.cells=21:=by simp[Ky.cv,CV.cells,CV.cellsL,dg_cells,aO,Pk.cells]
theorem Ky.denil (x:Ky):x.cv.denil=x.cv:=by simp only[Ky.cv,CV.denil,CV.denilL,dg_denil,eQ,denilL_str,denilL_dg,Pk.denil]
theorem bJ8 (l:List Ky):CV.denilL (l.map Ky.cv)=l.map Ky.cv:=cE Ky.denil l
theorem Ky.isAgg (x:Ky):x.cv.isAgg=true:=rfl
theorem Ky.getAll (x:Ky):CV.getAt 0 21 true x.cv=some x.cv:=by
 have:=Ky.cells x;simp_all[Ky.cv,CV.cells,CV.getAt,and_self,if_true]
theorem Ky.setAll (x:Ky)(y:HV):CV.setAt 0 21 y x.cv=some y:=by
 have:=Ky.cells x;simp_all[Ky.cv,CV.cells,CV.setAt,and_self,if_true]
theorem Ky.fold (p:Pk)(o:aG)(rs:List aG)(fr:Int)(un:Int):CV.agg [p.cv,.str o,.slc (rs.map .str),.int .i64 fr,.int .i64 un]=Ky.cv ⟨p,o,rs,fr,un⟩:=rfl
theorem Ky.get_p (x:Ky):CV.getAt 0 17 true x.cv=some (x.p.cv):=by simp[Ky.cv,CV.getAt,CV.getAtL,CV.cells,CV.cellsL,dg_cells,aO,Pk.cells,Pk.getAll]
theorem Ky.set_p (x:Ky)(y:HV):CV.setAt 0 17 y x.cv=some (.agg [y,.c (.str x.o),.c (.slc (x.rs.map .str)),.c (.int .i64 x.fr),.c (.int .i64 x.un)]):=by simp[Ky.cv,CV.setAt,CV.setAtL,CV.cells,CV.cellsL,dg_cells,aO,Pk.cells,Pk.setAll]
theorem Ky.get_o (x:Ky):CV.getAt 17 1 false x.cv=some (.str x.o):=by simp[Ky.cv,CV.getAt,CV.getAtL,CV.cells,CV.cellsL,dg_cells,aO,Pk.cells]
theorem Ky.set_o (x:Ky)(y:HV):CV.setAt 17 1 y x.cv=some (.agg [.c (x.p.cv),y,.c (.slc (x.rs.map .str)),.c (.int .i64 x.fr),.c (.int .i64 x.un)]):=by simp[Ky.cv,CV.setAt,CV.setAtL,CV.cells,CV.cellsL,dg_cells,aO,Pk.cells]
structure Qt where
 r:aG
 n:Int
def Qt.cv (x:Qt):CV:= .agg [.str x.r,.int .i64 x.n]
theorem Qt.cells (x:Qt):x.cv.cells=2:=by simp[Qt.cv,CV.cells,CV.cellsL,dg_cells,aO]
theorem Qt.denil (x:Qt):x.cv.denil=x.cv:=by simp only[Qt.cv,CV.denil,CV.denilL,dg_denil,eQ,denilL_str,denilL_dg]
theorem bJ9 (l:List Qt):CV.denilL (l.map Qt.cv)=l.map Qt.cv:=cE Qt.denil l
theorem Qt.isAgg (x:Qt):x.cv.isAgg=true:=rfl
theorem Qt.getAll (x:Qt):CV.getAt 0 2 true x.cv=some x.cv:=by
 have:=Qt.cells x;simp_all[Qt.cv,CV.cells,CV.getAt,and_self,if_true]
theorem Qt.setAll (x:Qt)(y:HV):CV.setAt 0 2 y x.cv=some y:=by
 have:=Qt.cells x;simp_all[Qt.cv,CV.cells,CV.setAt,and_self,if_true]
theorem Qt.fold (r:aG)(n:Int):CV.agg [.str r,.int .i64 n]=Qt.cv ⟨r,n⟩:=rfl
theorem Qt.get_r (x:Qt):CV.getAt 0 1 false x.cv=some (.str x.r):=by simp[Qt.cv,CV.getAt,CV.getAtL,CV.cells,CV.cellsL,dg_cells,aO]
theorem Qt.set_r (x:Qt)(y:HV):CV.setAt 0 1 y x.cv=some (.agg [y,.c (.int .i64 x.n)]):=by simp[Qt.cv,CV.setAt,CV.setAtL,CV.cells,CV.cellsL,dg_cells,aO]
theorem Qt.get_n (x:Qt):CV.getAt 1 1 false x.cv=some (.int .i64 x.n):=by simp[Qt.cv,CV.getAt,CV.getAtL,CV.cells,CV.cellsL,dg_cells,aO]
theorem Qt.set_n (x:Qt)(y:HV):CV.setAt 1 1 y x.cv=some (.agg [.c (.str x.r),y]):=by simp[Qt.cv,CV.setAt,CV.setAtL,CV.cells,CV.cellsL,dg_cells,aO]
structure Rv where
 k:Dig
 t:Int
def Rv.cv (x:Rv):CV:= .agg [dg x.k,.int .i64 x.t]
theorem Rv.cells (x:Rv):x.cv.cells=33:=by simp[Rv.cv,CV.cells,CV.cellsL,dg_cells,aO]
theorem Rv.denil (x:Rv):x.cv.denil=x.cv:=by simp only[Rv.cv,CV.denil,CV.denilL,dg_denil,eQ,denilL_str,denilL_dg]
theorem bK0 (l:List Rv):CV.denilL (l.map Rv.cv)=l.map Rv.cv:=cE Rv.denil l
theorem Rv.isAgg (x:Rv):x.cv.isAgg=true:=rfl
theorem Rv.getAll (x:Rv):CV.getAt 0 33 true x.cv=some x.cv:=by
 have:=Rv.cells x;simp_all[Rv.cv,CV.cells,CV.getAt,and_self,if_true]
theorem Rv.setAll (x:Rv)(y:HV):CV.setAt 0 33 y x.cv=some y:=by
 have:=Rv.cells x;simp_all[Rv.cv,CV.cells,CV.setAt,and_self,if_true]
theorem Rv.fold (k:Dig)(t:Int):CV.agg [dg k,.int .i64 t]=Rv.cv ⟨k,t⟩:=rfl
theorem Rv.get_k (x:Rv):CV.getAt 0 32 true x.cv=some (dg x.k):=by simp[Rv.cv,CV.getAt,CV.getAtL,CV.cells,CV.cellsL,dg_cells,aO,dg_getAt]
theorem Rv.set_k (x:Rv)(y:HV):CV.setAt 0 32 y x.cv=some (.agg [y,.c (.int .i64 x.t)]):=by simp[Rv.cv,CV.setAt,CV.setAtL,CV.cells,CV.cellsL,dg_cells,aO,dg_setAt]
theorem Rv.get_t (x:Rv):CV.getAt 32 1 false x.cv=some (.int .i64 x.t):=by simp[Rv.cv,CV.getAt,CV.getAtL,CV.cells,CV.cellsL,dg_cells,aO]
theorem Rv.set_t (x:Rv)(y:HV):CV.setAt 32 1 y x.cv=some (.agg [.c (dg x.k),y]):=by simp[Rv.cv,CV.setAt,CV.setAtL,CV.cells,CV.cellsL,dg_cells,aO]
structure Rt where
 v:Int
 e:Int
 q:List Qt
 k:List Ky
 x:List Rv
def Rt.cv (x:Rt):CV:= .agg [.int .i64 x.v,.int .i64 x.e,.slc (x.q.map Qt.cv),.slc (x.k.map Ky.cv),.slc (x.x.map Rv.cv)]
theorem Rt.cells (x:Rt):x.cv.cells=5:=by simp[Rt.cv,CV.cells,CV.cellsL,dg_cells,aO]
theorem Rt.denil (x:Rt):x.cv.denil=x.cv:=by simp only[Rt.cv,CV.denil,CV.denilL,dg_denil,eQ,denilL_str,denilL_dg,bJ9,bJ8,bK0]
theorem Rt.isAgg (x:Rt):x.cv.isAgg=true:=rfl
theorem Rt.getAll (x:Rt):CV.getAt 0 5 true x.cv=some x.cv:=by
 have:=Rt.cells x;simp_all[Rt.cv,CV.cells,CV.getAt,and_self,if_true]
theorem Rt.setAll (x:Rt)(y:HV):CV.setAt 0 5 y x.cv=some y:=by
 have:=Rt.cells x;simp_all[Rt.cv,CV.cells,CV.setAt,and_self,if_true]
theorem Rt.fold (v:Int)(e:Int)(q:List Qt)(k:List Ky)(x:List Rv):CV.agg [.int .i64 v,.int .i64 e,.slc (q.map Qt.cv),.slc (k.map Ky.cv),.slc (x.map Rv.cv)]=Rt.cv ⟨v,e,q,k,x⟩:=rfl
theorem Rt.get_v (x:Rt):CV.getAt 0 1 false x.cv=some (.int .i64 x.v):=by simp[Rt.cv,CV.getAt,CV.getAtL,CV.cells,CV.cellsL,dg_cells,aO]
theorem Rt.set_v (x:Rt)(y:HV):CV.setAt 0 1 y x.cv=some (.agg [y,.c (.int .i64 x.e),.c (.slc (x.q.map Qt.cv)),.c (.slc (x.k.map Ky.cv)),.c (.slc (x.x.map Rv.cv))]):=by simp[Rt.cv,CV.setAt,CV.setAtL,CV.cells,CV.cellsL,dg_cells,aO]
theorem Rt.get_q (x:Rt):CV.getAt 2 1 false x.cv=some (.slc (x.q.map Qt.cv)):=by simp[Rt.cv,CV.getAt,CV.getAtL,CV.cells,CV.cellsL,dg_cells,aO]
theorem Rt.set_q (x:Rt)(y:HV):CV.setAt 2 1 y x.cv=some (.agg [.c (.int .i64 x.v),.c (.int .i64 x.e),y,.c (.slc (x.k.map Ky.cv)),.c (.slc (x.x.map Rv.cv))]):=by simp[Rt.cv,CV.setAt,CV.setAtL,CV.cells,CV.cellsL,dg_cells,aO]
theorem Rt.get_k (x:Rt):CV.getAt 3 1 false x.cv=some (.slc (x.k.map Ky.cv)):=by simp[Rt.cv,CV.getAt,CV.getAtL,CV.cells,CV.cellsL,dg_cells,aO]
theorem Rt.set_k (x:Rt)(y:HV):CV.setAt 3 1 y x.cv=some (.agg [.c (.int .i64 x.v),.c (.int .i64 x.e),.c (.slc (x.q.map Qt.cv)),y,.c (.slc (x.x.map Rv.cv))]):=by simp[Rt.cv,CV.setAt,CV.setAtL,CV.cells,CV.cellsL,dg_cells,aO]
def yF :Int:=1099511627776
def al (c:UInt8):Bool:=(decide (97≤c)&&decide (c≤122))||(decide (48≤c)&&decide (c≤57))
def nc (c:UInt8):Bool:=al c||(c==46||(c==95||c==45))
def gW :aG→Bool
 |[]=>false
 |c::r=>decide ((c::r).length≤64)&&(al c&&r.all nc)
def inN (t:Int):Bool:=decide (0≤t)&&decide (t≤yF)
def bK1 (l:List aG):List aG:=l.foldl aP0 []
structure Rq where
 k:Int
 n:Int
 m:Int
 t:aG
def Rq.cv (x:Rq):CV:= .agg [.int .i64 x.k,.int .i64 x.n,.int .i64 x.m,.str x.t]
theorem Rq.cells (x:Rq):x.cv.cells=4:=by simp[Rq.cv,CV.cells,CV.cellsL,dg_cells,aO]
theorem Rq.denil (x:Rq):x.cv.denil=x.cv:=by simp only[Rq.cv,CV.denil,CV.denilL,dg_denil,eQ,denilL_str,denilL_dg]
theorem denilL_Rq (l:List Rq):CV.denilL (l.map Rq.cv)=l.map Rq.cv:=cE Rq.denil l
theorem Rq.isAgg (x:Rq):x.cv.isAgg=true:=rfl
theorem Rq.getAll (x:Rq):CV.getAt 0 4 true x.cv=some x.cv:=by
 have:=Rq.cells x;simp_all[Rq.cv,CV.cells,CV.getAt,and_self,if_true]
theorem Rq.setAll (x:Rq)(y:HV):CV.setAt 0 4 y x.cv=some y:=by
 have:=Rq.cells x;simp_all[Rq.cv,CV.cells,CV.setAt,and_self,if_true]
theorem Rq.fold (k:Int)(n:Int)(m:Int)(t:aG):CV.agg [.int .i64 k,.int .i64 n,.int .i64 m,.str t]=Rq.cv ⟨k,n,m,t⟩:=rfl
theorem Rq.get_k (x:Rq):CV.getAt 0 1 false x.cv=some (.int .i64 x.k):=by simp[Rq.cv,CV.getAt,CV.getAtL,CV.cells,CV.cellsL,dg_cells,aO]
theorem Rq.set_k (x:Rq)(y:HV):CV.setAt 0 1 y x.cv=some (.agg [y,.c (.int .i64 x.n),.c (.int .i64 x.m),.c (.str x.t)]):=by simp[Rq.cv,CV.setAt,CV.setAtL,CV.cells,CV.cellsL,dg_cells,aO]
theorem Rq.get_n (x:Rq):CV.getAt 1 1 false x.cv=some (.int .i64 x.n):=by simp[Rq.cv,CV.getAt,CV.getAtL,CV.cells,CV.cellsL,dg_cells,aO]
theorem Rq.set_n (x:Rq)(y:HV):CV.setAt 1 1 y x.cv=some (.agg [.c (.int .i64 x.k),y,.c (.int .i64 x.m),.c (.str x.t)]):=by simp[Rq.cv,CV.setAt,CV.setAtL,CV.cells,CV.cellsL,dg_cells,aO]
theorem Rq.get_m (x:Rq):CV.getAt 2 1 false x.cv=some (.int .i64 x.m):=by simp[Rq.cv,CV.getAt,CV.getAtL,CV.cells,CV.cellsL,dg_cells,aO]
theorem Rq.set_m (x:Rq)(y:HV):CV.setAt 2 1 y x.cv=some (.agg [.c (.int .i64 x.k),.c (.int .i64 x.n),y,.c (.str x.t)]):=by simp[Rq.cv,CV.setAt,CV.setAtL,CV.cells,CV.cellsL,dg_cells,aO]
theorem Rq.get_t (x:Rq):CV.getAt 3 1 false x.cv=some (.str x.t):=by simp[Rq.cv,CV.getAt,CV.getAtL,CV.cells,CV.cellsL,dg_cells,aO]
theorem Rq.set_t (x:Rq)(y:HV):CV.setAt 3 1 y x.cv=some (.agg [.c (.int .i64 x.k),.c (.int .i64 x.n),.c (.int .i64 x.m),y]):=by simp[Rq.cv,CV.setAt,CV.setAtL,CV.cells,CV.cellsL,dg_cells,aO]
structure Nd where
 k:Int
 n:Int
 c:Int
 q:Rq
def Nd.cv (x:Nd):CV:= .agg [.int .i64 x.k,.int .i64 x.n,.int .i64 x.c,x.q.cv]
theorem Nd.cells (x:Nd):x.cv.cells=7:=by simp[Nd.cv,CV.cells,CV.cellsL,dg_cells,aO,Rq.cells]
theorem Nd.denil (x:Nd):x.cv.denil=x.cv:=by simp only[Nd.cv,CV.denil,CV.denilL,dg_denil,eQ,denilL_str,denilL_dg,Rq.denil]
theorem denilL_Nd (l:List Nd):CV.denilL (l.map Nd.cv)=l.map Nd.cv:=cE Nd.denil l
theorem Nd.isAgg (x:Nd):x.cv.isAgg=true:=rfl
theorem Nd.getAll (x:Nd):CV.getAt 0 7 true x.cv=some x.cv:=by
 have:=Nd.cells x;simp_all[Nd.cv,CV.cells,CV.getAt,and_self,if_true]
theorem Nd.setAll (x:Nd)(y:HV):CV.setAt 0 7 y x.cv=some y:=by
 have:=Nd.cells x;simp_all[Nd.cv,CV.cells,CV.setAt,and_self,if_true]
theorem Nd.fold (k:Int)(n:Int)(c:Int)(q:Rq):CV.agg [.int .i64 k,.int .i64 n,.int .i64 c,q.cv]=Nd.cv ⟨k,n,c,q⟩:=rfl
theorem Nd.get_k (x:Nd):CV.getAt 0 1 false x.cv=some (.int .i64 x.k):=by simp[Nd.cv,CV.getAt,CV.getAtL,CV.cells,CV.cellsL,dg_cells,aO,Rq.cells]
theorem Nd.set_k (x:Nd)(y:HV):CV.setAt 0 1 y x.cv=some (.agg [y,.c (.int .i64 x.n),.c (.int .i64 x.c),.c (x.q.cv)]):=by simp[Nd.cv,CV.setAt,CV.setAtL,CV.cells,CV.cellsL,dg_cells,aO,Rq.cells]
theorem Nd.get_n (x:Nd):CV.getAt 1 1 false x.cv=some (.int .i64 x.n):=by simp[Nd.cv,CV.getAt,CV.getAtL,CV.cells,CV.cellsL,dg_cells,aO,Rq.cells]
theorem Nd.set_n (x:Nd)(y:HV):CV.setAt 1 1 y x.cv=some (.agg [.c (.int .i64 x.k),y,.c (.int .i64 x.c),.c (x.q.cv)]):=by simp[Nd.cv,CV.setAt,CV.setAtL,CV.cells,CV.cellsL,dg_cells,aO,Rq.cells]
theorem Nd.get_c (x:Nd):CV.getAt 2 1 false x.cv=some (.int .i64 x.c):=by simp[Nd.cv,CV.getAt,CV.getAtL,CV.cells,CV.cellsL,dg_cells,aO,Rq.cells]
theorem Nd.set_c (x:Nd)(y:HV):CV.setAt 2 1 y x.cv=some (.agg [.c (.int .i64 x.k),.c (.int .i64 x.n),y,.c (x.q.cv)]):=by simp[Nd.cv,CV.setAt,CV.setAtL,CV.cells,CV.cellsL,dg_cells,aO,Rq.cells]
theorem Nd.get_q (x:Nd):CV.getAt 3 4 true x.cv=some (x.q.cv):=by simp[Nd.cv,CV.getAt,CV.getAtL,CV.cells,CV.cellsL,dg_cells,aO,Rq.cells,Rq.getAll]
theorem Nd.set_q (x:Nd)(y:HV):CV.setAt 3 4 y x.cv=some (.agg [.c (.int .i64 x.k),.c (.int .i64 x.n),.c (.int .i64 x.c),y]):=by simp[Nd.cv,CV.setAt,CV.setAtL,CV.cells,CV.cellsL,dg_cells,aO,Rq.cells,Rq.setAll]
structure Pr where
 a:aG
 b:aG
 c:aG
 g:Int
 t:List Nd
def Pr.cv (x:Pr):CV:= .agg [.str x.a,.str x.b,.str x.c,.int .i64 x.g,.slc (x.t.map Nd.cv)]
theorem Pr.cells (x:Pr):x.cv.cells=5:=by simp[Pr.cv,CV.cells,CV.cellsL,dg_cells,aO]
theorem Pr.denil (x:Pr):x.cv.denil=x.cv:=by simp only[Pr.cv,CV.denil,CV.denilL,dg_denil,eQ,denilL_str,denilL_dg,denilL_Nd]
theorem bK2 (l:List Pr):CV.denilL (l.map Pr.cv)=l.map Pr.cv:=cE Pr.denil l
theorem Pr.isAgg (x:Pr):x.cv.isAgg=true:=rfl
theorem Pr.getAll (x:Pr):CV.getAt 0 5 true x.cv=some x.cv:=by
 have:=Pr.cells x;simp_all[Pr.cv,CV.cells,CV.getAt,and_self,if_true]
theorem Pr.setAll (x:Pr)(y:HV):CV.setAt 0 5 y x.cv=some y:=by
 have:=Pr.cells x;simp_all[Pr.cv,CV.cells,CV.setAt,and_self,if_true]
theorem Pr.fold (a:aG)(b:aG)(c:aG)(g:Int)(t:List Nd):CV.agg [.str a,.str b,.str c,.int .i64 g,.slc (t.map Nd.cv)]=Pr.cv ⟨a,b,c,g,t⟩:=rfl
theorem Pr.get_a (x:Pr):CV.getAt 0 1 false x.cv=some (.str x.a):=by simp[Pr.cv,CV.getAt,CV.getAtL,CV.cells,CV.cellsL,dg_cells,aO]
theorem Pr.set_a (x:Pr)(y:HV):CV.setAt 0 1 y x.cv=some (.agg [y,.c (.str x.b),.c (.str x.c),.c (.int .i64 x.g),.c (.slc (x.t.map Nd.cv))]):=by simp[Pr.cv,CV.setAt,CV.setAtL,CV.cells,CV.cellsL,dg_cells,aO]
theorem Pr.get_c (x:Pr):CV.getAt 2 1 false x.cv=some (.str x.c):=by simp[Pr.cv,CV.getAt,CV.getAtL,CV.cells,CV.cellsL,dg_cells,aO]
theorem Pr.set_c (x:Pr)(y:HV):CV.setAt 2 1 y x.cv=some (.agg [.c (.str x.a),.c (.str x.b),y,.c (.int .i64 x.g),.c (.slc (x.t.map Nd.cv))]):=by simp[Pr.cv,CV.setAt,CV.setAtL,CV.cells,CV.cellsL,dg_cells,aO]
theorem Pr.get_t (x:Pr):CV.getAt 4 1 false x.cv=some (.slc (x.t.map Nd.cv)):=by simp[Pr.cv,CV.getAt,CV.getAtL,CV.cells,CV.cellsL,dg_cells,aO]
theorem Pr.set_t (x:Pr)(y:HV):CV.setAt 4 1 y x.cv=some (.agg [.c (.str x.a),.c (.str x.b),.c (.str x.c),.c (.int .i64 x.g),y]):=by simp[Pr.cv,CV.setAt,CV.setAtL,CV.cells,CV.cellsL,dg_cells,aO]
structure Po where
 n:aG
 v:Int
 r:List Pr
def Po.cv (x:Po):CV:= .agg [.str x.n,.int .i64 x.v,.slc (x.r.map Pr.cv)]
theorem Po.cells (x:Po):x.cv.cells=3:=by simp[Po.cv,CV.cells,CV.cellsL,dg_cells,aO]
theorem Po.denil (x:Po):x.cv.denil=x.cv:=by simp only[Po.cv,CV.denil,CV.denilL,dg_denil,eQ,denilL_str,denilL_dg,bK2]
theorem Po.isAgg (x:Po):x.cv.isAgg=true:=rfl
theorem Po.getAll (x:Po):CV.getAt 0 3 true x.cv=some x.cv:=by
 have:=Po.cells x;simp_all[Po.cv,CV.cells,CV.getAt,and_self,if_true]
theorem Po.setAll (x:Po)(y:HV):CV.setAt 0 3 y x.cv=some y:=by
 have:=Po.cells x;simp_all[Po.cv,CV.cells,CV.setAt,and_self,if_true]
theorem Po.fold (n:aG)(v:Int)(r:List Pr):CV.agg [.str n,.int .i64 v,.slc (r.map Pr.cv)]=Po.cv ⟨n,v,r⟩:=rfl
theorem Po.get_n (x:Po):CV.getAt 0 1 false x.cv=some (.str x.n):=by simp[Po.cv,CV.getAt,CV.getAtL,CV.cells,CV.cellsL,dg_cells,aO]
theorem Po.set_n (x:Po)(y:HV):CV.setAt 0 1 y x.cv=some (.agg [y,.c (.int .i64 x.v),.c (.slc (x.r.map Pr.cv))]):=by simp[Po.cv,CV.setAt,CV.setAtL,CV.cells,CV.cellsL,dg_cells,aO]
theorem Po.get_v (x:Po):CV.getAt 1 1 false x.cv=some (.int .i64 x.v):=by simp[Po.cv,CV.getAt,CV.getAtL,CV.cells,CV.cellsL,dg_cells,aO]
theorem Po.set_v (x:Po)(y:HV):CV.setAt 1 1 y x.cv=some (.agg [.c (.str x.n),y,.c (.slc (x.r.map Pr.cv))]):=by simp[Po.cv,CV.setAt,CV.setAtL,CV.cells,CV.cellsL,dg_cells,aO]
theorem Po.get_r (x:Po):CV.getAt 2 1 false x.cv=some (.slc (x.r.map Pr.cv)):=by simp[Po.cv,CV.getAt,CV.getAtL,CV.cells,CV.cellsL,dg_cells,aO]
theorem Po.set_r (x:Po)(y:HV):CV.setAt 2 1 y x.cv=some (.agg [.c (.str x.n),.c (.int .i64 x.v),y]):=by simp[Po.cv,CV.setAt,CV.setAtL,CV.cells,CV.cellsL,dg_cells,aO]
def jU (a b:Rq):Bool:=a.k==b.k&&(a.n==b.n&&(a.m==b.m&&a.t==b.t))
theorem bT6 (a b:Rq):jU a b=true↔a=b:=by
 obtain⟨a1,a2,a3,a4⟩:=a;obtain⟨b1,b2,b3,b4⟩:=b;simp only[jU,Bool.and_eq_true,beq_iff_eq,Rq.mk.injEq]
def rq0 :Rq:=⟨0,0,0,[]⟩
def nd0 :Nd:=⟨0,0,0,rq0⟩
def inB (n lo hi:Int):Bool:=decide (lo≤n)&&decide (n≤hi)
def lT (q:Rq):Bool:=
 if q.k=1∨q.k=3∨q.k=5 then inB q.n 1 32&&(q.m==0&&q.t==[])
 else if q.k=4 then inB q.n 1 32&&(inB q.m 0 32&&q.t==[])
 else if q.k=2 then gW q.t&&(q.n==0&&q.m==0)
 else if q.k=6 then inB q.n 1 10&&(q.m==0&&q.t==[])
 else if q.k=7 then inB q.n 0 yF&&(q.m==0&&q.t==[])
 else if q.k=8 then q.n==0&&(q.m==0&&q.t==[])
 else false
def eR (n:Nd):Bool:=
 if n.k=1 then n.c==0&&(n.n==0&&lT n.q)
 else if n.k=2∨n.k=3 then inB n.c 1 60&&(jU n.q rq0&&n.n==0)
 else if n.k=4 then inB n.c 1 60&&(jU n.q rq0&&inB n.n 1 n.c)
 else false
theorem iB {n:Nd}(h:eR n=true):0≤n.c∧n.c≤60∧(n.k=1→n.c=0)∧(n.k≠1→1≤n.c):=by
 unfold eR inB at h;split at h
 · grind
 grind
def sC :List Nd→Int→Int→Option (Int×Int)
 |[],m,v=>some (m,v)
 |n::l,m,v=>if m=0 then none else if eR n then sC l (m+(n.c-1)) (if n.k=1 then v+1 else v)else none
def eN (l:List Nd):Bool:=decide (1≤l.length)&&(decide (l.length≤60)&&(match sC l 1 0 with|some (m,v)=>m==0&&decide (v≤16)|none=>false))
def lv :List Nd→Nat
 |[]=>0
 |n::l=>(if n.k=1 then 1 else 0)+lv l
theorem uI (a b:List Nd):lv (a++b)=lv a+lv b:=by
 induction a with
 |nil=>simp[lv]
 |cons n a ih=>grind[lv]
theorem bT7 (l:List Nd):lv l≤l.length:=by
 induction l with
 |nil=>simp[lv]
 |cons n l ih=>grind[lv,List.length_cons]
def skip :Nat→List Nd→Option (List Nd)
 |0,l=>some l
 |_+1,[]=>none
 |m+1,n::l=>skip (m+n.c.toNat) l
theorem fR (l:List Nd):skip 0 l=some l:=by cases l<;>rfl
theorem oF : ∀(l:List Nd) (a b:Nat),skip (a+b) l=(skip a l).bind (skip b)
 |l,0,b=>by rw[Nat.zero_add,fR];rfl
 |[],a+1,b=>by rw[show a+1+b=a+b+1 from by omega];rfl
 |n::l,a+1,b=>by
  rw[show a+1+b=a+b+1 from by omega];show skip (a+b+n.c.toNat) l=(skip (a+n.c.toNat) l).bind (skip b);rw[show a+b+n.c.toNat=a+n.c.toNat+b from by omega];exact oF l (a+n.c.toNat) b
theorem aD0 : ∀(l:List Nd) (m:Nat) (r:List Nd),skip m l=some r→ ∃j,j≤l.length∧r=l.drop j∧(0<m→0<j)∧m≤j+0*l.length+m
 |l,0,r,h=>by rw[fR]at h;cases h;exact⟨0,by omega,by simp,by omega,by omega⟩
 |[],m+1,r,h=>by cases h
 |n::l,m+1,r,h=>by
  obtain⟨j,h1,h2,_,_⟩:=aD0 l (m+n.c.toNat) r h;exact⟨j+1,by grind,by grind,by omega,by omega⟩
theorem aD1 : ∀(l:List Nd) (m:Nat) (v v':Int),sC l m v=some (0,v')→skip m l=some []∧v'=v+lv l∧ ∀n∈l,eR n=true
 |[],m,v,v',h=>by
  simp only[sC,Option.some.injEq,Prod.mk.injEq]at h;obtain⟨h1,rfl⟩:=h;have:m=0:=by omega
  subst this;exact⟨rfl,by simp[lv],by simp⟩
 |n::l,m,v,v',h=>by
  simp only[sC]at h;split at h
  · cases h
  ·
   rename_i h1;split at h
   ·
    rename_i h2;obtain⟨c1,c2,c3,c4⟩:=iB h2;obtain⟨k,rfl⟩: ∃k,m=k+1:=⟨m-1,by omega⟩;have e:((k+1:Nat):Int)+(n.c-1)=((k+n.c.toNat:Nat):Int):=by omega
    rw[e]at h;obtain⟨g1,g2,g3⟩:=aD1 l _ _ _ h;refine⟨g1,?_,fun x hx=>?_⟩
    · grind[lv]
    grind
   grind
structure IsTree (l:List Nd):Prop where
 ne:1≤l.length
 len:l.length≤60
 skip:skip 1 l=some []
 node: ∀n∈l,eR n=true
 lv:lv l≤16
variable {l:List Nd}
theorem jL (h:eN l=true):IsTree l:=by
 unfold eN at h;simp only[Bool.and_eq_true,decide_eq_true_eq]at h;obtain⟨h1,h2,h3⟩:=h;split at h3
 · rename_i m v hs;simp only[Bool.and_eq_true,beq_iff_eq,decide_eq_true_eq]at h3;obtain⟨rfl,h4⟩:=h3;obtain⟨g1,g2,g3⟩:=aD1 l 1 0 v hs;exact⟨h1,h2,g1,g3,by omega⟩
 grind
theorem uJ : ∀(l:List Nd) (m:Nat),skip m l=some []→(∀n∈l,eR n=true)→ ∀i,i<l.length→ ∃k,skip (k+1) (l.drop i)=some []
 |[],m,h,_,i,hi=>by grind
 |n::l,0,h,_,i,hi=>by grind[fR]
 |n::l,m+1,h,hn,0,hi=>⟨m,h⟩
 |n::l,m+1,h,hn,i+1,hi=>by
  have h':skip (m+n.c.toNat) l=some []:=h;exact uJ l _ h' (fun x hx=>hn x (List.mem_cons_of_mem _ hx)) i (by grind)
variable {i:Nat}
theorem bT8 (h:IsTree l)(hi:i<l.length): ∃j,i<j∧j≤l.length∧skip 1 (l.drop i)=some (l.drop j):=by
 obtain⟨k,hk⟩:=uJ l 1 h.skip h.node i hi;rw[Nat.add_comm,oF]at hk;cases h1:skip 1 (l.drop i)with
 |none=>grind
 |some r=>
  grind[aD0,List.length_drop,List.drop_drop]
def aft (l:List Nd)(i:Nat):Nat:=l.length-((skip 1 (l.drop i)).getD []).length
theorem bT9 {j:Nat}(hj:j≤l.length)(h:skip 1 (l.drop i)=some (l.drop j)):aft l i=j:=by grind[aft,List.length_drop]
theorem lU (h:IsTree l)(hi:i<l.length):i<aft l i∧aft l i≤l.length∧skip 1 (l.drop i)=some (l.drop (aft l i)):=by grind[bT8,bT9]
def AftSt (l:List Nd)(i m p:Nat):Prop:=p≤l.length∧skip m (l.drop p)=skip 1 (l.drop i)
theorem AftSt.lt (ht:IsTree l){m p:Nat}(hi:i<l.length)(h:AftSt l i m p)(hm:0<m):p<l.length:=by
 rcases Nat.lt_or_ge p l.length with h1|h1
 · grind
 · have h2:=h.2;rw[List.drop_eq_nil_of_le h1,(lU ht hi).2.2]at h2;obtain⟨k,rfl⟩: ∃k,m=k+1:=⟨m-1,by omega⟩;cases h2
theorem AftSt.next {m p:Nat}(h:AftSt l i (m+1) p)(hp:p<l.length):AftSt l i (m+l[p].c.toNat) (p+1):=by
 refine⟨hp,?_⟩;rw[←h.2,List.drop_eq_getElem_cons hp];rfl
theorem AftSt.fin {p:Nat}(h:AftSt l i 0 p):p=aft l i:=by
 have h2:=h.2;rw[fR]at h2;exact(bT9 h.1 h2.symm).symm
def eZ (l:List Nd):Nat→Nat→List Nat
 |0,_=>[]
 |k+1,at_=>at_::eZ l k (aft l at_)
def aJ4 (l:List Nd)(i:Nat):List Nat:=eZ l (l.getD i nd0).c.toNat (i+1)
def uK (l:List Nd)(i:Int):List Nat:=if eN l=true∧0≤i∧i<l.length then aJ4 l i.toNat else []
theorem mE (l:List Nd): ∀(k p:Nat),(eZ l k p).length=k
 |0,_=>rfl
 |k+1,p=>by simp[eZ,mE l k]
def dS (l:List Nd):Nat→Nat→Nat
 |0,p=>p
 |k+1,p=>dS l k (aft l p)
theorem fN (l:List Nd): ∀(k p:Nat),dS l (k+1) p=aft l (dS l k p)
 |0,p=>rfl
 |k+1,p=>fN l k (aft l p)
theorem qQ (l:List Nd): ∀(k p j:Nat),j≤k→(eZ l k p).take j=eZ l j p
 |_,p,0,_=>by simp[eZ]
 |0,p,j+1,h=>by omega
 |k+1,p,j+1,h=>by simp only[eZ,List.take_succ_cons,qQ l k _ j (by omega)]
theorem jG (l:List Nd): ∀(k p:Nat),eZ l (k+1) p=eZ l k p++[dS l k p]
 |0,p=>rfl
 |k+1,p=>by rw[eZ,jG l k];rfl
theorem mY {l:List Nd}(ht:IsTree l){i:Nat}(hi:i<l.length): ∀k,k≤l[i].c.toNat→dS l k (i+1)≤l.length∧skip (l[i].c.toNat-k) (l.drop (dS l k (i+1)))=some (l.drop (aft l i))∧i+1≤dS l k (i+1)
 |0,_=>by
  refine⟨hi,?_,Nat.le_refl _⟩;have:=(lU ht hi).2.2;rw[List.drop_eq_getElem_cons hi]at this;show skip (l[i].c.toNat-0) _=_;rw[←this,Nat.sub_zero];show _=skip (0+l[i].c.toNat) _;rw[Nat.zero_add];rfl
 |k+1,hk=>by
  obtain⟨h1,h2,h3⟩:=mY ht hi k (by omega);have hlt:dS l k (i+1)<l.length:=by
   rcases Nat.lt_or_ge (dS l k (i+1)) l.length with h|h
   · exact h
   · rw[List.drop_eq_nil_of_le h]at h2;obtain⟨q,hq⟩: ∃q,l[i].c.toNat-k=q+1:=⟨l[i].c.toNat-k-1,by omega⟩;rw[hq]at h2;cases h2
  obtain⟨a1,a2,a3⟩:=lU ht hlt;rw[fN];refine⟨a2,?_,by omega⟩;obtain⟨q,hq⟩: ∃q,l[i].c.toNat-k=1+q:=⟨l[i].c.toNat-k-1,by omega⟩;rw[hq,oF,a3]at h2;grind
variable {k:Nat}
theorem sD (ht:IsTree l)(hi:i<l.length)(hk:k<l[i].c.toNat):dS l k (i+1)<l.length:=by
 obtain⟨h1,h2,_⟩:=mY ht hi k (by omega);rcases Nat.lt_or_ge (dS l k (i+1)) l.length with h|h
 · exact h
 · rw[List.drop_eq_nil_of_le h]at h2;obtain⟨q,hq⟩: ∃q,l[i].c.toNat-k=q+1:=⟨l[i].c.toNat-k-1,by omega⟩;rw[hq]at h2;cases h2
def eG :Nat→List Nd→List Nat
 |_,[]=>[]
 |o,n::l=>if n.k=1 then o::eG (o+1) l else eG (o+1) l
def gI (l:List Nd):List Nat:=if eN l then eG 0 l else []
theorem iO : ∀(l:List Nd) (o:Nat),(eG o l).length=lv l
 |[],_=>rfl
 |n::l,o=>by
  rw[eG,lv];split
  · simp[iO l];omega
  · simp[iO l]
theorem mZ : ∀(a b:List Nd) (o:Nat),eG o (a++b)=eG o a++eG (o+a.length) b
 |[],b,o=>by simp[eG]
 |n::a,b,o=>by
  simp only[List.cons_append,eG,mZ a b,List.length_cons];grind
theorem aY1 (h:i<l.length):eG 0 (l.take (i+1))=eG 0 (l.take i)++(if l[i].k=1 then [i]else []):=by
 rw[List.take_succ_eq_append_getElem h,mZ];have:(l.take i).length=i:=by simp;omega
 simp_all[Nat.zero_add,eG]
theorem aP3 (h:IsTree l):1≤lv l:=by
 have key: ∀(l:List Nd) (m:Nat),skip (m+1) l=some []→(∀n∈l,eR n=true)→1≤lv l:=by
  intro l;induction l with
  |nil=>intro m h;cases h
  |cons n l ih=>
   intro m h hn;have h':skip (m+n.c.toNat) l=some []:=h;obtain⟨c1,c2,c3,c4⟩:=iB (hn n List.mem_cons_self);rw[lv];split
   · omega
   · rename_i hk;have:=c4 hk;obtain⟨q,hq⟩: ∃q,m+n.c.toNat=q+1:=⟨m+n.c.toNat-1,by omega⟩;grind
 exact key l 0 h.skip h.node
def cnt (l:List Bool):Nat:=(l.filter id).length
theorem aY2 (a b:List Bool):cnt (a++b)=cnt a+cnt b:=by simp[cnt]
theorem bU0 (l:List Bool):cnt l≤l.length:=List.length_filter_le _ _
theorem aP4 (l:List Bool):cnt l.reverse=cnt l:=by simp[cnt,List.filter_reverse]
def kJ (n:Nd)(l:List Bool):Bool:=if n.k=2 then cnt l==l.length else if n.k=3 then decide (1≤cnt l)else decide (n.n≤cnt l)
def evS (T:Nat)(tr:List Bool):List Nd→List Bool
 |[]=>[]
 |n::l=>if n.k=1 then tr.getD (T-lv (n::l)) false::evS T tr l else kJ n ((evS T tr l).take n.c.toNat)::(evS T tr l).drop n.c.toNat
theorem aP5 {T:Nat}{tr:List Bool}: ∀(l:List Nd) (m:Nat) (r:List Nd),(∀n∈l,eR n=true)→skip m l=some r→evS T tr r=(evS T tr l).drop m
 |l,0,r,_,h=>by grind[fR]
 |[],m+1,r,_,h=>by cases h
 |n::l,m+1,r,hn,h=>by
  have h':skip (m+n.c.toNat) l=some r:=h;rw[aP5 l _ r (fun x hx=>hn x (List.mem_cons_of_mem _ hx)) h',evS];obtain⟨c1,c2,c3,c4⟩:=iB (hn n List.mem_cons_self);grind[List.drop_drop,Nat.add_comm]
theorem aJ5 {T:Nat}{tr:List Bool}: ∀(l:List Nd) (m:Nat),(∀n∈l,eR n=true)→skip m l=some []→(evS T tr l).length=m
 |[],0,_,_=>rfl
 |[],m+1,_,h=>by cases h
 |n::l,0,_,h=>by grind[fR]
 |n::l,m+1,hn,h=>by
  have h':skip (m+n.c.toNat) l=some []:=h;have ih:=aJ5 (T:=T) (tr:=tr) l _ (fun x hx=>hn x (List.mem_cons_of_mem _ hx)) h';obtain⟨c1,c2,c3,c4⟩:=iB (hn n List.mem_cons_self);grind[evS,List.length_cons,List.length_drop]
def mF (l:List Nd)(tr:List Bool):Bool:=eN l&&(evS (lv l) tr l).headD false
def fJ (l:List Nd)(tr:List Bool)(i:Nat):Bool:=(evS (lv l) tr (l.drop i)).headD false
theorem sF (l:List Nd)(i:Nat):lv (l.take i)+lv (l.drop i)=lv l:=by rw[←uI,List.take_append_drop]
variable {tr:List Bool}
theorem aY3 (hi:i<l.length)(hk:l[i].k=1):fJ l tr i=tr.getD (lv (l.take i)) false:=by
 have h1:=sF l i;unfold fJ;rw[List.drop_eq_getElem_cons hi]at h1⊢;rw[evS,if_pos hk];grind
theorem bK3 (ht:IsTree l)(hi:i<l.length)(hk:k<l[i].c.toNat):
  fJ l tr (dS l k (i+1))=(evS (lv l) tr (l.drop (i+1))).getD k false:=by
 have key: ∀k,k≤l[i].c.toNat→skip k (l.drop (i+1))=some (l.drop (dS l k (i+1))):=by
  intro k;induction k with
  |zero=>intro _;rw[fR];rfl
  |succ k ih=>
   grind[oF,fN,lU,sD]
 unfold fJ;rw[aP5 _ _ _ (fun n hn=>ht.node n (List.mem_of_mem_drop hn)) (key k (by omega))];simp_all
theorem aP6 (hi:i<l.length)(hk:l[i].k≠1):fJ l tr i=kJ l[i] ((evS (lv l) tr (l.drop (i+1))).take l[i].c.toNat):=by
 unfold fJ;rw[List.drop_eq_getElem_cons hi,evS,if_neg hk];rfl
theorem yG (ht:IsTree l)(hi:i<l.length):l[i].c.toNat≤(evS (lv l) tr (l.drop (i+1))).length:=by
 obtain⟨k,hk⟩:=uJ l 1 ht.skip ht.node i hi;rw[List.drop_eq_getElem_cons hi]at hk;have hk':skip (k+l[i].c.toNat) (l.drop (i+1))=some []:=hk;rw[aJ5 _ _ (fun n hn=>ht.node n (List.mem_of_mem_drop hn)) hk'];omega
structure Sp where
 h:Bool
 d:List Dig
 m:Int
def Sp.cv (x:Sp):CV:= .agg [.bool x.h,.slc (x.d.map dg),.int .i64 x.m]
theorem Sp.cells (x:Sp):x.cv.cells=3:=by simp[Sp.cv,CV.cells,CV.cellsL,dg_cells,aO]
theorem Sp.denil (x:Sp):x.cv.denil=x.cv:=by simp only[Sp.cv,CV.denil,CV.denilL,dg_denil,eQ,denilL_str,denilL_dg]
theorem denilL_Sp (l:List Sp):CV.denilL (l.map Sp.cv)=l.map Sp.cv:=cE Sp.denil l
theorem Sp.isAgg (x:Sp):x.cv.isAgg=true:=rfl
theorem Sp.getAll (x:Sp):CV.getAt 0 3 true x.cv=some x.cv:=by
 have:=Sp.cells x;simp only[Sp.cv,CV.cells]at this;simp only[Sp.cv,CV.getAt,this,and_self,if_true]
theorem Sp.setAll (x:Sp)(y:HV):CV.setAt 0 3 y x.cv=some y:=by
 have:=Sp.cells x;simp only[Sp.cv,CV.cells]at this;simp only[Sp.cv,CV.setAt,this,and_self,if_true]
theorem Sp.fold (h:Bool)(d:List Dig)(m:Int):CV.agg [.bool h,.slc (d.map dg),.int .i64 m]=Sp.cv ⟨h,d,m⟩:=rfl
theorem Sp.get_h (x:Sp):CV.getAt 0 1 false x.cv=some (.bool x.h):=by simp[Sp.cv,CV.getAt,CV.getAtL,CV.cells,CV.cellsL,dg_cells,aO]
theorem Sp.set_h (x:Sp)(y:HV):CV.setAt 0 1 y x.cv=some (.agg [y,.c (.slc (x.d.map dg)),.c (.int .i64 x.m)]):=by simp[Sp.cv,CV.setAt,CV.setAtL,CV.cells,CV.cellsL,dg_cells,aO]
theorem Sp.get_d (x:Sp):CV.getAt 1 1 false x.cv=some (.slc (x.d.map dg)):=by simp[Sp.cv,CV.getAt,CV.getAtL,CV.cells,CV.cellsL,dg_cells,aO]
theorem Sp.set_d (x:Sp)(y:HV):CV.setAt 1 1 y x.cv=some (.agg [.c (.bool x.h),y,.c (.int .i64 x.m)]):=by simp[Sp.cv,CV.setAt,CV.setAtL,CV.cells,CV.cellsL,dg_cells,aO]
theorem Sp.get_m (x:Sp):CV.getAt 2 1 false x.cv=some (.int .i64 x.m):=by simp[Sp.cv,CV.getAt,CV.getAtL,CV.cells,CV.cellsL,dg_cells,aO]
theorem Sp.set_m (x:Sp)(y:HV):CV.setAt 2 1 y x.cv=some (.agg [.c (.bool x.h),.c (.slc (x.d.map dg)),y]):=by simp[Sp.cv,CV.setAt,CV.setAtL,CV.cells,CV.cellsL,dg_cells,aO]
structure Ln where
 k:Int
 n:Int
 d:List Dig
 f:List Int
def Ln.cv (x:Ln):CV:= .agg [.int .i64 x.k,.int .i64 x.n,.slc (x.d.map dg),.slc (x.f.map (CV.int .i64))]
theorem Ln.cells (x:Ln):x.cv.cells=4:=by simp[Ln.cv,CV.cells,CV.cellsL,dg_cells,aO]
theorem Ln.denil (x:Ln):x.cv.denil=x.cv:=by simp only[Ln.cv,CV.denil,CV.denilL,dg_denil,eQ,denilL_str,denilL_dg,denilL_int]
theorem denilL_Ln (l:List Ln):CV.denilL (l.map Ln.cv)=l.map Ln.cv:=cE Ln.denil l
theorem Ln.isAgg (x:Ln):x.cv.isAgg=true:=rfl
theorem Ln.getAll (x:Ln):CV.getAt 0 4 true x.cv=some x.cv:=by
 have:=Ln.cells x;simp only[Ln.cv,CV.cells]at this;simp only[Ln.cv,CV.getAt,this,and_self,if_true]
theorem Ln.setAll (x:Ln)(y:HV):CV.setAt 0 4 y x.cv=some y:=by
 have:=Ln.cells x;simp only[Ln.cv,CV.cells]at this;simp only[Ln.cv,CV.setAt,this,and_self,if_true]
theorem Ln.fold (k:Int)(n:Int)(d:List Dig)(f:List Int):CV.agg [.int .i64 k,.int .i64 n,.slc (d.map dg),.slc (f.map (CV.int .i64))]=Ln.cv ⟨k,n,d,f⟩:=rfl
theorem Ln.get_k (x:Ln):CV.getAt 0 1 false x.cv=some (.int .i64 x.k):=by simp[Ln.cv,CV.getAt,CV.getAtL,CV.cells,CV.cellsL,dg_cells,aO]
theorem Ln.set_k (x:Ln)(y:HV):CV.setAt 0 1 y x.cv=some (.agg [y,.c (.int .i64 x.n),.c (.slc (x.d.map dg)),.c (.slc (x.f.map (CV.int .i64)))]):=by simp[Ln.cv,CV.setAt,CV.setAtL,CV.cells,CV.cellsL,dg_cells,aO]
theorem Ln.get_n (x:Ln):CV.getAt 1 1 false x.cv=some (.int .i64 x.n):=by simp[Ln.cv,CV.getAt,CV.getAtL,CV.cells,CV.cellsL,dg_cells,aO]
theorem Ln.set_n (x:Ln)(y:HV):CV.setAt 1 1 y x.cv=some (.agg [.c (.int .i64 x.k),y,.c (.slc (x.d.map dg)),.c (.slc (x.f.map (CV.int .i64)))]):=by simp[Ln.cv,CV.setAt,CV.setAtL,CV.cells,CV.cellsL,dg_cells,aO]
theorem Ln.get_d (x:Ln):CV.getAt 2 1 false x.cv=some (.slc (x.d.map dg)):=by simp[Ln.cv,CV.getAt,CV.getAtL,CV.cells,CV.cellsL,dg_cells,aO]
theorem Ln.set_d (x:Ln)(y:HV):CV.setAt 2 1 y x.cv=some (.agg [.c (.int .i64 x.k),.c (.int .i64 x.n),y,.c (.slc (x.f.map (CV.int .i64)))]):=by simp[Ln.cv,CV.setAt,CV.setAtL,CV.cells,CV.cellsL,dg_cells,aO]
theorem Ln.get_f (x:Ln):CV.getAt 3 1 false x.cv=some (.slc (x.f.map (CV.int .i64))):=by simp[Ln.cv,CV.getAt,CV.getAtL,CV.cells,CV.cellsL,dg_cells,aO]
theorem Ln.set_f (x:Ln)(y:HV):CV.setAt 3 1 y x.cv=some (.agg [.c (.int .i64 x.k),.c (.int .i64 x.n),.c (.slc (x.d.map dg)),y]):=by simp[Ln.cv,CV.setAt,CV.setAtL,CV.cells,CV.cellsL,dg_cells,aO]
structure Og where
 v:Dig
 l:aG
 r:aG
def Og.cv (x:Og):CV:= .agg [dg x.v,.str x.l,.str x.r]
theorem Og.cells (x:Og):x.cv.cells=34:=by simp[Og.cv,CV.cells,CV.cellsL,dg_cells,aO]
theorem Og.denil (x:Og):x.cv.denil=x.cv:=by simp only[Og.cv,CV.denil,CV.denilL,dg_denil,eQ,denilL_str,denilL_dg]
theorem denilL_Og (l:List Og):CV.denilL (l.map Og.cv)=l.map Og.cv:=cE Og.denil l
theorem Og.isAgg (x:Og):x.cv.isAgg=true:=rfl
theorem Og.getAll (x:Og):CV.getAt 0 34 true x.cv=some x.cv:=by
 have:=Og.cells x;simp only[Og.cv,CV.cells]at this;simp only[Og.cv,CV.getAt,this,and_self,if_true]
theorem Og.setAll (x:Og)(y:HV):CV.setAt 0 34 y x.cv=some y:=by
 have:=Og.cells x;simp only[Og.cv,CV.cells]at this;simp only[Og.cv,CV.setAt,this,and_self,if_true]
theorem Og.fold (v:Dig)(l:aG)(r:aG):CV.agg [dg v,.str l,.str r]=Og.cv ⟨v,l,r⟩:=rfl
theorem Og.get_v (x:Og):CV.getAt 0 32 true x.cv=some (dg x.v):=by simp[Og.cv,CV.getAt,CV.getAtL,CV.cells,CV.cellsL,dg_cells,aO,dg_getAt]
theorem Og.set_v (x:Og)(y:HV):CV.setAt 0 32 y x.cv=some (.agg [y,.c (.str x.l),.c (.str x.r)]):=by simp[Og.cv,CV.setAt,CV.setAtL,CV.cells,CV.cellsL,dg_cells,aO,dg_setAt]
theorem Og.get_l (x:Og):CV.getAt 32 1 false x.cv=some (.str x.l):=by simp[Og.cv,CV.getAt,CV.getAtL,CV.cells,CV.cellsL,dg_cells,aO]
theorem Og.set_l (x:Og)(y:HV):CV.setAt 32 1 y x.cv=some (.agg [.c (dg x.v),y,.c (.str x.r)]):=by simp[Og.cv,CV.setAt,CV.setAtL,CV.cells,CV.cellsL,dg_cells,aO]
theorem Og.get_r (x:Og):CV.getAt 33 1 false x.cv=some (.str x.r):=by simp[Og.cv,CV.getAt,CV.getAtL,CV.cells,CV.cellsL,dg_cells,aO]
theorem Og.set_r (x:Og)(y:HV):CV.setAt 33 1 y x.cv=some (.agg [.c (dg x.v),.c (.str x.l),y]):=by simp[Og.cv,CV.setAt,CV.setAtL,CV.cells,CV.cellsL,dg_cells,aO]
structure Qs where
 n:aG
 i:aG
 a:Dig
def Qs.cv (x:Qs):CV:= .agg [.str x.n,.str x.i,dg x.a]
theorem Qs.cells (x:Qs):x.cv.cells=34:=by simp[Qs.cv,CV.cells,CV.cellsL,dg_cells,aO]
theorem Qs.denil (x:Qs):x.cv.denil=x.cv:=by simp only[Qs.cv,CV.denil,CV.denilL,dg_denil,eQ,denilL_str,denilL_dg]
theorem denilL_Qs (l:List Qs):CV.denilL (l.map Qs.cv)=l.map Qs.cv:=cE Qs.denil l
theorem Qs.isAgg (x:Qs):x.cv.isAgg=true:=rfl
theorem Qs.getAll (x:Qs):CV.getAt 0 34 true x.cv=some x.cv:=by
 have:=Qs.cells x;simp only[Qs.cv,CV.cells]at this;simp only[Qs.cv,CV.getAt,this,and_self,if_true]
theorem Qs.setAll (x:Qs)(y:HV):CV.setAt 0 34 y x.cv=some y:=by
 have:=Qs.cells x;simp only[Qs.cv,CV.cells]at this;simp only[Qs.cv,CV.setAt,this,and_self,if_true]
theorem Qs.fold (n:aG)(i:aG)(a:Dig):CV.agg [.str n,.str i,dg a]=Qs.cv ⟨n,i,a⟩:=rfl
theorem Qs.get_n (x:Qs):CV.getAt 0 1 false x.cv=some (.str x.n):=by simp[Qs.cv,CV.getAt,CV.getAtL,CV.cells,CV.cellsL,dg_cells,aO]
theorem Qs.set_n (x:Qs)(y:HV):CV.setAt 0 1 y x.cv=some (.agg [y,.c (.str x.i),.c (dg x.a)]):=by simp[Qs.cv,CV.setAt,CV.setAtL,CV.cells,CV.cellsL,dg_cells,aO]
theorem Qs.get_i (x:Qs):CV.getAt 1 1 false x.cv=some (.str x.i):=by simp[Qs.cv,CV.getAt,CV.getAtL,CV.cells,CV.cellsL,dg_cells,aO]
theorem Qs.set_i (x:Qs)(y:HV):CV.setAt 1 1 y x.cv=some (.agg [.c (.str x.n),y,.c (dg x.a)]):=by simp[Qs.cv,CV.setAt,CV.setAtL,CV.cells,CV.cellsL,dg_cells,aO]
theorem Qs.get_a (x:Qs):CV.getAt 2 32 true x.cv=some (dg x.a):=by simp[Qs.cv,CV.getAt,CV.getAtL,CV.cells,CV.cellsL,dg_cells,aO,dg_getAt]
theorem Qs.set_a (x:Qs)(y:HV):CV.setAt 2 32 y x.cv=some (.agg [.c (.str x.n),.c (.str x.i),y]):=by simp[Qs.cv,CV.setAt,CV.setAtL,CV.cells,CV.cellsL,dg_cells,aO,dg_setAt]
structure Dv where
 q:Qs
 t:Int
 p:Dig
 r:Int
 o:Og
 l:List Ln
def Dv.cv (x:Dv):CV:= .agg [x.q.cv,.int .i64 x.t,dg x.p,.int .i64 x.r,x.o.cv,.slc (x.l.map Ln.cv)]
theorem Dv.cells (x:Dv):x.cv.cells=103:=by simp[Dv.cv,CV.cells,CV.cellsL,dg_cells,aO,Qs.cells,Og.cells]
theorem Dv.denil (x:Dv):x.cv.denil=x.cv:=by simp only[Dv.cv,CV.denil,CV.denilL,dg_denil,eQ,denilL_str,denilL_dg,Qs.denil,Og.denil,denilL_Ln]
theorem denilL_Dv (l:List Dv):CV.denilL (l.map Dv.cv)=l.map Dv.cv:=cE Dv.denil l
theorem Dv.isAgg (x:Dv):x.cv.isAgg=true:=rfl
theorem Dv.getAll (x:Dv):CV.getAt 0 103 true x.cv=some x.cv:=by
 have:=Dv.cells x;simp only[Dv.cv,CV.cells]at this;simp only[Dv.cv,CV.getAt,this,and_self,if_true]
theorem Dv.setAll (x:Dv)(y:HV):CV.setAt 0 103 y x.cv=some y:=by
 have:=Dv.cells x;simp only[Dv.cv,CV.cells]at this;simp only[Dv.cv,CV.setAt,this,and_self,if_true]
theorem Dv.fold (q:Qs)(t:Int)(p:Dig)(r:Int)(o:Og)(l:List Ln):CV.agg [q.cv,.int .i64 t,dg p,.int .i64 r,o.cv,.slc (l.map Ln.cv)]=Dv.cv ⟨q,t,p,r,o,l⟩:=rfl
theorem Dv.get_q (x:Dv):CV.getAt 0 34 true x.cv=some (x.q.cv):=by simp[Dv.cv,CV.getAt,CV.getAtL,CV.cells,CV.cellsL,dg_cells,aO,Qs.cells,Og.cells,Qs.getAll]
theorem Dv.set_q (x:Dv)(y:HV):CV.setAt 0 34 y x.cv=some (.agg [y,.c (.int .i64 x.t),.c (dg x.p),.c (.int .i64 x.r),.c (x.o.cv),.c (.slc (x.l.map Ln.cv))]):=by simp[Dv.cv,CV.setAt,CV.setAtL,CV.cells,CV.cellsL,dg_cells,aO,Qs.cells,Og.cells,Qs.setAll]
theorem Dv.get_t (x:Dv):CV.getAt 34 1 false x.cv=some (.int .i64 x.t):=by simp[Dv.cv,CV.getAt,CV.getAtL,CV.cells,CV.cellsL,dg_cells,aO,Qs.cells,Og.cells]
theorem Dv.set_t (x:Dv)(y:HV):CV.setAt 34 1 y x.cv=some (.agg [.c (x.q.cv),y,.c (dg x.p),.c (.int .i64 x.r),.c (x.o.cv),.c (.slc (x.l.map Ln.cv))]):=by simp[Dv.cv,CV.setAt,CV.setAtL,CV.cells,CV.cellsL,dg_cells,aO,Qs.cells,Og.cells]
theorem Dv.get_p (x:Dv):CV.getAt 35 32 true x.cv=some (dg x.p):=by simp[Dv.cv,CV.getAt,CV.getAtL,CV.cells,CV.cellsL,dg_cells,aO,Qs.cells,Og.cells,dg_getAt]
theorem Dv.set_p (x:Dv)(y:HV):CV.setAt 35 32 y x.cv=some (.agg [.c (x.q.cv),.c (.int .i64 x.t),y,.c (.int .i64 x.r),.c (x.o.cv),.c (.slc (x.l.map Ln.cv))]):=by simp[Dv.cv,CV.setAt,CV.setAtL,CV.cells,CV.cellsL,dg_cells,aO,Qs.cells,Og.cells,dg_setAt]
theorem Dv.get_r (x:Dv):CV.getAt 67 1 false x.cv=some (.int .i64 x.r):=by simp[Dv.cv,CV.getAt,CV.getAtL,CV.cells,CV.cellsL,dg_cells,aO,Qs.cells,Og.cells]
theorem Dv.set_r (x:Dv)(y:HV):CV.setAt 67 1 y x.cv=some (.agg [.c (x.q.cv),.c (.int .i64 x.t),.c (dg x.p),y,.c (x.o.cv),.c (.slc (x.l.map Ln.cv))]):=by simp[Dv.cv,CV.setAt,CV.setAtL,CV.cells,CV.cellsL,dg_cells,aO,Qs.cells,Og.cells]
theorem Dv.get_o (x:Dv):CV.getAt 68 34 true x.cv=some (x.o.cv):=by simp[Dv.cv,CV.getAt,CV.getAtL,CV.cells,CV.cellsL,dg_cells,aO,Qs.cells,Og.cells,Og.getAll]
theorem Dv.set_o (x:Dv)(y:HV):CV.setAt 68 34 y x.cv=some (.agg [.c (x.q.cv),.c (.int .i64 x.t),.c (dg x.p),.c (.int .i64 x.r),y,.c (.slc (x.l.map Ln.cv))]):=by simp[Dv.cv,CV.setAt,CV.setAtL,CV.cells,CV.cellsL,dg_cells,aO,Qs.cells,Og.cells,Og.setAll]
theorem Dv.get_l (x:Dv):CV.getAt 102 1 false x.cv=some (.slc (x.l.map Ln.cv)):=by simp[Dv.cv,CV.getAt,CV.getAtL,CV.cells,CV.cellsL,dg_cells,aO,Qs.cells,Og.cells]
theorem Dv.set_l (x:Dv)(y:HV):CV.setAt 102 1 y x.cv=some (.agg [.c (x.q.cv),.c (.int .i64 x.t),.c (dg x.p),.c (.int .i64 x.r),.c (x.o.cv),y]):=by simp[Dv.cv,CV.setAt,CV.setAtL,CV.cells,CV.cellsL,dg_cells,aO,Qs.cells,Og.cells]
def sp0 :Sp:=⟨false,[],0⟩
def eD (S:List Sp):List Bool:=S.map Sp.h
theorem bU1 (S:List Sp)(k:Nat):(eD S).getD k false=(S.getD k sp0).h:=by
 unfold eD;rcases Nat.lt_or_ge k S.length with h|h
 · simp[List.getD_eq_getElem?_getD,h]
 · simp[List.getD_eq_getElem?_getD,h,sp0]
def wantN (n:Nd):Nat:=if n.k=2 then n.c.toNat else if n.k=3 then 1 else n.n.toNat
def kK (n:Nd):Int:=if n.k=2 then 2 else if n.k=3 then 3 else 4
def aP7 (l:List Nd)(S:List Sp)(i:Nat):Ln:=⟨1,i,(S.getD (lv (l.take i)) sp0).d,[]⟩
def wT (P:Nat→List Ln→List Ln)(v:Nat→Bool)(w:Nat)(st:List Ln×List Int)(j:Nat):List Ln×List Int:=
 if st.2.length<w∧v j=true then(P j st.1,st.2++[((P j st.1).length:Int)-1])else st
def prv (l:List Nd)(S:List Sp):Nat→Nat→List Ln→List Ln
 |0,_,out=>out
 |f+1,i,out=>
  if(l.getD i nd0).k=1 then out++[aP7 l S i]
  else
   let st:=(aJ4 l i).foldl (wT (prv l S f) (fJ l (eD S)) (wantN (l.getD i nd0))) (out,[])
   st.1++[⟨kK (l.getD i nd0),i,[],st.2⟩]
def pU (l:List Nd)(S:List Sp)(f i j:Nat)(out:List Ln):List Ln×List Int:=
 (eZ l j (i+1)).foldl (wT (prv l S f) (fJ l (eD S)) (wantN (l.getD i nd0))) (out,[])
theorem uL (l:List Nd)(S:List Sp)(f i:Nat)(out:List Ln):pU l S f i 0 out=(out,[]):=rfl
theorem kD (l:List Nd)(S:List Sp)(f i j:Nat)(out:List Ln):pU l S f i (j+1) out=wT (prv l S f) (fJ l (eD S)) (wantN (l.getD i nd0)) (pU l S f i j out) (dS l j (i+1)):=by
 unfold pU;rw[jG,List.foldl_append];rfl
variable {out:List Ln}{S:List Sp}
theorem bU2 {f:Nat}(h:(l.getD i nd0).k=1):prv l S (f+1) i out=out++[aP7 l S i]:=by
 rw[prv,if_pos h]
theorem bK4 {f:Nat}(h:(l.getD i nd0).k≠1):prv l S (f+1) i out=(pU l S f i (l.getD i nd0).c.toNat out).1++[⟨kK (l.getD i nd0),i,[],(pU l S f i (l.getD i nd0).c.toNat out).2⟩]:=by
 rw[prv,if_neg h];rfl
def aY4 (l:List Nd)(S:List Sp)(i j:Nat):Nat:=cnt ((eZ l j (i+1)).map (fJ l (eD S)))
theorem bK5 (l:List Nd)(S:List Sp)(i j:Nat):aY4 l S i (j+1)=aY4 l S i j+(if fJ l (eD S) (dS l j (i+1))then 1 else 0):=by
 unfold aY4;rw[jG,List.map_append,aY2];congr 1;simp only[List.map_cons,List.map_nil,cnt,List.filter,id];split<;>simp_all
theorem yH (l:List Nd)(S:List Sp)(f i:Nat)(out:List Ln): ∀j,(pU l S f i j out).2.length=min (wantN (l.getD i nd0)) (aY4 l S i j)
 |0=>by simp[pU,eZ,aY4,cnt]
 |j+1=>by
  rw[kD,bK5,wT];have:=yH l S f i out j;split
  · rename_i h;simp only[List.length_append,List.length_cons,List.length_nil,h.2];grind
  · rename_i h;split<;>grind
theorem aY5 (ht:IsTree l)(S:List Sp)(hi:i<l.length)(hk:l[i].k≠1):fJ l (eD S) i=decide (wantN l[i]≤aY4 l S i l[i].c.toNat):=by
 have key: ∀j,j≤l[i].c.toNat→(eZ l j (i+1)).map (fJ l (eD S))=(evS (lv l) (eD S) (l.drop (i+1))).take j:=by
  intro j;induction j with
  |zero=>intro _;rfl
  |succ j ih=>
   intro hj;rw[jG,List.map_append,ih (by omega)];simp only[List.map_cons,List.map_nil];rw[bK3 ht hi (by omega)];have:=yG ht (tr:=eD S) hi;rw[List.take_succ_eq_append_getElem (by omega),List.getD_eq_getElem?_getD,List.getElem?_eq_getElem (by omega)];rfl
 have hl:=yG ht (tr:=eD S) hi;rw[aP6 hi hk,aY4,key _ (Nat.le_refl _),kJ,wantN];have hlen:((evS (lv l) (eD S) (l.drop (i+1))).take l[i].c.toNat).length=l[i].c.toNat:=by rw[List.length_take];omega
 have hc:=bU0 ((evS (lv l) (eD S) (l.drop (i+1))).take l[i].c.toNat);rw[hlen]at hc⊢;split
 · grind
 ·
  split
  · rfl
  ·
   have hn:=ht.node _ (List.getElem_mem hi);unfold eR inB at hn;have:1≤l[i].n:=by
    split at hn
    · grind
    ·
     split at hn
     · grind
     · split at hn<;>grind
   grind
theorem uM (ht:IsTree l)(hi:i<l.length):dS l l[i].c.toNat (i+1)=aft l i:=by
 obtain⟨h1,h2,h3⟩:=mY ht hi l[i].c.toNat (Nat.le_refl _);rw[Nat.sub_self,fR]at h2;have h4:=(lU ht hi).2.1;have:=congrArg List.length (Option.some.inj h2);simp only[List.length_drop]at this;omega
theorem cG0 (hi:i<l.length):l.getD i nd0=l[i]:=by simp[List.getD_eq_getElem?_getD,hi]
def aP8 (l:List Nd)(S:List Sp):List Ln:=prv l S l.length 0 []
def qR (l:List Nd)(S:List Sp):List Ln:=if mF l (eD S)then aP8 l S++[⟨5,0,[],[((aP8 l S).length:Int)-1]⟩]else []
end Go.Pl
