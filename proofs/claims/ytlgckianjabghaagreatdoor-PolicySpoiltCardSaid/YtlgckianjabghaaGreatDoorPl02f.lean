/- Decoded words and documents (2.1, 2.3), in plain Lean. By an AI agent. -/
import Derived.Laws.Externs
import Derived.Lib.BytesEntry
import Derived.Test.YtlgckianjabghaaGreatDoorPl18e
import Derived.Test.YtlgckianjabghaaGreatDoorChecked
set_option linter.unusedSimpArgs false
set_option linter.unusedVariables false
set_option linter.defProp false
namespace Go.Pl
open Go Go.Hl
abbrev aB1 :={l:List UInt8//l.length=16}
def hf (h:aB1):CV:= .agg (h.1.map u8)
theorem bH (h:aB1):(hf h).cells=16:=by rw[←h.2];exact us_cells h.1
theorem iY (h:aB1):(hf h).denil=hf h:=by simp only[hf,CV.denil];rw[cX (f:=u8) (fun _=>rfl)]
theorem bW1 (h:aB1):CV.getAt 0 16 true (hf h)=some (hf h):=by
 have:=bH h;simp_all[hf,CV.cells,CV.getAt,J7,F7]
theorem bW2 (h:aB1)(x:HV):CV.setAt 0 16 x (hf h)=some x:=by
 have:=bH h;simp_all[hf,CV.cells,CV.setAt,J7,F7]
theorem denilL_dg (l:List Dig):CV.denilL (l.map dg)=l.map dg:=cX dg_denil l
theorem lD {l:List UInt8}:(∀v∈l.map u8,v.cells=1)↔True:=by simp[u8,CV.cells]
structure Pk where
 h:Int
 r:aB1
def Pk.cv (x:Pk):CV:= .agg [.int .i64 x.h,hf x.r]
theorem Pk.cells (x:Pk):x.cv.cells=17:=by simp[Pk.cv,CV.cells,CV.cellsL,dg_cells,bH]
theorem Pk.denil (x:Pk):x.cv.denil=x.cv:=by simp only[Pk.cv,CV.denil,CV.denilL,dg_denil,iY,denilL_str,denilL_dg]
theorem Pk.isAgg (x:Pk):x.cv.isAgg=true:=rfl
theorem Pk.getAll (x:Pk):CV.getAt 0 17 true x.cv=some x.cv:=by
 have:=Pk.cells x;simp_all[Pk.cv,CV.cells,CV.getAt,J7,F7]
theorem Pk.setAll (x:Pk)(y:HV):CV.setAt 0 17 y x.cv=some y:=by
 have:=Pk.cells x;simp_all[Pk.cv,CV.cells,CV.setAt,J7,F7]
theorem Pk.fold (h:Int)(r:aB1):CV.agg [.int .i64 h,hf r]=Pk.cv ⟨h,r⟩:=rfl
theorem Pk.get_r (x:Pk):CV.getAt 1 16 true x.cv=some (hf x.r):=by simp[Pk.cv,CV.getAt,CV.getAtL,CV.cells,CV.cellsL,dg_cells,bH,bW1]
theorem Pk.set_r (x:Pk)(y:HV):CV.setAt 1 16 y x.cv=some (.agg [.c (.int .i64 x.h),y]):=by simp[Pk.cv,CV.setAt,CV.setAtL,CV.cells,CV.cellsL,dg_cells,bH,bW2]
structure Ky where
 p:Pk
 o:aH
 rs:List aH
 fr:Int
 un:Int
def Ky.cv (x:Ky):CV:= .agg [x.p.cv,.str x.o,.slc (x.rs.map .str),.int .i64 x.fr,.int .i64 x.un]
theorem Ky.cells (x:Ky):x.cv.cells=21:=by simp[Ky.cv,CV.cells,CV.cellsL,dg_cells,bH,Pk.cells]
theorem Ky.denil (x:Ky):x.cv.denil=x.cv:=by simp only[Ky.cv,CV.denil,CV.denilL,dg_denil,iY,denilL_str,denilL_dg,Pk.denil]
theorem bN6 (l:List Ky):CV.denilL (l.map Ky.cv)=l.map Ky.cv:=cX Ky.denil l
theorem Ky.isAgg (x:Ky):x.cv.isAgg=true:=rfl
theorem Ky.getAll (x:Ky):CV.getAt 0 21 true x.cv=some x.cv:=by
 have:=Ky.cells x;simp_all[Ky.cv,CV.cells,CV.getAt,J7,F7]
theorem Ky.setAll (x:Ky)(y:HV):CV.setAt 0 21 y x.cv=some y:=by
 have:=Ky.cells x;simp_all[Ky.cv,CV.cells,CV.setAt,J7,F7]
theorem Ky.fold (p:Pk)(o:aH)(rs:List aH)(fr:Int)(un:Int):CV.agg [p.cv,.str o,.slc (rs.map .str),.int .i64 fr,.int .i64 un]=Ky.cv ⟨p,o,rs,fr,un⟩:=rfl
structure Qt where
 r:aH
 n:Int
def Qt.cv (x:Qt):CV:= .agg [.str x.r,.int .i64 x.n]
theorem Qt.cells (x:Qt):x.cv.cells=2:=by simp[Qt.cv,CV.cells,CV.cellsL,dg_cells,bH]
theorem Qt.denil (x:Qt):x.cv.denil=x.cv:=by simp only[Qt.cv,CV.denil,CV.denilL,dg_denil,iY,denilL_str,denilL_dg]
theorem bN7 (l:List Qt):CV.denilL (l.map Qt.cv)=l.map Qt.cv:=cX Qt.denil l
theorem Qt.isAgg (x:Qt):x.cv.isAgg=true:=rfl
theorem Qt.getAll (x:Qt):CV.getAt 0 2 true x.cv=some x.cv:=by
 have:=Qt.cells x;simp_all[Qt.cv,CV.cells,CV.getAt,J7,F7]
theorem Qt.setAll (x:Qt)(y:HV):CV.setAt 0 2 y x.cv=some y:=by
 have:=Qt.cells x;simp_all[Qt.cv,CV.cells,CV.setAt,J7,F7]
theorem Qt.fold (r:aH)(n:Int):CV.agg [.str r,.int .i64 n]=Qt.cv ⟨r,n⟩:=rfl
theorem Qt.get_r (x:Qt):CV.getAt 0 1 false x.cv=some (.str x.r):=by simp[Qt.cv,CV.getAt,CV.getAtL,CV.cells,CV.cellsL,dg_cells,bH]
theorem Qt.set_r (x:Qt)(y:HV):CV.setAt 0 1 y x.cv=some (.agg [y,.c (.int .i64 x.n)]):=by simp[Qt.cv,CV.setAt,CV.setAtL,CV.cells,CV.cellsL,dg_cells,bH]
theorem Qt.get_n (x:Qt):CV.getAt 1 1 false x.cv=some (.int .i64 x.n):=by simp[Qt.cv,CV.getAt,CV.getAtL,CV.cells,CV.cellsL,dg_cells,bH]
theorem Qt.set_n (x:Qt)(y:HV):CV.setAt 1 1 y x.cv=some (.agg [.c (.str x.r),y]):=by simp[Qt.cv,CV.setAt,CV.setAtL,CV.cells,CV.cellsL,dg_cells,bH]
structure Rv where
 k:Dig
 t:Int
def Rv.cv (x:Rv):CV:= .agg [dg x.k,.int .i64 x.t]
theorem Rv.cells (x:Rv):x.cv.cells=33:=by simp[Rv.cv,CV.cells,CV.cellsL,dg_cells,bH]
theorem Rv.denil (x:Rv):x.cv.denil=x.cv:=by simp only[Rv.cv,CV.denil,CV.denilL,dg_denil,iY,denilL_str,denilL_dg]
theorem bN8 (l:List Rv):CV.denilL (l.map Rv.cv)=l.map Rv.cv:=cX Rv.denil l
theorem Rv.isAgg (x:Rv):x.cv.isAgg=true:=rfl
theorem Rv.getAll (x:Rv):CV.getAt 0 33 true x.cv=some x.cv:=by
 have:=Rv.cells x;simp_all[Rv.cv,CV.cells,CV.getAt,J7,F7]
theorem Rv.setAll (x:Rv)(y:HV):CV.setAt 0 33 y x.cv=some y:=by
 have:=Rv.cells x;simp_all[Rv.cv,CV.cells,CV.setAt,J7,F7]
theorem Rv.fold (k:Dig)(t:Int):CV.agg [dg k,.int .i64 t]=Rv.cv ⟨k,t⟩:=rfl
theorem Rv.get_k (x:Rv):CV.getAt 0 32 true x.cv=some (dg x.k):=by simp[Rv.cv,CV.getAt,CV.getAtL,CV.cells,CV.cellsL,dg_cells,bH,dg_getAt]
theorem Rv.set_k (x:Rv)(y:HV):CV.setAt 0 32 y x.cv=some (.agg [y,.c (.int .i64 x.t)]):=by simp[Rv.cv,CV.setAt,CV.setAtL,CV.cells,CV.cellsL,dg_cells,bH,dg_setAt]
theorem Rv.get_t (x:Rv):CV.getAt 32 1 false x.cv=some (.int .i64 x.t):=by simp[Rv.cv,CV.getAt,CV.getAtL,CV.cells,CV.cellsL,dg_cells,bH]
theorem Rv.set_t (x:Rv)(y:HV):CV.setAt 32 1 y x.cv=some (.agg [.c (dg x.k),y]):=by simp[Rv.cv,CV.setAt,CV.setAtL,CV.cells,CV.cellsL,dg_cells,bH]
structure Rt where
 v:Int
 e:Int
 q:List Qt
 k:List Ky
 x:List Rv
def Rt.cv (x:Rt):CV:= .agg [.int .i64 x.v,.int .i64 x.e,.slc (x.q.map Qt.cv),.slc (x.k.map Ky.cv),.slc (x.x.map Rv.cv)]
theorem Rt.cells (x:Rt):x.cv.cells=5:=by simp[Rt.cv,CV.cells,CV.cellsL,dg_cells,bH]
theorem Rt.denil (x:Rt):x.cv.denil=x.cv:=by simp only[Rt.cv,CV.denil,CV.denilL,dg_denil,iY,denilL_str,denilL_dg,bN7,bN6,bN8]
theorem Rt.isAgg (x:Rt):x.cv.isAgg=true:=rfl
theorem Rt.getAll (x:Rt):CV.getAt 0 5 true x.cv=some x.cv:=by
 have:=Rt.cells x;simp_all[Rt.cv,CV.cells,CV.getAt,J7,F7]
theorem Rt.setAll (x:Rt)(y:HV):CV.setAt 0 5 y x.cv=some y:=by
 have:=Rt.cells x;simp_all[Rt.cv,CV.cells,CV.setAt,J7,F7]
theorem Rt.fold (v:Int)(e:Int)(q:List Qt)(k:List Ky)(x:List Rv):CV.agg [.int .i64 v,.int .i64 e,.slc (q.map Qt.cv),.slc (k.map Ky.cv),.slc (x.map Rv.cv)]=Rt.cv ⟨v,e,q,k,x⟩:=rfl
theorem Rt.get_v (x:Rt):CV.getAt 0 1 false x.cv=some (.int .i64 x.v):=by simp[Rt.cv,CV.getAt,CV.getAtL,CV.cells,CV.cellsL,dg_cells,bH]
theorem Rt.set_v (x:Rt)(y:HV):CV.setAt 0 1 y x.cv=some (.agg [y,.c (.int .i64 x.e),.c (.slc (x.q.map Qt.cv)),.c (.slc (x.k.map Ky.cv)),.c (.slc (x.x.map Rv.cv))]):=by simp[Rt.cv,CV.setAt,CV.setAtL,CV.cells,CV.cellsL,dg_cells,bH]
theorem Rt.get_q (x:Rt):CV.getAt 2 1 false x.cv=some (.slc (x.q.map Qt.cv)):=by simp[Rt.cv,CV.getAt,CV.getAtL,CV.cells,CV.cellsL,dg_cells,bH]
theorem Rt.set_q (x:Rt)(y:HV):CV.setAt 2 1 y x.cv=some (.agg [.c (.int .i64 x.v),.c (.int .i64 x.e),y,.c (.slc (x.k.map Ky.cv)),.c (.slc (x.x.map Rv.cv))]):=by simp[Rt.cv,CV.setAt,CV.setAtL,CV.cells,CV.cellsL,dg_cells,bH]
theorem Rt.get_k (x:Rt):CV.getAt 3 1 false x.cv=some (.slc (x.k.map Ky.cv)):=by simp[Rt.cv,CV.getAt,CV.getAtL,CV.cells,CV.cellsL,dg_cells,bH]
theorem Rt.set_k (x:Rt)(y:HV):CV.setAt 3 1 y x.cv=some (.agg [.c (.int .i64 x.v),.c (.int .i64 x.e),.c (.slc (x.q.map Qt.cv)),y,.c (.slc (x.x.map Rv.cv))]):=by simp[Rt.cv,CV.setAt,CV.setAtL,CV.cells,CV.cellsL,dg_cells,bH]
def uP :Int:=1099511627776
def al (c:UInt8):Bool:=(decide (97≤c)&&decide (c≤122))||(decide (48≤c)&&decide (c≤57))
def nc (c:UInt8):Bool:=al c||(c==46||(c==95||c==45))
def dX :aH→Bool
 |[]=>false
 |c::r=>decide ((c::r).length≤64)&&(al c&&r.all nc)
def inN (t:Int):Bool:=decide (0≤t)&&decide (t≤uP)
end Go.Pl
namespace Go.Proofs
namespace YtlgckianjabghaaGreatDoor
open Go Go.Hl Go.Pl
theorem ty1 :aT Tryz.prog 1=some ⟨1,8,.func,.nilf⟩:=by kernel_rfl
theorem ty2 :aT Tryz.prog 2=some ⟨1,8,.int .i64,.int .i64 0⟩:=by kernel_rfl
theorem ty3 :aT Tryz.prog 3=some ⟨1,8,.int .i64,.int .i64 0⟩:=by kernel_rfl
theorem ty4 :aT Tryz.prog 4=some ⟨1,1,.bool,.bool false⟩:=by kernel_rfl
theorem ty5 :aT Tryz.prog 5=some ⟨1,1,.int .u8,.int .u8 0⟩:=by kernel_rfl
theorem ty6 :aT Tryz.prog 6=some ⟨1,1,.int .u8,.int .u8 0⟩:=by kernel_rfl
theorem ty7 :aT Tryz.prog 7=some ⟨4,24,.struct [(0,2),(1,3),(2,4),(3,6)],.agg [.int .i64 0,.int .i64 0,.bool false,.int .u8 0]⟩:=by kernel_rfl
theorem ty8 :aT Tryz.prog 8=some ⟨4,24,.struct [(0,2),(1,3),(2,4),(3,6)],.agg [.int .i64 0,.int .i64 0,.bool false,.int .u8 0]⟩:=by kernel_rfl
theorem ty9 :aT Tryz.prog 9=some ⟨1,16,.string,.str []⟩:=by kernel_rfl
theorem ty10 :aT Tryz.prog 10=some ⟨1,16,.string,.str []⟩:=by kernel_rfl
theorem ty11 :aT Tryz.prog 11=some ⟨1,16,.string,.str []⟩:=by kernel_rfl
theorem ty12 :aT Tryz.prog 12=some ⟨1,8,.int .u64,.int .u64 0⟩:=by kernel_rfl
theorem ty13 :aT Tryz.prog 13=some ⟨2,24,.struct [(0,9),(1,12)],.agg [.str [],.int .u64 0]⟩:=by kernel_rfl
theorem ty14 :aT Tryz.prog 14=some ⟨2,24,.struct [(0,9),(1,12)],.agg [.str [],.int .u64 0]⟩:=by kernel_rfl
theorem ty15 :aT Tryz.prog 15=some ⟨1,8,.pointer 179,.nilp⟩:=by kernel_rfl
theorem ty16 :aT Tryz.prog 16=some ⟨1,8,.pointer 182,.nilp⟩:=by kernel_rfl
theorem ty17 :aT Tryz.prog 17=some ⟨1,8,.pointer 191,.nilp⟩:=by kernel_rfl
theorem ty18 :aT Tryz.prog 18=some ⟨1,8,.struct [(0,17)],.agg [.nilp]⟩:=by kernel_rfl
theorem ty19 :aT Tryz.prog 19=some ⟨1,8,.struct [(0,17)],.agg [.nilp]⟩:=by kernel_rfl
theorem ty20 :aT Tryz.prog 20=some ⟨1,16,.iface true,.nili⟩:=by kernel_rfl
theorem ty21 :aT Tryz.prog 21=some ⟨1,4,.int .i32,.int .i32 0⟩:=by kernel_rfl
theorem ty22 :aT Tryz.prog 22=some ⟨1,24,.slice 3,.nils⟩:=by kernel_rfl
theorem ty23 :aT Tryz.prog 23=some ⟨1,24,.slice 5,.nils⟩:=by kernel_rfl
theorem ty24 :aT Tryz.prog 24=some ⟨1,8,.int .i64,.int .i64 0⟩:=by kernel_rfl
theorem ty26 :aT Tryz.prog 26=some ⟨1,8,.func,.nilf⟩:=by kernel_rfl
theorem ty27 :aT Tryz.prog 27=some ⟨1,24,.slice 48,.nils⟩:=by kernel_rfl
theorem ty28 :aT Tryz.prog 28=some ⟨3,48,.struct [(0,9),(1,2),(2,27)],.agg [.str [],.int .i64 0,.nils]⟩:=by kernel_rfl
theorem ty29 :aT Tryz.prog 29=some ⟨3,48,.struct [(0,9),(1,2),(2,27)],.agg [.str [],.int .i64 0,.nils]⟩:=by kernel_rfl
theorem ty30 :aT Tryz.prog 30=some ⟨1,8,.func,.nilf⟩:=by kernel_rfl
theorem ty31 :aT Tryz.prog 31=some ⟨1,8,.pointer 59,.nilp⟩:=by kernel_rfl
theorem ty32 :aT Tryz.prog 32=some ⟨1,8,.func,.nilf⟩:=by kernel_rfl
theorem ty33 :aT Tryz.prog 33=some ⟨1,24,.slice 37,.nils⟩:=by kernel_rfl
theorem ty35 :aT Tryz.prog 35=some ⟨1,8,.func,.nilf⟩:=by kernel_rfl
theorem ty36 :aT Tryz.prog 36=some ⟨1,8,.func,.nilf⟩:=by kernel_rfl
theorem ty37 :aT Tryz.prog 37=some ⟨1,24,.slice 9,.nils⟩:=by kernel_rfl
theorem ty38 :aT Tryz.prog 38=some ⟨1,8,.func,.nilf⟩:=by kernel_rfl
theorem ty40 :aT Tryz.prog 40=some ⟨1,8,.func,.nilf⟩:=by kernel_rfl
theorem ty41 :aT Tryz.prog 41=some ⟨1,8,.func,.nilf⟩:=by kernel_rfl
theorem ty42 :aT Tryz.prog 42=some ⟨1,8,.func,.nilf⟩:=by kernel_rfl
theorem ty43 :aT Tryz.prog 43=some ⟨1,8,.func,.nilf⟩:=by kernel_rfl
theorem ty44 :aT Tryz.prog 44=some ⟨1,8,.func,.nilf⟩:=by kernel_rfl
theorem ty45 :aT Tryz.prog 45=some ⟨1,8,.func,.nilf⟩:=by kernel_rfl
theorem ty46 :aT Tryz.prog 46=some ⟨1,24,.slice 56,.nils⟩:=by kernel_rfl
theorem ty47 :aT Tryz.prog 47=some ⟨5,80,.struct [(0,9),(1,9),(2,9),(3,2),(4,46)],.agg [.str [],.str [],.str [],.int .i64 0,.nils]⟩:=by kernel_rfl
theorem ty48 :aT Tryz.prog 48=some ⟨5,80,.struct [(0,9),(1,9),(2,9),(3,2),(4,46)],.agg [.str [],.str [],.str [],.int .i64 0,.nils]⟩:=by kernel_rfl
theorem ty50 :aT Tryz.prog 50=some ⟨1,8,.func,.nilf⟩:=by kernel_rfl
theorem ty51 :aT Tryz.prog 51=some ⟨1,8,.func,.nilf⟩:=by kernel_rfl
theorem ty52 :aT Tryz.prog 52=some ⟨1,8,.func,.nilf⟩:=by kernel_rfl
theorem ty53 :aT Tryz.prog 53=some ⟨4,40,.struct [(0,3),(1,2),(2,2),(3,9)],.agg [.int .i64 0,.int .i64 0,.int .i64 0,.str []]⟩:=by kernel_rfl
theorem ty54 :aT Tryz.prog 54=some ⟨4,40,.struct [(0,3),(1,2),(2,2),(3,9)],.agg [.int .i64 0,.int .i64 0,.int .i64 0,.str []]⟩:=by kernel_rfl
theorem ty55 :aT Tryz.prog 55=some ⟨7,64,.struct [(0,3),(1,3),(2,3),(3,54)],.agg [.int .i64 0,.int .i64 0,.int .i64 0,.agg [.int .i64 0,.int .i64 0,.int .i64 0,.str []]]⟩:=by kernel_rfl
theorem ty56 :aT Tryz.prog 56=some ⟨7,64,.struct [(0,3),(1,3),(2,3),(3,54)],.agg [.int .i64 0,.int .i64 0,.int .i64 0,.agg [.int .i64 0,.int .i64 0,.int .i64 0,.str []]]⟩:=by kernel_rfl
theorem ty57 :aT Tryz.prog 57=some ⟨1,8,.func,.nilf⟩:=by kernel_rfl
theorem ty58 :aT Tryz.prog 58=some ⟨2,32,.struct [(0,22),(1,3)],.agg [.nils,.int .i64 0]⟩:=by kernel_rfl
theorem ty59 :aT Tryz.prog 59=some ⟨2,32,.struct [(0,22),(1,3)],.agg [.nils,.int .i64 0]⟩:=by kernel_rfl
theorem ty60 :aT Tryz.prog 60=some ⟨1,8,.func,.nilf⟩:=by kernel_rfl
theorem ty62 :aT Tryz.prog 62=some ⟨1,8,.func,.nilf⟩:=by kernel_rfl
theorem ty63 :aT Tryz.prog 63=some ⟨1,8,.func,.nilf⟩:=by kernel_rfl
theorem ty64 :aT Tryz.prog 64=some ⟨1,8,.pointer 66,.nilp⟩:=by kernel_rfl
theorem ty65 :aT Tryz.prog 65=some ⟨2,32,.struct [(0,33),(1,3)],.agg [.nils,.int .i64 0]⟩:=by kernel_rfl
theorem ty66 :aT Tryz.prog 66=some ⟨2,32,.struct [(0,33),(1,3)],.agg [.nils,.int .i64 0]⟩:=by kernel_rfl
theorem ty68 :aT Tryz.prog 68=some ⟨1,8,.func,.nilf⟩:=by kernel_rfl
theorem ty69 :aT Tryz.prog 69=some ⟨1,8,.func,.nilf⟩:=by kernel_rfl
theorem ty70 :aT Tryz.prog 70=some ⟨1,8,.pointer 72,.nilp⟩:=by kernel_rfl
theorem ty71 :aT Tryz.prog 71=some ⟨5,80,.struct [(0,29),(3,22),(4,4)],.agg [.agg [.str [],.int .i64 0,.nils],.nils,.bool false]⟩:=by kernel_rfl
theorem ty72 :aT Tryz.prog 72=some ⟨5,80,.struct [(0,29),(3,22),(4,4)],.agg [.agg [.str [],.int .i64 0,.nils],.nils,.bool false]⟩:=by kernel_rfl
theorem ty73 :aT Tryz.prog 73=some ⟨1,8,.func,.nilf⟩:=by kernel_rfl
theorem ty74 :aT Tryz.prog 74=some ⟨1,8,.func,.nilf⟩:=by kernel_rfl
theorem ty75 :aT Tryz.prog 75=some ⟨1,8,.func,.nilf⟩:=by kernel_rfl
theorem ty76 :aT Tryz.prog 76=some ⟨1,8,.func,.nilf⟩:=by kernel_rfl
theorem ty77 :aT Tryz.prog 77=some ⟨1,8,.func,.nilf⟩:=by kernel_rfl
theorem ty78 :aT Tryz.prog 78=some ⟨1,24,.slice 4,.nils⟩:=by kernel_rfl
theorem ty79 :aT Tryz.prog 79=some ⟨1,8,.func,.nilf⟩:=by kernel_rfl
theorem ty80 :aT Tryz.prog 80=some ⟨1,8,.func,.nilf⟩:=by kernel_rfl
theorem ty81 :aT Tryz.prog 81=some ⟨1,8,.func,.nilf⟩:=by kernel_rfl
theorem ty82 :aT Tryz.prog 82=some ⟨1,8,.func,.nilf⟩:=by kernel_rfl
theorem ty83 :aT Tryz.prog 83=some ⟨1,8,.func,.nilf⟩:=by kernel_rfl
theorem ty84 :aT Tryz.prog 84=some ⟨1,8,.int .u64,.int .u64 0⟩:=by kernel_rfl
theorem ty85 :aT Tryz.prog 85=some ⟨1,8,.func,.nilf⟩:=by kernel_rfl
theorem ty86 :aT Tryz.prog 86=some ⟨1,8,.func,.nilf⟩:=by kernel_rfl
theorem ty87 :aT Tryz.prog 87=some ⟨1,8,.func,.nilf⟩:=by kernel_rfl
theorem ty88 :aT Tryz.prog 88=some ⟨1,8,.func,.nilf⟩:=by kernel_rfl
theorem ty89 :aT Tryz.prog 89=some ⟨1,8,.func,.nilf⟩:=by kernel_rfl
theorem ty90 :aT Tryz.prog 90=some ⟨1,8,.int .u64,.int .u64 0⟩:=by kernel_rfl
theorem ty92 :aT Tryz.prog 92=some ⟨1,8,.func,.nilf⟩:=by kernel_rfl
theorem ty93 :aT Tryz.prog 93=some ⟨1,8,.func,.nilf⟩:=by kernel_rfl
theorem ty94 :aT Tryz.prog 94=some ⟨1,8,.func,.nilf⟩:=by kernel_rfl
theorem ty95 :aT Tryz.prog 95=some ⟨1,8,.func,.nilf⟩:=by kernel_rfl
theorem ty96 :aT Tryz.prog 96=some ⟨1,8,.func,.nilf⟩:=by kernel_rfl
theorem ty97 :aT Tryz.prog 97=some ⟨1,8,.func,.nilf⟩:=by kernel_rfl
theorem ty99 :aT Tryz.prog 99=some ⟨1,8,.func,.nilf⟩:=by kernel_rfl
theorem ty101 :aT Tryz.prog 101=some ⟨1,8,.func,.nilf⟩:=by kernel_rfl
theorem ty102 :aT Tryz.prog 102=some ⟨1,8,.func,.nilf⟩:=by kernel_rfl
theorem ty103 :aT Tryz.prog 103=some ⟨1,8,.func,.nilf⟩:=by kernel_rfl
theorem ty104 :aT Tryz.prog 104=some ⟨1,8,.pointer 48,.nilp⟩:=by kernel_rfl
theorem ty106 :aT Tryz.prog 106=some ⟨1,8,.func,.nilf⟩:=by kernel_rfl
theorem ty107 :aT Tryz.prog 107=some ⟨1,8,.func,.nilf⟩:=by kernel_rfl
theorem ty108 :aT Tryz.prog 108=some ⟨1,8,.func,.nilf⟩:=by kernel_rfl
theorem ty109 :aT Tryz.prog 109=some ⟨1,8,.map 9 4,.nilm⟩:=by kernel_rfl
theorem ty110 :aT Tryz.prog 110=some ⟨1,8,.func,.nilf⟩:=by kernel_rfl
theorem ty111 :aT Tryz.prog 111=some ⟨1,8,.func,.nilf⟩:=by kernel_rfl
theorem ty112 :aT Tryz.prog 112=some ⟨1,8,.func,.nilf⟩:=by kernel_rfl
theorem ty113 :aT Tryz.prog 113=some ⟨1,8,.func,.nilf⟩:=by kernel_rfl
theorem ty114 :aT Tryz.prog 114=some ⟨1,8,.func,.nilf⟩:=by kernel_rfl
theorem ty115 :aT Tryz.prog 115=some ⟨1,8,.func,.nilf⟩:=by kernel_rfl
theorem ty116 :aT Tryz.prog 116=some ⟨1,8,.func,.nilf⟩:=by kernel_rfl
theorem ty117 :aT Tryz.prog 117=some ⟨1,8,.func,.nilf⟩:=by kernel_rfl
theorem ty118 :aT Tryz.prog 118=some ⟨1,24,.slice 141,.nils⟩:=by kernel_rfl
theorem ty120 :aT Tryz.prog 120=some ⟨1,8,.func,.nilf⟩:=by kernel_rfl
theorem ty121 :aT Tryz.prog 121=some ⟨1,8,.func,.nilf⟩:=by kernel_rfl
theorem ty122 :aT Tryz.prog 122=some ⟨1,8,.func,.nilf⟩:=by kernel_rfl
theorem ty123 :aT Tryz.prog 123=some ⟨1,8,.func,.nilf⟩:=by kernel_rfl
theorem ty124 :aT Tryz.prog 124=some ⟨1,8,.func,.nilf⟩:=by kernel_rfl
theorem ty125 :aT Tryz.prog 125=some ⟨1,8,.func,.nilf⟩:=by kernel_rfl
theorem ty126 :aT Tryz.prog 126=some ⟨1,8,.func,.nilf⟩:=by kernel_rfl
theorem ty127 :aT Tryz.prog 127=some ⟨1,8,.func,.nilf⟩:=by kernel_rfl
theorem ty129 :aT Tryz.prog 129=some ⟨1,8,.func,.nilf⟩:=by kernel_rfl
theorem ty130 :aT Tryz.prog 130=some ⟨1,8,.func,.nilf⟩:=by kernel_rfl
theorem ty131 :aT Tryz.prog 131=some ⟨1,8,.func,.nilf⟩:=by kernel_rfl
theorem ty132 :aT Tryz.prog 132=some ⟨1,8,.func,.nilf⟩:=by kernel_rfl
theorem ty133 :aT Tryz.prog 133=some ⟨1,24,.slice 138,.nils⟩:=by kernel_rfl
theorem ty135 :aT Tryz.prog 135=some ⟨1,8,.func,.nilf⟩:=by kernel_rfl
theorem ty136 :aT Tryz.prog 136=some ⟨1,8,.func,.nilf⟩:=by kernel_rfl
theorem ty137 :aT Tryz.prog 137=some ⟨2,16,.struct [(0,3),(1,5)],.agg [.int .i64 0,.int .u8 0]⟩:=by kernel_rfl
theorem ty138 :aT Tryz.prog 138=some ⟨2,16,.struct [(0,3),(1,5)],.agg [.int .i64 0,.int .u8 0]⟩:=by kernel_rfl
theorem ty139 :aT Tryz.prog 139=some ⟨1,8,.func,.nilf⟩:=by kernel_rfl
theorem ty140 :aT Tryz.prog 140=some ⟨2,16,.struct [(0,3),(1,5)],.agg [.int .i64 0,.int .u8 0]⟩:=by kernel_rfl
theorem ty141 :aT Tryz.prog 141=some ⟨2,16,.struct [(0,3),(1,5)],.agg [.int .i64 0,.int .u8 0]⟩:=by kernel_rfl
theorem ty143 :aT Tryz.prog 143=some ⟨1,8,.func,.nilf⟩:=by kernel_rfl
theorem ty144 :aT Tryz.prog 144=some ⟨1,8,.func,.nilf⟩:=by kernel_rfl
theorem ty145 :aT Tryz.prog 145=some ⟨1,8,.func,.nilf⟩:=by kernel_rfl
theorem ty146 :aT Tryz.prog 146=some ⟨1,8,.func,.nilf⟩:=by kernel_rfl
theorem ty148 :aT Tryz.prog 148=some ⟨1,8,.func,.nilf⟩:=by kernel_rfl
theorem ty149 :aT Tryz.prog 149=some ⟨1,8,.func,.nilf⟩:=by kernel_rfl
theorem ty150 :aT Tryz.prog 150=some ⟨1,8,.func,.nilf⟩:=by kernel_rfl
theorem ty152 :aT Tryz.prog 152=some ⟨1,8,.func,.nilf⟩:=by kernel_rfl
theorem ty153 :aT Tryz.prog 153=some ⟨1,4,.int .u32,.int .u32 0⟩:=by kernel_rfl
theorem ty155 :aT Tryz.prog 155=some ⟨1,8,.func,.nilf⟩:=by kernel_rfl
theorem ty156 :aT Tryz.prog 156=some ⟨1,8,.pointer 2,.nilp⟩:=by kernel_rfl
theorem ty157 :aT Tryz.prog 157=some ⟨1,24,.slice 156,.nils⟩:=by kernel_rfl
theorem ty158 :aT Tryz.prog 158=some ⟨1,8,.func,.nilf⟩:=by kernel_rfl
theorem ty159 :aT Tryz.prog 159=some ⟨24,24,.array 24 5,.agg [.int .u8 0,.int .u8 0,.int .u8 0,.int .u8 0,.int .u8 0,.int .u8 0,.int .u8 0,.int .u8 0,.int .u8 0,.int .u8 0,.int .u8 0,.int .u8 0,.int .u8 0,.int .u8 0,.int .u8 0,.int .u8 0,.int .u8 0,.int .u8 0,.int .u8 0,.int .u8 0,.int .u8 0,.int .u8 0,.int .u8 0,.int .u8 0]⟩:=by kernel_rfl
theorem ty160 :aT Tryz.prog 160=some ⟨1,8,.func,.nilf⟩:=by kernel_rfl
theorem ty161 :aT Tryz.prog 161=some ⟨1,8,.func,.nilf⟩:=by kernel_rfl
theorem ty163 :aT Tryz.prog 163=some ⟨1,8,.func,.nilf⟩:=by kernel_rfl
theorem ty165 :aT Tryz.prog 165=some ⟨2,2,.struct [(0,5),(1,5)],.agg [.int .u8 0,.int .u8 0]⟩:=by kernel_rfl
theorem ty166 :aT Tryz.prog 166=some ⟨2,2,.struct [(0,5),(1,5)],.agg [.int .u8 0,.int .u8 0]⟩:=by kernel_rfl
theorem ty167 :aT Tryz.prog 167=some ⟨32,32,.array 16 166,.agg [.agg [.int .u8 0,.int .u8 0],.agg [.int .u8 0,.int .u8 0],.agg [.int .u8 0,.int .u8 0],.agg [.int .u8 0,.int .u8 0],.agg [.int .u8 0,.int .u8 0],.agg [.int .u8 0,.int .u8 0],.agg [.int .u8 0,.int .u8 0],.agg [.int .u8 0,.int .u8 0],.agg [.int .u8 0,.int .u8 0],.agg [.int .u8 0,.int .u8 0],.agg [.int .u8 0,.int .u8 0],.agg [.int .u8 0,.int .u8 0],.agg [.int .u8 0,.int .u8 0],.agg [.int .u8 0,.int .u8 0],.agg [.int .u8 0,.int .u8 0],.agg [.int .u8 0,.int .u8 0]]⟩:=by kernel_rfl
theorem ty168 :aT Tryz.prog 168=some ⟨1,8,.func,.nilf⟩:=by kernel_rfl
theorem ty169 :aT Tryz.prog 169=some ⟨1,8,.func,.nilf⟩:=by kernel_rfl
theorem ty170 :aT Tryz.prog 170=some ⟨20,160,.array 20 84,.agg [.int .u64 0,.int .u64 0,.int .u64 0,.int .u64 0,.int .u64 0,.int .u64 0,.int .u64 0,.int .u64 0,.int .u64 0,.int .u64 0,.int .u64 0,.int .u64 0,.int .u64 0,.int .u64 0,.int .u64 0,.int .u64 0,.int .u64 0,.int .u64 0,.int .u64 0,.int .u64 0]⟩:=by kernel_rfl
theorem ty171 :aT Tryz.prog 171=some ⟨65,65,.array 65 5,.agg [.int .u8 0,.int .u8 0,.int .u8 0,.int .u8 0,.int .u8 0,.int .u8 0,.int .u8 0,.int .u8 0,.int .u8 0,.int .u8 0,.int .u8 0,.int .u8 0,.int .u8 0,.int .u8 0,.int .u8 0,.int .u8 0,.int .u8 0,.int .u8 0,.int .u8 0,.int .u8 0,.int .u8 0,.int .u8 0,.int .u8 0,.int .u8 0,.int .u8 0,.int .u8 0,.int .u8 0,.int .u8 0,.int .u8 0,.int .u8 0,.int .u8 0,.int .u8 0,.int .u8 0,.int .u8 0,.int .u8 0,.int .u8 0,.int .u8 0,.int .u8 0,.int .u8 0,.int .u8 0,.int .u8 0,.int .u8 0,.int .u8 0,.int .u8 0,.int .u8 0,.int .u8 0,.int .u8 0,.int .u8 0,.int .u8 0,.int .u8 0,.int .u8 0,.int .u8 0,.int .u8 0,.int .u8 0,.int .u8 0,.int .u8 0,.int .u8 0,.int .u8 0,.int .u8 0,.int .u8 0,.int .u8 0,.int .u8 0,.int .u8 0,.int .u8 0,.int .u8 0]⟩:=by kernel_rfl
theorem ty172 :aT Tryz.prog 172=some ⟨1,8,.func,.nilf⟩:=by kernel_rfl
theorem ty173 :aT Tryz.prog 173=some ⟨1,8,.func,.nilf⟩:=by kernel_rfl
theorem ty174 :aT Tryz.prog 174=some ⟨1,8,.func,.nilf⟩:=by kernel_rfl
theorem ty175 :aT Tryz.prog 175=some ⟨32,32,.array 32 5,zd⟩:=by kernel_rfl
theorem ty176 :aT Tryz.prog 176=some ⟨64,64,.array 64 5,us (uz 64)⟩:=by kernel_rfl
theorem ty177 :aT Tryz.prog 177=some ⟨1,8,.func,.nilf⟩:=by kernel_rfl
theorem ty178 :aT Tryz.prog 178=some ⟨4,40,.struct [(0,17),(1,17),(2,17),(3,9)],.agg [.nilp,.nilp,.nilp,.str []]⟩:=by kernel_rfl
theorem ty179 :aT Tryz.prog 179=some ⟨4,40,.struct [(0,17),(1,17),(2,17),(3,9)],.agg [.nilp,.nilp,.nilp,.str []]⟩:=by kernel_rfl
theorem ty183 :aT Tryz.prog 183=some ⟨1,8,.func,.nilf⟩:=by kernel_rfl
theorem ty184 :aT Tryz.prog 184=some ⟨1,1,.int .u8,.int .u8 0⟩:=by kernel_rfl
theorem ty185 :aT Tryz.prog 185=some ⟨1,1,.int .u8,.int .u8 0⟩:=by kernel_rfl
theorem ty186 :aT Tryz.prog 186=some ⟨1,8,.func,.nilf⟩:=by kernel_rfl
theorem ty187 :aT Tryz.prog 187=some ⟨1,8,.pointer 5,.nilp⟩:=by kernel_rfl
theorem ty188 :aT Tryz.prog 188=some ⟨1,4,.int .i32,.int .i32 0⟩:=by kernel_rfl
theorem ty189 :aT Tryz.prog 189=some ⟨1,4,.int .i32,.int .i32 0⟩:=by kernel_rfl
theorem ty190 :aT Tryz.prog 190=some ⟨11,48,.struct [(0,12),(1,12),(2,153),(3,184),(4,5),(5,5),(6,185),(7,186),(8,187),(9,188),(10,189)],.agg [.int .u64 0,.int .u64 0,.int .u32 0,.int .u8 0,.int .u8 0,.int .u8 0,.int .u8 0,.nilf,.nilp,.int .i32 0,.int .i32 0]⟩:=by kernel_rfl
theorem ty191 :aT Tryz.prog 191=some ⟨11,48,.struct [(0,12),(1,12),(2,153),(3,184),(4,5),(5,5),(6,185),(7,186),(8,187),(9,188),(10,189)],.agg [.int .u64 0,.int .u64 0,.int .u32 0,.int .u8 0,.int .u8 0,.int .u8 0,.int .u8 0,.nilf,.nilp,.int .i32 0,.int .i32 0]⟩:=by kernel_rfl
theorem eqdg175 (x y:Dig)(K:CV→Prop):kI Tryz.prog .eql 175 (.c (dg x)) (.c (dg y)) K=K (.bool (x==y)):=(bH1 (by kernel_rfl) ty175 ty5 (by kernel_rfl) x y K).1
theorem nedg175 (x y:Dig)(K:CV→Prop):kI Tryz.prog .neq 175 (.c (dg x)) (.c (dg y)) K=K (.bool (!(x==y))):=(bH1 (by kernel_rfl) ty175 ty5 (by kernel_rfl) x y K).2
theorem mixed :Tryz.prog.follows .mixedOrders=true:=by kernel_rfl
end YtlgckianjabghaaGreatDoor
end Go.Proofs
namespace Go.Pl
open Go Go.Hl
structure Rq where
 k:Int
 n:Int
 m:Int
 t:aH
def Rq.cv (x:Rq):CV:= .agg [.int .i64 x.k,.int .i64 x.n,.int .i64 x.m,.str x.t]
theorem Rq.cells (x:Rq):x.cv.cells=4:=by simp[Rq.cv,CV.cells,CV.cellsL,dg_cells,bH]
theorem Rq.denil (x:Rq):x.cv.denil=x.cv:=by simp only[Rq.cv,CV.denil,CV.denilL,dg_denil,iY,denilL_str,denilL_dg]
theorem denilL_Rq (l:List Rq):CV.denilL (l.map Rq.cv)=l.map Rq.cv:=cX Rq.denil l
theorem Rq.isAgg (x:Rq):x.cv.isAgg=true:=rfl
theorem Rq.getAll (x:Rq):CV.getAt 0 4 true x.cv=some x.cv:=by
 have:=Rq.cells x;simp_all[Rq.cv,CV.cells,CV.getAt,J7,F7]
theorem Rq.setAll (x:Rq)(y:HV):CV.setAt 0 4 y x.cv=some y:=by
 have:=Rq.cells x;simp_all[Rq.cv,CV.cells,CV.setAt,J7,F7]
theorem Rq.fold (k:Int)(n:Int)(m:Int)(t:aH):CV.agg [.int .i64 k,.int .i64 n,.int .i64 m,.str t]=Rq.cv ⟨k,n,m,t⟩:=rfl
theorem Rq.get_k (x:Rq):CV.getAt 0 1 false x.cv=some (.int .i64 x.k):=by simp[Rq.cv,CV.getAt,CV.getAtL,CV.cells,CV.cellsL,dg_cells,bH]
theorem Rq.set_k (x:Rq)(y:HV):CV.setAt 0 1 y x.cv=some (.agg [y,.c (.int .i64 x.n),.c (.int .i64 x.m),.c (.str x.t)]):=by simp[Rq.cv,CV.setAt,CV.setAtL,CV.cells,CV.cellsL,dg_cells,bH]
theorem Rq.get_n (x:Rq):CV.getAt 1 1 false x.cv=some (.int .i64 x.n):=by simp[Rq.cv,CV.getAt,CV.getAtL,CV.cells,CV.cellsL,dg_cells,bH]
theorem Rq.set_n (x:Rq)(y:HV):CV.setAt 1 1 y x.cv=some (.agg [.c (.int .i64 x.k),y,.c (.int .i64 x.m),.c (.str x.t)]):=by simp[Rq.cv,CV.setAt,CV.setAtL,CV.cells,CV.cellsL,dg_cells,bH]
theorem Rq.get_m (x:Rq):CV.getAt 2 1 false x.cv=some (.int .i64 x.m):=by simp[Rq.cv,CV.getAt,CV.getAtL,CV.cells,CV.cellsL,dg_cells,bH]
theorem Rq.set_m (x:Rq)(y:HV):CV.setAt 2 1 y x.cv=some (.agg [.c (.int .i64 x.k),.c (.int .i64 x.n),y,.c (.str x.t)]):=by simp[Rq.cv,CV.setAt,CV.setAtL,CV.cells,CV.cellsL,dg_cells,bH]
theorem Rq.get_t (x:Rq):CV.getAt 3 1 false x.cv=some (.str x.t):=by simp[Rq.cv,CV.getAt,CV.getAtL,CV.cells,CV.cellsL,dg_cells,bH]
theorem Rq.set_t (x:Rq)(y:HV):CV.setAt 3 1 y x.cv=some (.agg [.c (.int .i64 x.k),.c (.int .i64 x.n),.c (.int .i64 x.m),y]):=by simp[Rq.cv,CV.setAt,CV.setAtL,CV.cells,CV.cellsL,dg_cells,bH]
structure Nd where
 k:Int
 n:Int
 c:Int
 q:Rq
def Nd.cv (x:Nd):CV:= .agg [.int .i64 x.k,.int .i64 x.n,.int .i64 x.c,x.q.cv]
theorem Nd.cells (x:Nd):x.cv.cells=7:=by simp[Nd.cv,CV.cells,CV.cellsL,dg_cells,bH,Rq.cells]
theorem Nd.denil (x:Nd):x.cv.denil=x.cv:=by simp only[Nd.cv,CV.denil,CV.denilL,dg_denil,iY,denilL_str,denilL_dg,Rq.denil]
theorem denilL_Nd (l:List Nd):CV.denilL (l.map Nd.cv)=l.map Nd.cv:=cX Nd.denil l
theorem Nd.isAgg (x:Nd):x.cv.isAgg=true:=rfl
theorem Nd.getAll (x:Nd):CV.getAt 0 7 true x.cv=some x.cv:=by
 have:=Nd.cells x;simp_all[Nd.cv,CV.cells,CV.getAt,J7,F7]
theorem Nd.setAll (x:Nd)(y:HV):CV.setAt 0 7 y x.cv=some y:=by
 have:=Nd.cells x;simp_all[Nd.cv,CV.cells,CV.setAt,J7,F7]
theorem Nd.fold (k:Int)(n:Int)(c:Int)(q:Rq):CV.agg [.int .i64 k,.int .i64 n,.int .i64 c,q.cv]=Nd.cv ⟨k,n,c,q⟩:=rfl
theorem Nd.get_k (x:Nd):CV.getAt 0 1 false x.cv=some (.int .i64 x.k):=by simp[Nd.cv,CV.getAt,CV.getAtL,CV.cells,CV.cellsL,dg_cells,bH,Rq.cells]
theorem Nd.set_k (x:Nd)(y:HV):CV.setAt 0 1 y x.cv=some (.agg [y,.c (.int .i64 x.n),.c (.int .i64 x.c),.c (x.q.cv)]):=by simp[Nd.cv,CV.setAt,CV.setAtL,CV.cells,CV.cellsL,dg_cells,bH,Rq.cells]
theorem Nd.get_n (x:Nd):CV.getAt 1 1 false x.cv=some (.int .i64 x.n):=by simp[Nd.cv,CV.getAt,CV.getAtL,CV.cells,CV.cellsL,dg_cells,bH,Rq.cells]
theorem Nd.set_n (x:Nd)(y:HV):CV.setAt 1 1 y x.cv=some (.agg [.c (.int .i64 x.k),y,.c (.int .i64 x.c),.c (x.q.cv)]):=by simp[Nd.cv,CV.setAt,CV.setAtL,CV.cells,CV.cellsL,dg_cells,bH,Rq.cells]
theorem Nd.get_c (x:Nd):CV.getAt 2 1 false x.cv=some (.int .i64 x.c):=by simp[Nd.cv,CV.getAt,CV.getAtL,CV.cells,CV.cellsL,dg_cells,bH,Rq.cells]
theorem Nd.set_c (x:Nd)(y:HV):CV.setAt 2 1 y x.cv=some (.agg [.c (.int .i64 x.k),.c (.int .i64 x.n),y,.c (x.q.cv)]):=by simp[Nd.cv,CV.setAt,CV.setAtL,CV.cells,CV.cellsL,dg_cells,bH,Rq.cells]
theorem Nd.get_q (x:Nd):CV.getAt 3 4 true x.cv=some (x.q.cv):=by simp[Nd.cv,CV.getAt,CV.getAtL,CV.cells,CV.cellsL,dg_cells,bH,Rq.cells,Rq.getAll]
theorem Nd.set_q (x:Nd)(y:HV):CV.setAt 3 4 y x.cv=some (.agg [.c (.int .i64 x.k),.c (.int .i64 x.n),.c (.int .i64 x.c),y]):=by simp[Nd.cv,CV.setAt,CV.setAtL,CV.cells,CV.cellsL,dg_cells,bH,Rq.cells,Rq.setAll]
structure Pr where
 a:aH
 b:aH
 c:aH
 g:Int
 t:List Nd
def Pr.cv (x:Pr):CV:= .agg [.str x.a,.str x.b,.str x.c,.int .i64 x.g,.slc (x.t.map Nd.cv)]
theorem Pr.cells (x:Pr):x.cv.cells=5:=by simp[Pr.cv,CV.cells,CV.cellsL,dg_cells,bH]
theorem Pr.denil (x:Pr):x.cv.denil=x.cv:=by simp only[Pr.cv,CV.denil,CV.denilL,dg_denil,iY,denilL_str,denilL_dg,denilL_Nd]
theorem denilL_Pr (l:List Pr):CV.denilL (l.map Pr.cv)=l.map Pr.cv:=cX Pr.denil l
theorem Pr.isAgg (x:Pr):x.cv.isAgg=true:=rfl
theorem Pr.getAll (x:Pr):CV.getAt 0 5 true x.cv=some x.cv:=by
 have:=Pr.cells x;simp_all[Pr.cv,CV.cells,CV.getAt,J7,F7]
theorem Pr.setAll (x:Pr)(y:HV):CV.setAt 0 5 y x.cv=some y:=by
 have:=Pr.cells x;simp_all[Pr.cv,CV.cells,CV.setAt,J7,F7]
theorem Pr.fold (a:aH)(b:aH)(c:aH)(g:Int)(t:List Nd):CV.agg [.str a,.str b,.str c,.int .i64 g,.slc (t.map Nd.cv)]=Pr.cv ⟨a,b,c,g,t⟩:=rfl
theorem Pr.get_a (x:Pr):CV.getAt 0 1 false x.cv=some (.str x.a):=by simp[Pr.cv,CV.getAt,CV.getAtL,CV.cells,CV.cellsL,dg_cells,bH]
theorem Pr.set_a (x:Pr)(y:HV):CV.setAt 0 1 y x.cv=some (.agg [y,.c (.str x.b),.c (.str x.c),.c (.int .i64 x.g),.c (.slc (x.t.map Nd.cv))]):=by simp[Pr.cv,CV.setAt,CV.setAtL,CV.cells,CV.cellsL,dg_cells,bH]
theorem Pr.get_b (x:Pr):CV.getAt 1 1 false x.cv=some (.str x.b):=by simp[Pr.cv,CV.getAt,CV.getAtL,CV.cells,CV.cellsL,dg_cells,bH]
theorem Pr.set_b (x:Pr)(y:HV):CV.setAt 1 1 y x.cv=some (.agg [.c (.str x.a),y,.c (.str x.c),.c (.int .i64 x.g),.c (.slc (x.t.map Nd.cv))]):=by simp[Pr.cv,CV.setAt,CV.setAtL,CV.cells,CV.cellsL,dg_cells,bH]
theorem Pr.get_c (x:Pr):CV.getAt 2 1 false x.cv=some (.str x.c):=by simp[Pr.cv,CV.getAt,CV.getAtL,CV.cells,CV.cellsL,dg_cells,bH]
theorem Pr.set_c (x:Pr)(y:HV):CV.setAt 2 1 y x.cv=some (.agg [.c (.str x.a),.c (.str x.b),y,.c (.int .i64 x.g),.c (.slc (x.t.map Nd.cv))]):=by simp[Pr.cv,CV.setAt,CV.setAtL,CV.cells,CV.cellsL,dg_cells,bH]
theorem Pr.get_g (x:Pr):CV.getAt 3 1 false x.cv=some (.int .i64 x.g):=by simp[Pr.cv,CV.getAt,CV.getAtL,CV.cells,CV.cellsL,dg_cells,bH]
theorem Pr.set_g (x:Pr)(y:HV):CV.setAt 3 1 y x.cv=some (.agg [.c (.str x.a),.c (.str x.b),.c (.str x.c),y,.c (.slc (x.t.map Nd.cv))]):=by simp[Pr.cv,CV.setAt,CV.setAtL,CV.cells,CV.cellsL,dg_cells,bH]
theorem Pr.get_t (x:Pr):CV.getAt 4 1 false x.cv=some (.slc (x.t.map Nd.cv)):=by simp[Pr.cv,CV.getAt,CV.getAtL,CV.cells,CV.cellsL,dg_cells,bH]
theorem Pr.set_t (x:Pr)(y:HV):CV.setAt 4 1 y x.cv=some (.agg [.c (.str x.a),.c (.str x.b),.c (.str x.c),.c (.int .i64 x.g),y]):=by simp[Pr.cv,CV.setAt,CV.setAtL,CV.cells,CV.cellsL,dg_cells,bH]
structure Po where
 n:aH
 v:Int
 r:List Pr
def Po.cv (x:Po):CV:= .agg [.str x.n,.int .i64 x.v,.slc (x.r.map Pr.cv)]
theorem Po.cells (x:Po):x.cv.cells=3:=by simp[Po.cv,CV.cells,CV.cellsL,dg_cells,bH]
theorem Po.denil (x:Po):x.cv.denil=x.cv:=by simp only[Po.cv,CV.denil,CV.denilL,dg_denil,iY,denilL_str,denilL_dg,denilL_Pr]
theorem denilL_Po (l:List Po):CV.denilL (l.map Po.cv)=l.map Po.cv:=cX Po.denil l
theorem Po.isAgg (x:Po):x.cv.isAgg=true:=rfl
theorem Po.getAll (x:Po):CV.getAt 0 3 true x.cv=some x.cv:=by
 have:=Po.cells x;simp_all[Po.cv,CV.cells,CV.getAt,J7,F7]
theorem Po.setAll (x:Po)(y:HV):CV.setAt 0 3 y x.cv=some y:=by
 have:=Po.cells x;simp_all[Po.cv,CV.cells,CV.setAt,J7,F7]
theorem Po.fold (n:aH)(v:Int)(r:List Pr):CV.agg [.str n,.int .i64 v,.slc (r.map Pr.cv)]=Po.cv ⟨n,v,r⟩:=rfl
theorem Po.get_n (x:Po):CV.getAt 0 1 false x.cv=some (.str x.n):=by simp[Po.cv,CV.getAt,CV.getAtL,CV.cells,CV.cellsL,dg_cells,bH]
theorem Po.set_n (x:Po)(y:HV):CV.setAt 0 1 y x.cv=some (.agg [y,.c (.int .i64 x.v),.c (.slc (x.r.map Pr.cv))]):=by simp[Po.cv,CV.setAt,CV.setAtL,CV.cells,CV.cellsL,dg_cells,bH]
theorem Po.get_v (x:Po):CV.getAt 1 1 false x.cv=some (.int .i64 x.v):=by simp[Po.cv,CV.getAt,CV.getAtL,CV.cells,CV.cellsL,dg_cells,bH]
theorem Po.set_v (x:Po)(y:HV):CV.setAt 1 1 y x.cv=some (.agg [.c (.str x.n),y,.c (.slc (x.r.map Pr.cv))]):=by simp[Po.cv,CV.setAt,CV.setAtL,CV.cells,CV.cellsL,dg_cells,bH]
theorem Po.get_r (x:Po):CV.getAt 2 1 false x.cv=some (.slc (x.r.map Pr.cv)):=by simp[Po.cv,CV.getAt,CV.getAtL,CV.cells,CV.cellsL,dg_cells,bH]
theorem Po.set_r (x:Po)(y:HV):CV.setAt 2 1 y x.cv=some (.agg [.c (.str x.n),.c (.int .i64 x.v),y]):=by simp[Po.cv,CV.setAt,CV.setAtL,CV.cells,CV.cellsL,dg_cells,bH]
def gA (a b:Rq):Bool:=a.k==b.k&&(a.n==b.n&&(a.m==b.m&&a.t==b.t))
def bB5 (a b:Nd):Bool:=a.k==b.k&&(a.n==b.n&&(a.c==b.c&&gA a.q b.q))
theorem sV (a b:Rq):gA a b=true↔a=b:=by
 obtain⟨a1,a2,a3,a4⟩:=a;obtain⟨b1,b2,b3,b4⟩:=b;simp only[gA,A6,G9,Rq.mk.injEq]
theorem yJ (a b:Nd):bB5 a b=true↔a=b:=by
 obtain⟨a1,a2,a3,a4⟩:=a;obtain⟨b1,b2,b3,b4⟩:=b;simp only[bB5,A6,G9,Nd.mk.injEq,sV]
theorem bN9 (a:Nd):bB5 a a=true:=(yJ a a).2 rfl
def rq0 :Rq:=⟨0,0,0,[]⟩
def nd0 :Nd:=⟨0,0,0,rq0⟩
def inB (n lo hi:Int):Bool:=decide (lo≤n)&&decide (n≤hi)
def eA (q:Rq):Bool:=
 if q.k=1∨q.k=3∨q.k=5 then inB q.n 1 32&&(q.m==0&&q.t==[])
 else if q.k=4 then inB q.n 1 32&&(inB q.m 0 32&&q.t==[])
 else if q.k=2 then dX q.t&&(q.n==0&&q.m==0)
 else if q.k=6 then inB q.n 1 10&&(q.m==0&&q.t==[])
 else if q.k=7 then inB q.n 0 uP&&(q.m==0&&q.t==[])
 else if q.k=8 then q.n==0&&(q.m==0&&q.t==[])
 else false
def cB (n:Nd):Bool:=
 if n.k=1 then n.c==0&&(n.n==0&&eA n.q)
 else if n.k=2∨n.k=3 then inB n.c 1 60&&(gA n.q rq0&&n.n==0)
 else if n.k=4 then inB n.c 1 60&&(gA n.q rq0&&inB n.n 1 n.c)
 else false
theorem eF {n:Nd}(h:cB n=true):0≤n.c∧n.c≤60∧(n.k=1→n.c=0)∧(n.k≠1→1≤n.c):=by
 unfold cB inB at h;split at h
 · grind
 grind
def sW :List Nd→Int→Int→Option (Int×Int)
 |[],m,v=>some (m,v)
 |n::l,m,v=>if m=0 then none else if cB n then sW l (m+(n.c-1)) (if n.k=1 then v+1 else v)else none
def eB (l:List Nd):Bool:=decide (1≤l.length)&&(decide (l.length≤60)&&(match sW l 1 0 with|some (m,v)=>m==0&&decide (v≤16)|none=>false))
def lv :List Nd→Nat
 |[]=>0
 |n::l=>(if n.k=1 then 1 else 0)+lv l
theorem uQ (a b:List Nd):lv (a++b)=lv a+lv b:=by
 induction a with
 |nil=>simp[lv]
 |cons n a ih=>grind[lv]
theorem cP4 (l:List Nd):lv l≤l.length:=by
 induction l with
 |nil=>simp[lv]
 |cons n l ih=>grind[lv,List.length_cons]
def skip :Nat→List Nd→Option (List Nd)
 |0,l=>some l
 |_+1,[]=>none
 |m+1,n::l=>skip (m+n.c.toNat) l
theorem dL (l:List Nd):skip 0 l=some l:=by cases l<;>rfl
theorem fW : ∀(l:List Nd) (a b:Nat),skip (a+b) l=(skip a l).bind (skip b)
 |l,0,b=>by rw[F3,dL];rfl
 |[],a+1,b=>by rw[show a+1+b=a+b+1 from by omega];rfl
 |n::l,a+1,b=>by
  rw[show a+1+b=a+b+1 from by omega];show skip (a+b+n.c.toNat) l=(skip (a+n.c.toNat) l).bind (skip b);rw[show a+b+n.c.toNat=a+n.c.toNat+b from by omega];exact fW l (a+n.c.toNat) b
theorem gP : ∀(l:List Nd) (m:Nat) (r:List Nd),skip m l=some r→ ∃j,j≤l.length∧r=l.drop j∧(0<m→0<j)∧m≤j+0*l.length+m
 |l,0,r,h=>by rw[dL]at h;cases h;exact⟨0,by omega,by simp,by omega,by omega⟩
 |[],m+1,r,h=>by cases h
 |n::l,m+1,r,h=>by
  obtain⟨j,h1,h2,_,_⟩:=gP l (m+n.c.toNat) r h;exact⟨j+1,by grind,by grind,by omega,by omega⟩
theorem aE0 : ∀(l:List Nd) (m:Nat) (v v':Int),sW l m v=some (0,v')→skip m l=some []∧v'=v+lv l∧ ∀n∈l,cB n=true
 |[],m,v,v',h=>by
  simp only[sW,D6,R1]at h;obtain⟨h1,rfl⟩:=h;have:m=0:=by omega
  subst this;exact⟨rfl,by simp[lv],by simp⟩
 |n::l,m,v,v',h=>by
  simp only[sW]at h;split at h
  · cases h
  ·
   rename_i h1;split at h
   ·
    rename_i h2;obtain⟨c1,c2,c3,c4⟩:=eF h2;obtain⟨k,rfl⟩: ∃k,m=k+1:=⟨m-1,by omega⟩;have e:((k+1:Nat):Int)+(n.c-1)=((k+n.c.toNat:Nat):Int):=by omega
    rw[e]at h;obtain⟨g1,g2,g3⟩:=aE0 l _ _ _ h;refine⟨g1,?_,fun x hx=>?_⟩
    · grind[lv]
    grind
   grind
structure IsTree (l:List Nd):Prop where
 ne:1≤l.length
 len:l.length≤60
 skip:skip 1 l=some []
 node: ∀n∈l,cB n=true
 lv:lv l≤16
theorem mQ {l:List Nd}(h:eB l=true):IsTree l:=by
 unfold eB at h;simp only[A6,B9]at h;obtain⟨h1,h2,h3⟩:=h;split at h3
 · rename_i m v hs;simp only[A6,G9,B9]at h3;obtain⟨rfl,h4⟩:=h3;obtain⟨g1,g2,g3⟩:=aE0 l 1 0 v hs;exact⟨h1,h2,g1,g3,by omega⟩
 grind
theorem uR : ∀(l:List Nd) (m:Nat),skip m l=some []→(∀n∈l,cB n=true)→ ∀i,i<l.length→ ∃k,skip (k+1) (l.drop i)=some []
 |[],m,h,_,i,hi=>by grind
 |n::l,0,h,_,i,hi=>by grind[dL]
 |n::l,m+1,h,hn,0,hi=>⟨m,h⟩
 |n::l,m+1,h,hn,i+1,hi=>by
  have h':skip (m+n.c.toNat) l=some []:=h;exact uR l _ h' (fun x hx=>hn x (F5 _ hx)) i (by grind)
variable {i:Nat}
theorem bW3 {l:List Nd}(h:IsTree l)(hi:i<l.length): ∃j,i<j∧j≤l.length∧skip 1 (l.drop i)=some (l.drop j):=by
 obtain⟨k,hk⟩:=uR l 1 h.skip h.node i hi;rw[O4,fW]at hk;cases h1:skip 1 (l.drop i)with
 |none=>grind
 |some r=>
  grind[gP,List.length_drop,List.drop_drop]
def cY (c:UInt8):Bool:=decide ((33:Int)≤c.toNat)&&decide ((c.toNat:Int)≤125)&&((c.toNat:Int) !=37)
def oQ (n:Nat):UInt8:=([48,49,50,51,52,53,54,55,56,57,65,66,67,68,69,70]:List UInt8).getD n 0
def kK (c:UInt8):List UInt8:=if cY c then [c]else [37,oQ (c.toNat/16),oQ (c.toNat%16)]
def dH (w:aH):aH:=w.flatMap kK
def gQ (w:aH):aH:=if w=[]then [126]else dH w
def sizeW (w:aH):Nat:=max (dH w).length 1
@[simp] theorem cW1 :dH []=[]:=rfl
theorem cI7 (c:UInt8):(kK c).length≤3:=by grind[kK]
theorem bW4 (c:UInt8):1≤(kK c).length:=by grind[kK]
theorem sX (w:aH):(dH w).length≤3*w.length:=by
 induction w with
 |nil=>simp_all
 |cons c w ih=>
  grind[cI7,dH,List.length_append,List.length_cons]
theorem aS2 (w:aH):w.length≤(dH w).length:=by
 induction w with
 |nil=>grind
 |cons c w ih=>
  grind[bW4,dH,List.length_append,List.length_cons]
theorem rM {w:aH}(h:i<w.length):dH (w.take (i+1))=dH (w.take i)++kK w[i]:=by
 simp only[B3 h,dH,Q0,I1,K5,J6]
theorem mG (w:aH)(i:Nat):(dH (w.take i)).length≤(dH w).length:=by
 have:dH w=dH (w.take i)++dH (w.drop i):=by simp[dH,←List.flatMap_append]
 grind
theorem mR (w:aH):(gQ w).length=sizeW w:=by
 unfold gQ sizeW;split
 · simp_all
 · rename_i h;have:=aS2 w;grind[List.length_pos_iff]
theorem jU (w:aH):sizeW w≤3*w.length+1:=by grind[sX,sizeW]
theorem qA (w:aH):1≤sizeW w:=by unfold sizeW;omega
theorem dB3 (n:Nat):(if(1:Int)>(n:Int)then(1:Int)else(n:Int))=((max n 1:Nat):Int):=by split<;>omega
theorem cX5 (c:UInt8):Int.fdiv (c.toNat:Int) (2^(min 4 IntKind.u8.bits))=((c.toNat/16:Nat):Int):=by
 rw[show min 4 IntKind.u8.bits=4 from rfl,Int.fdiv_eq_ediv_of_nonneg _ (by omega)];rfl
theorem cP5 (c:UInt8):IntKind.u8.wrap ((BitVec.ofInt IntKind.u8.bits (c.toNat:Int)&&&BitVec.ofInt IntKind.u8.bits 15).toNat:Int)=((c.toNat%16:Nat):Int):=by
 have h:=c.toNat_lt;have:(BitVec.ofInt IntKind.u8.bits (c.toNat:Int)&&&BitVec.ofInt IntKind.u8.bits 15).toNat=c.toNat%16:=by
  rw[BitVec.toNat_and];have e1:(BitVec.ofInt IntKind.u8.bits (c.toNat:Int)).toNat=c.toNat:=by simp[IntKind.bits]
  have e2:(BitVec.ofInt IntKind.u8.bits 15).toNat=15:=rfl;rw[e1,e2];exact Nat.and_two_pow_sub_one_eq_mod _ 4
 grind[IntWalk.u8_in]
theorem dE : ∀bs:List UInt8,CV.denilL (bs.map dG)=bs.map dG
 |[]=>rfl
 |b::bs=>by simp only[D0,CV.denilL,dE bs];rfl
def fR :List aH→aH
 |[]=>[]
 |w::l=>gQ w++l.flatMap fun v=>32::gQ v
theorem bO0 (l:List aH)(w:aH):fR (l++[w])=fR l++((if l=[]then []else [32])++gQ w):=by
 cases l with
 |nil=>simp[fR]
 |cons a l=>simp[fR]
variable {l:List aH}
theorem qB (h:i<l.length):fR (l.take (i+1))=fR (l.take i)++((if i=0 then []else [32])++gQ l[i]):=by grind[List.take_succ_eq_append_getElem,bO0,List.take_eq_nil_iff]
def qT (l:List aH):aH:=fR l++[10]
def eO (ls:List (List aH)):aH:=ls.flatMap qT
def jF (l:List aH):Nat:=(l.map fun w=>sizeW w+1).sum
def sumD (ls:List (List aH)):Nat:=(ls.map jF).sum
theorem aS3 : ∀(l:List aH),l≠[]→(fR l).length+1=jF l
 |[],h=>absurd rfl h
 |w::l,_=>by
  have: ∀l:List aH,(l.flatMap fun v=>32::gQ v).length=jF l:=by
   intro l;induction l with
   |nil=>rfl
   |cons v l ih=>grind[List.length_append,List.length_cons,mR,jF]
  grind[fR,List.length_append,mR,jF]
theorem bW5 (h:l≠[]):(qT l).length=jF l:=by grind[qT,List.length_append,aS3]
theorem aK6 (l:List aH):(fR l).length≤jF l:=by
 cases l with
 |nil=>simp[fR]
 |cons w l=>grind[aS3]
theorem oR : ∀{ls:List (List aH)},(∀l∈ls,l≠[])→(eO ls).length=sumD ls
 |[],_=>rfl
 |l::ls,h=>by
  have ih:=oR (ls:=ls) fun x hx=>h x (F5 _ hx);grind[bW5,List.mem_cons_self,eO,sumD,List.length_append]
variable {ls:List (List aH)}
theorem uS (h:i<ls.length):eO (ls.take (i+1))=eO (ls.take i)++qT ls[i]:=by
 simp only[B3 h,eO,Q0,I1,K5,J6]
theorem bO1 (h:i<l.length):jF (l.take (i+1))=jF (l.take i)+(sizeW l[i]+1):=by
 simp only[B3 h,jF,C5,List.sum_append,D0,H1,List.sum_cons,BO,N0]
theorem bO2 (h:i<ls.length):sumD (ls.take (i+1))=sumD (ls.take i)+jF ls[i]:=by
 simp only[B3 h,sumD,C5,List.sum_append,D0,H1,List.sum_cons,BO,N0]
@[simp] theorem cX6 :eO []=[]:=rfl
@[simp] theorem cX7 :fR []=[]:=rfl
@[simp] theorem cX8 :jF []=0:=rfl
@[simp] theorem cX9 :sumD []=0:=rfl
theorem sY (l:List aH)(i:Nat):jF (l.take i)≤jF l:=by grind[jF,List.take_append_drop]
theorem aK7 (l:List (List aH))(i:Nat):sumD (l.take i)≤sumD l:=by grind[sumD,List.take_append_drop]
def iO (l:List aH):Int:=
 if l.length=0 then 1 else if 120<l.length then 3 else if l.any (fun w=>decide (32768<w.length))then 3 else 0
def okL (l:List aH):Bool:=iO l==0
theorem gR (l:List aH):okL l=true↔l≠[]∧l.length≤120∧ ∀w∈l,w.length≤32768:=by
 unfold okL iO;constructor
 ·
  intro h;split at h
  · grind
  ·
   split at h
   · grind
   · grind
 grind
theorem bH2 (h:okL l=true):jF l≤11796720:=by
 obtain⟨-,h1,h2⟩:=(gR l).1 h;have key: ∀l:List aH,(∀w∈l,w.length≤32768)→jF l≤98306*l.length:=by
  intro l;induction l with
  |nil=>simp_all
  |cons w l ih=>
   grind[List.mem_cons_of_mem,List.mem_cons_self,jU,jF,List.length_cons]
 grind
theorem aK8 (h: ∀l∈ls,okL l=true):sumD ls≤11796720*ls.length:=by
 induction ls with
 |nil=>simp_all
 |cons l ls ih=>
  grind[List.mem_cons_of_mem,bH2,List.mem_cons_self,sumD,List.length_cons]
theorem yK (l:List aH)(h: ∀w∈l,w.length≤32768):(fR l).length≤98306*l.length:=by
 have h1:=aK6 l;have key: ∀l:List aH,(∀w∈l,w.length≤32768)→jF l≤98306*l.length:=by
  intro l;induction l with
  |nil=>simp_all
  |cons w l ih=>
   grind[List.mem_cons_of_mem,List.mem_cons_self,jU,jF,List.length_cons]
 grind
theorem gS {α:Type}{p:α→Prop}{l:List α}(h:i<l.length)(h1:p l[i])(h0: ∀x∈l.take i,p x): ∀x∈l.take (i+1),p x:=by
 intro x hx;rw[B3 h,F4,G0]at hx;grind
def gL (ls:List (List aH)):Int:=
 if 1000<ls.length then 3 else match ls.find? (fun l=>!okL l)with
  |some l=>iO l
  |none=>if 262144<(eO ls).length then 3 else 0
def lK (ls:List (List aH)):aH:=if gL ls=0 then eO ls else []
theorem qC (h:1000<ls.length):gL ls=3:=by unfold gL;grind
theorem iA (h:ls.length≤1000)(hi:i<ls.length)(h0: ∀l∈ls.take i,okL l=true)(h1:okL ls[i]=false):gL ls=iO ls[i]:=by
 unfold gL;rw[A7 (by omega)];grind[okL,List.find?_eq_some_iff_append,List.getElem_cons_drop,List.take_append_drop]
theorem nK (h:ls.length≤1000)(h0: ∀l∈ls,okL l=true):gL ls=if 262144<(eO ls).length then 3 else 0:=by
 unfold gL;grind
theorem bH3 (h:okL l=false):iO l≠0:=by grind[okL]
theorem jV (h:gL ls≠0):lK ls=[]:=by unfold lK;grind
theorem qD (h:gL ls=0):lK ls=eO ls:=by unfold lK;grind
def cP6 (n:Nat):UInt8:=([48,49,50,51,52,53,54,55,56,57,97,98,99,100,101,102]:List UInt8).getD n 0
def dB4 (c:UInt8):List UInt8:=[cP6 (c.toNat/16),cP6 (c.toNat%16)]
def cS5 (bs:List UInt8):List UInt8:=bs.flatMap dB4
@[simp] theorem cY0 :cS5 []=[]:=rfl
end Go.Pl
namespace Go.Hl
open Go Go.Pl
variable {fn:Func}{f:FuncId}{P:Program}
theorem uT {e:Array Value→Sem Value}{args:List CV}{R:CV→Prop}(hf:P.funcs[f]? =some fn)(hname:(fn.name== "runtime.NumGoroutine")=false)
  (hb:fn.body.isNone=true) (hn:Extern.findNext fn=none) (he:Extern.find fn=some e)
  (h: ∀(w:World) (ρ:Env) (O:Nat→Prop) (xs:List Value),RepHV w ρ O (args.map .c) xs→ ∃v x,R v∧RepV w ρ O (.c v) x∧(e xs.toArray).run P w= .ok x w):cG P f args R:=by
 refine⟨by grind[bM5],fun w ρ X xs hS hA hX=> .inr ⟨by grind[fQ,Option.isNone_iff_eq_none],?_⟩⟩;obtain⟨v,x,hR,hv,hrun⟩:=h w ρ _ xs hA;refine⟨x,by simp_all[run_callFunc_extern],.c v,dK,ρ,x,rfl,⟨v,rfl,hR,rfl⟩,⟨hv,hS,by simp[HV.men],fun id o h=>by simp[dK]at h,Stay2.refl _ _,Moves.refl _ _⟩⟩
theorem bH4 {w:World}{O:Nat→Prop}: ∀{l:List UInt8} {xs:List Value},RepL w O (l.map u8) xs→xs=l.map fun b=> .int .u8 (b.toNat:Int)
 |[],xs,h=>by simpa[RepL]using h
 |b::l,xs,h=>by
  simp only[D0,RepL,u8,RepC]at h;obtain⟨c1,c2,rfl,rfl,h2⟩:=h;rw[bH4 h2];rfl
variable {x:Value}{l:List UInt8}{O:Nat→Prop}{ρ:Env}{w:World}
theorem bO3 (h:RepV w ρ O (.c (.slc (l.map u8))) x):(Extern.Bytes.bytesOf x).run P w= .ok ⟨l.toArray⟩ w:=by
 have h1:=h.single rfl;simp only[RepC,G4,L8]at h1;obtain⟨a,cap,xs,sz,rfl,h2,_,h4,h5,h6⟩:=h1;have hx:=bH4 h2;cases a with
 |none=>
  have:=h5 rfl;have hl:l=[]:=by
   have:l.length=0:=by simp only[A2]at h4;omega
   exact D5 this
  subst hl;simp only[Extern.Bytes.bytesOf,I5];rfl
 |some ad=>
  have hr:=(h6 ad rfl).1;have:=Go.Lib.run_loadBytesX (P:=P) w (l.map fun b=>(b.toNat:Int)) ad .empty (fun j y hj=>hr j _ (by
   rw[hx];rw[N3]at hj⊢;cases hb:l[j]? with
   |none=>rw[hb]at hj;cases hj
   |some b=>rw[hb]at hj;cases hj;rfl))
  simp only[A2]at this;simp only[Extern.Bytes.bytesOf,A2,this];congr 2;simp only[Go.Lib.bytesOf,P7];have e:l.map ((fun n:Int=>n.toNat.toUInt8)∘fun b:UInt8=>(b.toNat:Int))=l:=by
   conv=>rhs;rw[←List.map_id l]
   exact N7 fun b _=>by simp
  rw[e];simp
theorem bB6 {p:Nat→Bool}(n:Nat):(List.range (n+1)).find? p=if p 0 then some 0 else((List.range n).find? fun i=>p (i+1)).map (· +1):=by
 rw[List.range_succ_eq_map,List.find?_cons,List.find?_map];split<;>simp_all[Function.comp];rfl
def eD (l:List UInt8)(c:UInt8):Int:=match l.findIdx? (· ==c)with|some i=>(i:Int)|none=> -1
theorem aS4 {α:Type}{p:α→Bool}(d:α): ∀(l:List α),(List.range l.length).find? (fun i=>p (l.getD i d))=l.findIdx? p
 |[]=>rfl
 |a::l=>by
  rw[B0,bB6,N1];simp only[Q1,List.getD_cons_succ];rw[aS4 d l]
variable {c:UInt8}{y:Value}
theorem bH5 (hx:(Extern.Bytes.bytesOf x).run P w= .ok ⟨l.toArray⟩ w)(hy:(Extern.Bytes.asByte y).run P w= .ok c w):
  (Extern.BytealgIndexByte.indexByte #[x,y]).run P w= .ok (.int .i64 (eD l c)) w:=by
 change (Sem.run P (do
  let b←Extern.Bytes.bytesOf x
  let c←Extern.Bytes.asByte y
  match(List.range b.size).find? fun i=>b[i]! ==c with
  |some i=>pure (goInt i)
  |none=>pure (goInt (-1))) w)=_
 simp only[F8,hx,hy,E4];have h1:(⟨l.toArray⟩:ByteArray).size=l.length:=by simp[ByteArray.size]
 have h2: ∀i:Nat,(⟨l.toArray⟩:ByteArray)[i]! =l.getD i 0:=fun i=>by exact Go.Lib.get!_eq l i
 simp only[h1,h2,aS4 (p:=fun b=>b==c)];unfold eD;cases l.findIdx? fun b=>b==c<;>rfl
theorem yL (h:RepV w ρ O (.c (u8 c)) y):(Extern.Bytes.asByte y).run P w= .ok c w:=by
 have h1:=h.single rfl;simp_all[u8,RepC,G4,L8,Extern.Bytes.asByte]
theorem cS6 (hf:P.funcs[f]? =some fn)(hname:(fn.name== "runtime.NumGoroutine")=false)(hb:fn.body.isNone=true)(hn:Extern.findNext fn=none)
  (he:Extern.find fn=some Extern.BytealgIndexByte.indexByte) (l:List UInt8) (c:UInt8):cG P f [.slc (l.map u8),u8 c] (fun v=>v= .int .i64 (eD l c)):=
 uT hf hname hb hn he fun w ρ O xs h=>by
  simp only[D0,H1,bY,RepHV]at h;obtain⟨x,l1,rfl,hx,y,l2,rfl,hy,rfl⟩:=h;exact⟨_,_,rfl,eV _ _ _ _ _,bH5 (bO3 hx) (yL hy)⟩
theorem cI8 (hf:P.funcs[f]? =some fn)(hname:(fn.name== "runtime.NumGoroutine")=false)(hb:fn.body.isNone=true)(hn:Extern.findNext fn=none)
  (he:Extern.find fn=some Extern.BytealgIndexByte.indexByte) (l:List UInt8) (c:UInt8):cG P f [.str l,u8 c] (fun v=>v= .int .i64 (eD l c)):=
 uT hf hname hb hn he fun w ρ O xs h=>by
  simp only[D0,H1,bY,RepHV]at h;obtain⟨x,l1,rfl,hx,y,l2,rfl,hy,rfl⟩:=h;have hx':(Extern.Bytes.bytesOf x).run P w= .ok ⟨l.toArray⟩ w:=by
   have h1:=hx.single rfl;simp only[RepC,G4,L8]at h1;subst h1;rfl
  exact⟨_,_,rfl,eV _ _ _ _ _,bH5 hx' (yL hy)⟩
end Go.Hl
namespace Go.Pl
open Go Go.Hl
def aQ (c:UInt8):List UInt8→List (List UInt8)
 |[]=>[[]]
 |b::l=>if b=c then []::aQ c l else match aQ c l with
  |x::xs=>(b::x)::xs
  |[]=>[[b]]
theorem dM (c:UInt8)(l:List UInt8):aQ c l≠[]:=by
 cases l with
 |nil=>simp[aQ]
 |cons b l=>grind[aQ]
theorem rO (c:UInt8): ∀l:List UInt8,match l.findIdx? (· ==c)with
  |some i=>i<l.length∧aQ c l=l.take i::aQ c (l.drop (i+1))
  |none=>aQ c l=[l]
 |[]=>rfl
 |b::l=>by
  have ih:=rO c l;rw[N1];by_cases h:b=c
  · grind[aQ]
  ·
   have hb:(b==c)=false:=by simpa using h
   simp only[hb,E7,J2];cases hf:l.findIdx? (· ==c)with
   |none=>
    simp_all[T1,aQ,A7]
   |some i=>
    simp_all[H8,aQ,A7,B0,P9,AR,trivial]
variable {c:UInt8}
theorem oS {l:List UInt8}(h:eD l c<0):aQ c l=[l]:=by
 have:=rO c l;grind[eD]
theorem eT {l:List UInt8}(h: ¬eD l c<0): ∃i:Nat,eD l c=(i:Int)∧i<l.length∧aQ c l=l.take i::aQ c (l.drop (i+1)):=by
 have:=rO c l;unfold eD at h⊢;grind
theorem dP (c:UInt8): ∀l:List UInt8,(aQ c l).length≤l.length+1
 |[]=>by simp[aQ]
 |b::l=>by
  have ih:=dP c l;grind[aQ,List.length_cons]
theorem iP (c:UInt8): ∀(l:List UInt8),∀p∈aQ c l,p.length≤l.length
 |[],p,hp=>by grind[aQ]
 |b::l,p,hp=>by
  have ih:=iP c l;unfold aQ at hp;split at hp
  · grind
  ·
   split at hp
   · grind
   grind
def valH (c:UInt8):Nat:=if 48≤c.toNat∧c.toNat≤57 then c.toNat-48 else if 65≤c.toNat∧c.toNat≤70 then c.toNat-55 else 16
theorem bH6 (c:UInt8):valH c≤16:=by grind[valH]
def byteH (x y:UInt8):UInt8:=UInt8.ofNat (16*valH x+valH y)
def okH (x y:UInt8):Bool:=decide (valH x<16)&&decide (valH y<16)&&!cY (byteH x y)
def unB :List UInt8→Option aH
 |[]=>some []
 |c::l=>if cY c then(unB l).map (c::·)else if c=37 then match l with
   |x::y::l'=>if okH x y then(unB l').map (byteH x y::·)else none
   |_=>none
  else none
def unW (s:aH):Option aH:=if s=[126]then some []else if s=[]then none else unB s
variable {l:aH}
theorem qE {c:UInt8}(h:cY c=true):unB (c::l)=(unB l).map (c::·):=by
 rw[unB.eq_def];grind
theorem xD {c:UInt8}(h:cY c=false)(h1:c≠37∨l.length<2):unB (c::l)=none:=by
 rw[unB.eq_def];grind
theorem aK9 {x y:UInt8}(h:okH x y=true):unB (37::x::y::l)=(unB l).map (byteH x y::·):=by
 rw[unB.eq_def];simp_all[cY,E7,J2,F7]
theorem wE {x y:UInt8}(h:okH x y=false):unB (37::x::y::l)=none:=by simp_all[unB.eq_def,cY,E7,J2,F7]
theorem cS7 {s:aH}{w:aH}(hs:s≠[])(h:unB s=some w):w≠[]:=by
 cases s with
 |nil=>grind
 |cons c l=>
  by_cases hp:cY c=true
  · rw[qE hp,C8]at h;grind
  ·
   have hp:cY c=false:=by simpa using hp
   rw[unB.eq_def]at h;simp only[hp,E7,J2]at h;split at h
   ·
    split at h
    ·
     split at h
     · rw[C8]at h;grind
     grind
    grind
   grind
def cI9 :List UInt8:=[48,49,50,51,52,53,54,55,56,57,65,66,67,68,69,70]
set_option maxRecDepth 20000 in
theorem sZ (c:UInt8):eD cI9 c=if valH c<16 then(valH c:Int)else-1:=by
 have h: ∀n:Fin 256,eD cI9 (UInt8.ofNat n.1)=if valH (UInt8.ofNat n.1)<16 then(valH (UInt8.ofNat n.1):Int)else-1:=by decide
 have:=h ⟨c.toNat,c.toNat_lt⟩;simp_all
theorem uU {x y:UInt8}(hx:valH x<16)(hy:valH y<16):(byteH x y).toNat=16*valH x+valH y:=by grind[byteH,UInt8.toNat_ofNat']
def UnSt (s:aH)(i:Nat)(out:aH):Prop:=i≤s.length∧unB s=(unB (s.drop i)).map (out++·)∧(out=[]→i=0)∧out.length≤i
section
variable {s:aH}{i:Nat}{out:aH}
theorem UnSt.init (s:aH):UnSt s 0 []:=⟨F9 _,by simp,fun _=>rfl,F2 _⟩
theorem UnSt.plain (h:UnSt s i out)(hi:i<s.length)(hp:cY s[i]=true):UnSt s (i+1) (out++[s[i]]):=by
 obtain⟨_,h2,_,h4⟩:=h;refine⟨hi,?_,by simp,by grind⟩;rw[h2,B2 hi,qE hp,AM];congr 1;grind
theorem UnSt.bad1 (h:UnSt s i out)(hi:i<s.length)(hp:cY s[i]=false)(h1:s[i]≠37∨s.length≤i+2):unB s=none:=by
 rw[h.2.1,B2 hi,xD hp (h1.imp id fun h=>by grind)];rfl
theorem cP7 {s:aH}{i:Nat}(hi:i+2<s.length):s.drop i=s[i]::s[i+1]::s[i+2]::s.drop (i+3):=by
 rw[B2 (show i<s.length by omega),B2 (show i+1<s.length by omega),B2 hi]
theorem UnSt.esc (h:UnSt s i out)(hi:i+2<s.length)(h37:s[i]=37)(hok:okH s[i+1] s[i+2]=true):UnSt s (i+3) (out++[byteH s[i+1] s[i+2]]):=by
 obtain⟨_,h2,_,h4⟩:=h;refine⟨hi,?_,by simp,by simp;omega⟩;rw[h2,cP7 hi,h37,aK9 hok,AM];congr 1;funext l;simp
theorem UnSt.bad2 (h:UnSt s i out)(hi:i+2<s.length)(h37:s[i]=37)(hok:okH s[i+1] s[i+2]=false):unB s=none:=by
 rw[h.2.1,cP7 hi,h37,wE hok];rfl
theorem iB (h:unB s=none)(h1:s≠[126]):unW s=none:=by simp_all[unW,A7]
theorem UnSt.fin (h:UnSt s i out)(hi:i=s.length)(h1:s≠[126]):unW s=if out=[]then none else some out:=by
 subst hi;obtain⟨_,h2,h3,h4⟩:=h;rw[S3]at h2;unfold unW;rw[A7 h1];by_cases ho:out=[]
 · grind
 ·
  have hs:s≠[]:=by
   rintro rfl;simp only[E5,Nat.le_zero]at h4;exact ho (D5 h4)
  simp_all[A7,unB]
end
def CutR (l:List UInt8)(c:UInt8)(li re:List UInt8)(fd:Bool):Prop:=
 (fd=false∧eD l c<0∧li=l∧re=[])∨(fd=true∧ ∃i:Nat,eD l c=(i:Int)∧i<l.length∧li=l.take i∧re=l.drop (i+1))
def unL (r:aH):Option (List aH):=(aQ 32 r).mapM unW
def unR (r:aH):Option (List aH):=match unL r with|some ws=>if okL ws then some ws else none|none=>none
def gX (b:aH):Option (List (List aH)):=
 if b=[]then some []else if(aQ 10 b).getLast (dM 10 b)=[]then(aQ 10 b).dropLast.mapM unR else none
variable {li re:aH}
theorem aS5 (hc:CutR l 10 li re true):gX l=(unR li).bind fun ws=>(gX re).map (ws::·):=by
 rcases hc with⟨h,_⟩|⟨_,i,h1,h2,rfl,rfl⟩
 · cases h
 ·
  obtain⟨i',h3,_,hsp⟩:=eT (l:=l) (c:=10) (by omega);have:i'=i:=by omega
  subst this;have hne:l≠[]:=by rintro rfl;simp at h2
  have hd:gX l=if(aQ 10 (l.drop (i'+1))).getLast (dM 10 _)=[]then(l.take i'::(aQ 10 (l.drop (i'+1))).dropLast).mapM unR else none:=by
   unfold gX;rw[A7 hne];simp only[hsp];grind[List.getLast_cons,dM,List.dropLast_cons_of_ne_nil]
  rw[hd];have he:gX (l.drop (i'+1))=if(aQ 10 (l.drop (i'+1))).getLast (dM 10 _)=[]then(aQ 10 (l.drop (i'+1))).dropLast.mapM unR else none:=by
   unfold gX;split
   · rename_i h;rw[h];rfl
   · rfl
  rw[he];split
  ·
   rw[M9];cases unR (l.take i')with
   |none=>rfl
   |some ws=>cases(aQ 10 (l.drop (i'+1))).dropLast.mapM unR<;>rfl
  simp_all
theorem yM (hc:CutR l 10 li re false)(hne:l≠[]):gX l=none:=by
 rcases hc with⟨_,h,_⟩|⟨h,_⟩
 all_goals simp_all[gX,A7,oS,List.getLast_singleton]
variable {fd:Bool}
theorem bW6 (hc:CutR l 10 li re fd)(hne:l≠[])(h:unR li=none):gX l=none:=by
 cases fd with
 |false=>exact yM hc hne
 |true=>rw[aS5 hc,h];rfl
theorem CutR.lt (hc:CutR l c li re fd)(hne:l≠[]):re.length<l.length∧li.length≤l.length:=by
 have:0<l.length:=J0.2 hne;rcases hc with⟨_,_,rfl,rfl⟩|⟨_,i,_,h,rfl,rfl⟩
 all_goals grind
def wsT (r:aH)(i:Nat):List aH:=((aQ 32 r).take i).map fun p=>(unW p).getD []
def aB2 (r:aH)(i:Nat):Prop:= ∀p∈(aQ 32 r).take i,(unW p).isSome=true
variable {i:Nat}{r:aH}
theorem tA (h:i<(aQ 32 r).length):wsT r (i+1)=wsT r i++[(unW (aQ 32 r)[i]).getD []]:=by
 simp only[wsT,B3 h,C5,D0,H1]
theorem lE (h:i≤(aQ 32 r).length):(wsT r i).length=i:=by grind[wsT,List.length_map,List.length_take]
theorem qF (h:i<(aQ 32 r).length)(h1:aB2 r i)(h2:(unW (aQ 32 r)[i]).isSome=true):aB2 r (i+1):=by
 intro p hp;rw[B3 h,F4,G0]at hp;rcases hp with hp|rfl
 · exact h1 p hp
 · exact h2
theorem kS {α β:Type}{f:α→Option β}: ∀{l:List α} {x:α},x∈l→f x=none→l.mapM f=none
 |a::l,x,hx,h=>by
  rw[M9];rcases E9.1 hx with rfl|hx
  · grind
  · rw[kS hx h];simp_all
theorem tB {α β:Type}{f:α→Option β}(d:β): ∀{l:List α},(∀x∈l,(f x).isSome=true)→l.mapM f=some (l.map fun x=>(f x).getD d)
 |[],_=>rfl
 |a::l,h=>by
  rw[M9,tB d fun x hx=>h x (F5 _ hx)];grind[Option.isSome_iff_exists,List.mem_cons_self]
theorem bW7 (h:i<(aQ 32 r).length)(h2:(unW (aQ 32 r)[i]).isSome=false):unR r=none:=by
 unfold unR unL;rw[kS (C0 h) (by simpa using h2)]
theorem cJ0 (h:aB2 r (aQ 32 r).length):unR r=if okL (wsT r (aQ 32 r).length)then some (wsT r (aQ 32 r).length)else none:=by
 unfold aB2 at h;rw[E2]at h;unfold unR unL;rw[tB [] h];simp only[wsT,E2]
def DecSt (b rest:aH)(ls:List (List aH)):Prop:=gX b=(gX rest).map (ls++·)∧rest.length≤b.length∧ls.length+rest.length≤b.length
theorem DecSt.init (b:aH):DecSt b b []:=⟨by simp,F2 _,by simp⟩
variable {ls:List (List aH)}{b rest:aH}
theorem DecSt.bad (h:DecSt b rest ls)(hc:CutR rest 10 li re fd)(hne:rest≠[])(hb:unR li=none):gX b=none:=by
 rw[h.1,bW6 hc hne hb];rfl
theorem DecSt.bad0 (h:DecSt b rest ls)(hc:CutR rest 10 li re false)(hne:rest≠[]):gX b=none:=by
 rw[h.1,yM hc hne];rfl
theorem DecSt.next (h:DecSt b rest ls)(hc:CutR rest 10 li re true)(hne:rest≠[]){ws:List aH}(hb:unR li=some ws):DecSt b re (ls++[ws]):=by
 have hl:=hc.lt hne;obtain⟨h1,h2,h3⟩:=h;refine⟨?_,by omega,by grind⟩;rw[h1,aS5 hc,hb];cases gX re with
 |none=>rfl
 |some l=>simp
theorem DecSt.fin (h:DecSt b [] ls):gX b=some ls:=by
 rw[h.1];simp[gX]
def dZ (b:aH):Int:=if 262144<b.length then 3 else match gX b with|some ls=>if 1000<ls.length then 2 else 0|none=>2
def decO (b:aH):List (List aH):=if dZ b=0 then(gX b).getD []else []
end Go.Pl
