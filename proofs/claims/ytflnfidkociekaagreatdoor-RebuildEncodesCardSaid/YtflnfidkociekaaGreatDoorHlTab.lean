/- HL: functions that read tables laid in memory. By an AI agent. -/
import Derived.Test.YtflnfidkociekaaGreatDoorPlSha
import Derived.Test.YtflnfidkociekaaGreatDoorPl18e
import Derived.Test.YtflnfidkociekaaGreatDoorChecked
import Derived.Test.YtflnfidkociekaaGreatDoorHlS
import Derived.WalkKit
import Derived.ProofKit
import Derived.OpenShut
import Derived.ReadAgain
import Derived.ChangeBears
import Derived.Sort.Grow
import Derived.Sort.EncStr
import Derived.Lib.LaidTab
import Derived.Deep.Draws
set_option linter.unusedSimpArgs false
set_option linter.unusedVariables false
set_option linter.defProp false
namespace Go.Pl
open Go Go.Hl
abbrev rM :={l:List UInt8//l.length=16}
def hf (h:rM):CV:= .agg (h.1.map u8)
theorem hf_cells (h:rM):(hf h).cells=16:=by rw[←h.2];exact us_cells h.1
theorem hf_denil (h:rM):(hf h).denil=hf h:=by simp only[hf,CV.denil];rw[cP (f:=u8) (fun _=>rfl)]
theorem hf_isAgg (h:rM):(hf h).isAgg=true:=rfl
theorem hf_getAt (h:rM):CV.getAt 0 16 true (hf h)=some (hf h):=by
  have:=hf_cells h;simp_all[hf,CV.cells,CV.getAt,and_self,if_true]
theorem hf_setAt (h:rM)(x:HV):CV.setAt 0 16 x (hf h)=some x:=by
  have:=hf_cells h;simp_all[hf,CV.cells,CV.setAt,and_self,if_true]
def zh :rM:=⟨List.replicate 16 0,by simp⟩
def zhf :CV:=hf zh
theorem zhf_eq :zhf=hf zh:=rfl
theorem denilL_dg (l:List Dig):CV.denilL (l.map dg)=l.map dg:=cP dg_denil l
theorem aR1 (d:Dig):dg d= .agg (d.1.map u8):=rfl
theorem eC {l:List UInt8}:(∀v∈l.map u8,v.cells=1)↔True:=by simp[u8,CV.cells]
structure Pk where
  h:Int
  r:rM
def Pk.cv (x:Pk):CV:= .agg [.int .i64 x.h,hf x.r]
theorem Pk.cells (x:Pk):x.cv.cells=17:=by simp[Pk.cv,CV.cells,CV.cellsL,dg_cells,hf_cells]
theorem Pk.denil (x:Pk):x.cv.denil=x.cv:=by simp only[Pk.cv,CV.denil,CV.denilL,dg_denil,hf_denil,denilL_str,denilL_dg]
theorem Pk.isAgg (x:Pk):x.cv.isAgg=true:=rfl
theorem Pk.getAll (x:Pk):CV.getAt 0 17 true x.cv=some x.cv:=by
  have:=Pk.cells x;simp_all[Pk.cv,CV.cells,CV.getAt,and_self,if_true]
theorem Pk.setAll (x:Pk)(y:HV):CV.setAt 0 17 y x.cv=some y:=by
  have:=Pk.cells x;simp_all[Pk.cv,CV.cells,CV.setAt,and_self,if_true]
structure Ky where
  p:Pk
  o:aU
  rs:List aU
  fr:Int
  un:Int
def Ky.cv (x:Ky):CV:= .agg [x.p.cv,.str x.o,.slc (x.rs.map .str),.int .i64 x.fr,.int .i64 x.un]
theorem Ky.cells (x:Ky):x.cv.cells=21:=by simp[Ky.cv,CV.cells,CV.cellsL,dg_cells,hf_cells,Pk.cells]
theorem Ky.denil (x:Ky):x.cv.denil=x.cv:=by simp only[Ky.cv,CV.denil,CV.denilL,dg_denil,hf_denil,denilL_str,denilL_dg,Pk.denil]
theorem aJ4 (l:List Ky):CV.denilL (l.map Ky.cv)=l.map Ky.cv:=cP Ky.denil l
theorem Ky.isAgg (x:Ky):x.cv.isAgg=true:=rfl
theorem Ky.getAll (x:Ky):CV.getAt 0 21 true x.cv=some x.cv:=by
  have:=Ky.cells x;simp_all[Ky.cv,CV.cells,CV.getAt,and_self,if_true]
theorem Ky.setAll (x:Ky)(y:HV):CV.setAt 0 21 y x.cv=some y:=by
  have:=Ky.cells x;simp_all[Ky.cv,CV.cells,CV.setAt,and_self,if_true]
structure Qt where
  r:aU
  n:Int
def Qt.cv (x:Qt):CV:= .agg [.str x.r,.int .i64 x.n]
theorem Qt.cells (x:Qt):x.cv.cells=2:=by simp[Qt.cv,CV.cells,CV.cellsL,dg_cells,hf_cells]
theorem Qt.denil (x:Qt):x.cv.denil=x.cv:=by simp only[Qt.cv,CV.denil,CV.denilL,dg_denil,hf_denil,denilL_str,denilL_dg]
theorem aJ5 (l:List Qt):CV.denilL (l.map Qt.cv)=l.map Qt.cv:=cP Qt.denil l
theorem Qt.isAgg (x:Qt):x.cv.isAgg=true:=rfl
theorem Qt.getAll (x:Qt):CV.getAt 0 2 true x.cv=some x.cv:=by
  have:=Qt.cells x;simp_all[Qt.cv,CV.cells,CV.getAt,and_self,if_true]
theorem Qt.setAll (x:Qt)(y:HV):CV.setAt 0 2 y x.cv=some y:=by
  have:=Qt.cells x;simp_all[Qt.cv,CV.cells,CV.setAt,and_self,if_true]
structure Rv where
  k:Dig
  t:Int
def Rv.cv (x:Rv):CV:= .agg [dg x.k,.int .i64 x.t]
theorem Rv.cells (x:Rv):x.cv.cells=33:=by simp[Rv.cv,CV.cells,CV.cellsL,dg_cells,hf_cells]
theorem Rv.denil (x:Rv):x.cv.denil=x.cv:=by simp only[Rv.cv,CV.denil,CV.denilL,dg_denil,hf_denil,denilL_str,denilL_dg]
theorem aJ6 (l:List Rv):CV.denilL (l.map Rv.cv)=l.map Rv.cv:=cP Rv.denil l
theorem Rv.isAgg (x:Rv):x.cv.isAgg=true:=rfl
theorem Rv.getAll (x:Rv):CV.getAt 0 33 true x.cv=some x.cv:=by
  have:=Rv.cells x;simp_all[Rv.cv,CV.cells,CV.getAt,and_self,if_true]
theorem Rv.setAll (x:Rv)(y:HV):CV.setAt 0 33 y x.cv=some y:=by
  have:=Rv.cells x;simp_all[Rv.cv,CV.cells,CV.setAt,and_self,if_true]
structure Rt where
  v:Int
  e:Int
  q:List Qt
  k:List Ky
  x:List Rv
def Rt.cv (x:Rt):CV:= .agg [.int .i64 x.v,.int .i64 x.e,.slc (x.q.map Qt.cv),.slc (x.k.map Ky.cv),.slc (x.x.map Rv.cv)]
theorem Rt.cells (x:Rt):x.cv.cells=5:=by simp[Rt.cv,CV.cells,CV.cellsL,dg_cells,hf_cells]
theorem Rt.denil (x:Rt):x.cv.denil=x.cv:=by simp only[Rt.cv,CV.denil,CV.denilL,dg_denil,hf_denil,denilL_str,denilL_dg,aJ5,aJ4,aJ6]
theorem Rt.isAgg (x:Rt):x.cv.isAgg=true:=rfl
theorem Rt.getAll (x:Rt):CV.getAt 0 5 true x.cv=some x.cv:=by
  have:=Rt.cells x;simp_all[Rt.cv,CV.cells,CV.getAt,and_self,if_true]
theorem Rt.setAll (x:Rt)(y:HV):CV.setAt 0 5 y x.cv=some y:=by
  have:=Rt.cells x;simp_all[Rt.cv,CV.cells,CV.setAt,and_self,if_true]
def aA4 :Int:=1099511627776
def inN (t:Int):Bool:=decide (0≤t)&&decide (t≤aA4)
def need (l:List Qt)(role:aU):Int:=match l.find? (fun q=>q.r==role)with|some q=>q.n|none=>0
end Go.Pl
namespace Go.Proofs
namespace YtflnfidkociekaaGreatDoor
open Go Go.Hl Go.Pl
theorem ty1 :bB Tryz.prog 1=some {size:=1,bytes:=8,d:=TyD.func,z:=CV.nilf}:=by kernel_rfl
theorem ty2 :bB Tryz.prog 2=some {size:=1,bytes:=8,d:=TyD.int IntKind.i64,z:=CV.int IntKind.i64 0}:=by kernel_rfl
theorem ty3 :bB Tryz.prog 3=some {size:=1,bytes:=8,d:=TyD.int IntKind.i64,z:=CV.int IntKind.i64 0}:=by kernel_rfl
theorem ty4 :bB Tryz.prog 4=some {size:=1,bytes:=1,d:=TyD.bool,z:=CV.bool false}:=by kernel_rfl
theorem ty5 :bB Tryz.prog 5=some {size:=1,bytes:=1,d:=TyD.int IntKind.u8,z:=CV.int IntKind.u8 0}:=by kernel_rfl
theorem ty6 :bB Tryz.prog 6=some {size:=1,bytes:=1,d:=TyD.int IntKind.u8,z:=CV.int IntKind.u8 0}:=by kernel_rfl
theorem ty7 :bB Tryz.prog 7=some {size:=4,bytes:=24,d:=TyD.struct [(0,2),(1,3),(2,4),(3,6)],z:=CV.agg [CV.int IntKind.i64 0,CV.int IntKind.i64 0,CV.bool false,CV.int IntKind.u8 0]}:=by kernel_rfl
theorem ty8 :bB Tryz.prog 8=some {size:=4,bytes:=24,d:=TyD.struct [(0,2),(1,3),(2,4),(3,6)],z:=CV.agg [CV.int IntKind.i64 0,CV.int IntKind.i64 0,CV.bool false,CV.int IntKind.u8 0]}:=by kernel_rfl
theorem ty9 :bB Tryz.prog 9=some {size:=1,bytes:=16,d:=TyD.string,z:=CV.str []}:=by kernel_rfl
theorem ty10 :bB Tryz.prog 10=some {size:=1,bytes:=16,d:=TyD.string,z:=CV.str []}:=by kernel_rfl
theorem ty11 :bB Tryz.prog 11=some {size:=1,bytes:=16,d:=TyD.string,z:=CV.str []}:=by kernel_rfl
theorem ty12 :bB Tryz.prog 12=some {size:=1,bytes:=8,d:=TyD.int IntKind.u64,z:=CV.int IntKind.u64 0}:=by kernel_rfl
theorem ty13 :bB Tryz.prog 13=some {size:=2,bytes:=24,d:=TyD.struct [(0,9),(1,12)],z:=CV.agg [CV.str [],CV.int IntKind.u64 0]}:=by kernel_rfl
theorem ty14 :bB Tryz.prog 14=some {size:=2,bytes:=24,d:=TyD.struct [(0,9),(1,12)],z:=CV.agg [CV.str [],CV.int IntKind.u64 0]}:=by kernel_rfl
theorem ty15 :bB Tryz.prog 15=some {size:=1,bytes:=8,d:=TyD.pointer 162,z:=CV.nilp}:=by kernel_rfl
theorem ty16 :bB Tryz.prog 16=some {size:=1,bytes:=8,d:=TyD.pointer 165,z:=CV.nilp}:=by kernel_rfl
theorem ty17 :bB Tryz.prog 17=some {size:=1,bytes:=8,d:=TyD.pointer 173,z:=CV.nilp}:=by kernel_rfl
theorem ty18 :bB Tryz.prog 18=some {size:=1,bytes:=8,d:=TyD.struct [(0,17)],z:=CV.agg [CV.nilp]}:=by kernel_rfl
theorem ty19 :bB Tryz.prog 19=some {size:=1,bytes:=8,d:=TyD.struct [(0,17)],z:=CV.agg [CV.nilp]}:=by kernel_rfl
theorem ty20 :bB Tryz.prog 20=some {size:=1,bytes:=16,d:=TyD.iface true,z:=CV.nili}:=by kernel_rfl
theorem ty21 :bB Tryz.prog 21=some {size:=1,bytes:=4,d:=TyD.int IntKind.i32,z:=CV.int IntKind.i32 0}:=by kernel_rfl
theorem ty22 :bB Tryz.prog 22=some {size:=32,bytes:=32,d:=TyD.array 32 5,z:=zd}:=by kernel_rfl
theorem ty23 :bB Tryz.prog 23=some {size:=32,bytes:=32,d:=TyD.array 32 5,z:=zd}:=by kernel_rfl
theorem ty24 :bB Tryz.prog 24=some {size:=96,bytes:=96,d:=TyD.struct [(0,23),(32,23),(64,23)],z:=CV.agg [zd,zd,zd]}:=by kernel_rfl
theorem ty25 :bB Tryz.prog 25=some {size:=96,bytes:=96,d:=TyD.struct [(0,23),(32,23),(64,23)],z:=CV.agg [zd,zd,zd]}:=by kernel_rfl
theorem ty26 :bB Tryz.prog 26=some {size:=97,bytes:=104,d:=TyD.struct [(0,25),(96,2)],z:=CV.agg [CV.agg [zd,zd,zd],CV.int IntKind.i64 0]}:=by kernel_rfl
theorem ty27 :bB Tryz.prog 27=some {size:=97,bytes:=104,d:=TyD.struct [(0,25),(96,2)],z:=CV.agg [CV.agg [zd,zd,zd],CV.int IntKind.i64 0]}:=by kernel_rfl
theorem ty28 :bB Tryz.prog 28=some {size:=1,bytes:=24,d:=TyD.slice 5,z:=CV.nils}:=by kernel_rfl
theorem ty29 :bB Tryz.prog 29=some {size:=1,bytes:=24,d:=TyD.slice 3,z:=CV.nils}:=by kernel_rfl
theorem ty30 :bB Tryz.prog 30=some {size:=1,bytes:=8,d:=TyD.func,z:=CV.nilf}:=by kernel_rfl
theorem ty31 :bB Tryz.prog 31=some {size:=1,bytes:=8,d:=TyD.pointer 33,z:=CV.nilp}:=by kernel_rfl
theorem ty32 :bB Tryz.prog 32=some {size:=2,bytes:=32,d:=TyD.struct [(0,29),(1,3)],z:=CV.agg [CV.nils,CV.int IntKind.i64 0]}:=by kernel_rfl
theorem ty33 :bB Tryz.prog 33=some {size:=2,bytes:=32,d:=TyD.struct [(0,29),(1,3)],z:=CV.agg [CV.nils,CV.int IntKind.i64 0]}:=by kernel_rfl
theorem ty34 :bB Tryz.prog 34=some {size:=1,bytes:=24,d:=TyD.slice 27,z:=CV.nils}:=by kernel_rfl
theorem ty35 :bB Tryz.prog 35=some {size:=1,bytes:=8,d:=TyD.int IntKind.i64,z:=CV.int IntKind.i64 0}:=by kernel_rfl
theorem ty37 :bB Tryz.prog 37=some {size:=1,bytes:=8,d:=TyD.func,z:=CV.nilf}:=by kernel_rfl
theorem ty38 :bB Tryz.prog 38=some {size:=1,bytes:=8,d:=TyD.func,z:=CV.nilf}:=by kernel_rfl
theorem ty39 :bB Tryz.prog 39=some {size:=1,bytes:=24,d:=TyD.slice 28,z:=CV.nils}:=by kernel_rfl
theorem ty41 :bB Tryz.prog 41=some {size:=1,bytes:=8,d:=TyD.func,z:=CV.nilf}:=by kernel_rfl
theorem ty42 :bB Tryz.prog 42=some {size:=1,bytes:=8,d:=TyD.func,z:=CV.nilf}:=by kernel_rfl
theorem ty43 :bB Tryz.prog 43=some {size:=1,bytes:=8,d:=TyD.func,z:=CV.nilf}:=by kernel_rfl
theorem ty44 :bB Tryz.prog 44=some {size:=1,bytes:=8,d:=TyD.func,z:=CV.nilf}:=by kernel_rfl
theorem ty45 :bB Tryz.prog 45=some {size:=1,bytes:=8,d:=TyD.func,z:=CV.nilf}:=by kernel_rfl
theorem ty46 :bB Tryz.prog 46=some {size:=1,bytes:=8,d:=TyD.func,z:=CV.nilf}:=by kernel_rfl
theorem ty47 :bB Tryz.prog 47=some {size:=1,bytes:=8,d:=TyD.func,z:=CV.nilf}:=by kernel_rfl
theorem ty48 :bB Tryz.prog 48=some {size:=1,bytes:=24,d:=TyD.slice 9,z:=CV.nils}:=by kernel_rfl
theorem ty49 :bB Tryz.prog 49=some {size:=1,bytes:=8,d:=TyD.func,z:=CV.nilf}:=by kernel_rfl
theorem ty50 :bB Tryz.prog 50=some {size:=1,bytes:=24,d:=TyD.slice 48,z:=CV.nils}:=by kernel_rfl
theorem ty51 :bB Tryz.prog 51=some {size:=1,bytes:=8,d:=TyD.func,z:=CV.nilf}:=by kernel_rfl
theorem ty53 :bB Tryz.prog 53=some {size:=1,bytes:=8,d:=TyD.func,z:=CV.nilf}:=by kernel_rfl
theorem ty54 :bB Tryz.prog 54=some {size:=96,bytes:=96,d:=TyD.array 3 23,z:=CV.agg [zd,zd,zd]}:=by kernel_rfl
theorem ty56 :bB Tryz.prog 56=some {size:=1,bytes:=8,d:=TyD.func,z:=CV.nilf}:=by kernel_rfl
theorem ty58 :bB Tryz.prog 58=some {size:=1,bytes:=8,d:=TyD.func,z:=CV.nilf}:=by kernel_rfl
theorem ty59 :bB Tryz.prog 59=some {size:=4,bytes:=80,d:=TyD.struct [(0,3),(1,48),(2,48),(3,48)],z:=CV.agg [CV.int IntKind.i64 0,CV.nils,CV.nils,CV.nils]}:=by kernel_rfl
theorem ty60 :bB Tryz.prog 60=some {size:=4,bytes:=80,d:=TyD.struct [(0,3),(1,48),(2,48),(3,48)],z:=CV.agg [CV.int IntKind.i64 0,CV.nils,CV.nils,CV.nils]}:=by kernel_rfl
theorem ty61 :bB Tryz.prog 61=some {size:=1,bytes:=8,d:=TyD.func,z:=CV.nilf}:=by kernel_rfl
theorem ty62 :bB Tryz.prog 62=some {size:=98,bytes:=120,d:=TyD.struct [(0,9),(1,27)],z:=CV.agg [CV.str [],CV.agg [CV.agg [zd,zd,zd],CV.int IntKind.i64 0]]}:=by kernel_rfl
theorem ty63 :bB Tryz.prog 63=some {size:=98,bytes:=120,d:=TyD.struct [(0,9),(1,27)],z:=CV.agg [CV.str [],CV.agg [CV.agg [zd,zd,zd],CV.int IntKind.i64 0]]}:=by kernel_rfl
theorem ty64 :bB Tryz.prog 64=some {size:=1,bytes:=24,d:=TyD.slice 63,z:=CV.nils}:=by kernel_rfl
theorem ty65 :bB Tryz.prog 65=some {size:=1,bytes:=8,d:=TyD.func,z:=CV.nilf}:=by kernel_rfl
theorem ty66 :bB Tryz.prog 66=some {size:=1,bytes:=8,d:=TyD.func,z:=CV.nilf}:=by kernel_rfl
theorem ty67 :bB Tryz.prog 67=some {size:=1,bytes:=8,d:=TyD.func,z:=CV.nilf}:=by kernel_rfl
theorem ty68 :bB Tryz.prog 68=some {size:=1,bytes:=8,d:=TyD.func,z:=CV.nilf}:=by kernel_rfl
theorem ty69 :bB Tryz.prog 69=some {size:=1,bytes:=8,d:=TyD.func,z:=CV.nilf}:=by kernel_rfl
theorem ty70 :bB Tryz.prog 70=some {size:=1,bytes:=8,d:=TyD.func,z:=CV.nilf}:=by kernel_rfl
theorem ty71 :bB Tryz.prog 71=some {size:=1,bytes:=8,d:=TyD.int IntKind.u64,z:=CV.int IntKind.u64 0}:=by kernel_rfl
theorem ty73 :bB Tryz.prog 73=some {size:=1,bytes:=8,d:=TyD.func,z:=CV.nilf}:=by kernel_rfl
theorem ty74 :bB Tryz.prog 74=some {size:=1,bytes:=8,d:=TyD.func,z:=CV.nilf}:=by kernel_rfl
theorem ty75 :bB Tryz.prog 75=some {size:=1,bytes:=8,d:=TyD.func,z:=CV.nilf}:=by kernel_rfl
theorem ty76 :bB Tryz.prog 76=some {size:=1,bytes:=8,d:=TyD.func,z:=CV.nilf}:=by kernel_rfl
theorem ty78 :bB Tryz.prog 78=some {size:=1,bytes:=8,d:=TyD.func,z:=CV.nilf}:=by kernel_rfl
theorem ty79 :bB Tryz.prog 79=some {size:=1,bytes:=8,d:=TyD.func,z:=CV.nilf}:=by kernel_rfl
theorem ty80 :bB Tryz.prog 80=some {size:=1,bytes:=8,d:=TyD.func,z:=CV.nilf}:=by kernel_rfl
theorem ty81 :bB Tryz.prog 81=some {size:=1,bytes:=8,d:=TyD.func,z:=CV.nilf}:=by kernel_rfl
theorem ty83 :bB Tryz.prog 83=some {size:=1,bytes:=8,d:=TyD.func,z:=CV.nilf}:=by kernel_rfl
theorem ty84 :bB Tryz.prog 84=some {size:=1,bytes:=8,d:=TyD.map 9 34,z:=CV.nilm}:=by kernel_rfl
theorem ty85 :bB Tryz.prog 85=some {size:=1,bytes:=8,d:=TyD.func,z:=CV.nilf}:=by kernel_rfl
theorem ty86 :bB Tryz.prog 86=some {size:=1,bytes:=8,d:=TyD.func,z:=CV.nilf}:=by kernel_rfl
theorem ty87 :bB Tryz.prog 87=some {size:=1,bytes:=8,d:=TyD.func,z:=CV.nilf}:=by kernel_rfl
theorem ty88 :bB Tryz.prog 88=some {size:=1,bytes:=8,d:=TyD.func,z:=CV.nilf}:=by kernel_rfl
theorem ty89 :bB Tryz.prog 89=some {size:=1,bytes:=8,d:=TyD.func,z:=CV.nilf}:=by kernel_rfl
theorem ty90 :bB Tryz.prog 90=some {size:=1,bytes:=8,d:=TyD.func,z:=CV.nilf}:=by kernel_rfl
theorem ty91 :bB Tryz.prog 91=some {size:=1,bytes:=8,d:=TyD.pointer 93,z:=CV.nilp}:=by kernel_rfl
theorem ty92 :bB Tryz.prog 92=some {size:=2,bytes:=32,d:=TyD.struct [(0,91),(1,28)],z:=CV.agg [CV.nilp,CV.nils]}:=by kernel_rfl
theorem ty93 :bB Tryz.prog 93=some {size:=2,bytes:=32,d:=TyD.struct [(0,91),(1,28)],z:=CV.agg [CV.nilp,CV.nils]}:=by kernel_rfl
theorem ty94 :bB Tryz.prog 94=some {size:=1,bytes:=16,d:=TyD.iface false,z:=CV.nili}:=by kernel_rfl
theorem ty95 :bB Tryz.prog 95=some {size:=1,bytes:=16,d:=TyD.iface false,z:=CV.nili}:=by kernel_rfl
theorem ty96 :bB Tryz.prog 96=some {size:=1,bytes:=8,d:=TyD.func,z:=CV.nilf}:=by kernel_rfl
theorem ty97 :bB Tryz.prog 97=some {size:=1,bytes:=8,d:=TyD.int IntKind.u64,z:=CV.int IntKind.u64 0}:=by kernel_rfl
theorem ty98 :bB Tryz.prog 98=some {size:=1,bytes:=8,d:=TyD.func,z:=CV.nilf}:=by kernel_rfl
theorem ty99 :bB Tryz.prog 99=some {size:=1,bytes:=8,d:=TyD.func,z:=CV.nilf}:=by kernel_rfl
theorem ty100 :bB Tryz.prog 100=some {size:=1,bytes:=8,d:=TyD.func,z:=CV.nilf}:=by kernel_rfl
theorem ty101 :bB Tryz.prog 101=some {size:=1,bytes:=8,d:=TyD.func,z:=CV.nilf}:=by kernel_rfl
theorem ty102 :bB Tryz.prog 102=some {size:=1,bytes:=8,d:=TyD.func,z:=CV.nilf}:=by kernel_rfl
theorem ty103 :bB Tryz.prog 103=some {size:=1,bytes:=8,d:=TyD.func,z:=CV.nilf}:=by kernel_rfl
theorem ty104 :bB Tryz.prog 104=some {size:=1,bytes:=8,d:=TyD.func,z:=CV.nilf}:=by kernel_rfl
theorem ty105 :bB Tryz.prog 105=some {size:=1,bytes:=8,d:=TyD.func,z:=CV.nilf}:=by kernel_rfl
theorem ty106 :bB Tryz.prog 106=some {size:=1,bytes:=8,d:=TyD.func,z:=CV.nilf}:=by kernel_rfl
theorem ty107 :bB Tryz.prog 107=some {size:=1,bytes:=8,d:=TyD.func,z:=CV.nilf}:=by kernel_rfl
theorem ty108 :bB Tryz.prog 108=some {size:=1,bytes:=8,d:=TyD.func,z:=CV.nilf}:=by kernel_rfl
theorem ty109 :bB Tryz.prog 109=some {size:=1,bytes:=8,d:=TyD.pointer 5,z:=CV.nilp}:=by kernel_rfl
theorem ty110 :bB Tryz.prog 110=some {size:=1,bytes:=8,d:=TyD.func,z:=CV.nilf}:=by kernel_rfl
theorem ty111 :bB Tryz.prog 111=some {size:=24,bytes:=24,d:=TyD.array 24 5,z:=CV.agg [CV.int IntKind.u8 0,CV.int IntKind.u8 0,CV.int IntKind.u8 0,CV.int IntKind.u8 0,CV.int IntKind.u8 0,CV.int IntKind.u8 0,CV.int IntKind.u8 0,CV.int IntKind.u8 0,CV.int IntKind.u8 0,CV.int IntKind.u8 0,CV.int IntKind.u8 0,CV.int IntKind.u8 0,CV.int IntKind.u8 0,CV.int IntKind.u8 0,CV.int IntKind.u8 0,CV.int IntKind.u8 0,CV.int IntKind.u8 0,CV.int IntKind.u8 0,CV.int IntKind.u8 0,CV.int IntKind.u8 0,CV.int IntKind.u8 0,CV.int IntKind.u8 0,CV.int IntKind.u8 0,CV.int IntKind.u8 0]}:=by kernel_rfl
theorem ty112 :bB Tryz.prog 112=some {size:=1,bytes:=8,d:=TyD.func,z:=CV.nilf}:=by kernel_rfl
theorem ty113 :bB Tryz.prog 113=some {size:=1,bytes:=8,d:=TyD.func,z:=CV.nilf}:=by kernel_rfl
theorem ty115 :bB Tryz.prog 115=some {size:=1,bytes:=8,d:=TyD.func,z:=CV.nilf}:=by kernel_rfl
theorem ty116 :bB Tryz.prog 116=some {size:=1,bytes:=8,d:=TyD.func,z:=CV.nilf}:=by kernel_rfl
theorem ty117 :bB Tryz.prog 117=some {size:=1,bytes:=8,d:=TyD.func,z:=CV.nilf}:=by kernel_rfl
theorem ty118 :bB Tryz.prog 118=some {size:=1,bytes:=8,d:=TyD.func,z:=CV.nilf}:=by kernel_rfl
theorem ty120 :bB Tryz.prog 120=some {size:=1,bytes:=8,d:=TyD.func,z:=CV.nilf}:=by kernel_rfl
theorem ty121 :bB Tryz.prog 121=some {size:=1,bytes:=8,d:=TyD.func,z:=CV.nilf}:=by kernel_rfl
theorem ty122 :bB Tryz.prog 122=some {size:=1,bytes:=8,d:=TyD.func,z:=CV.nilf}:=by kernel_rfl
theorem ty123 :bB Tryz.prog 123=some {size:=1,bytes:=8,d:=TyD.func,z:=CV.nilf}:=by kernel_rfl
theorem ty124 :bB Tryz.prog 124=some {size:=1,bytes:=8,d:=TyD.func,z:=CV.nilf}:=by kernel_rfl
theorem ty125 :bB Tryz.prog 125=some {size:=1,bytes:=8,d:=TyD.func,z:=CV.nilf}:=by kernel_rfl
theorem ty126 :bB Tryz.prog 126=some {size:=1,bytes:=8,d:=TyD.func,z:=CV.nilf}:=by kernel_rfl
theorem ty128 :bB Tryz.prog 128=some {size:=1,bytes:=8,d:=TyD.func,z:=CV.nilf}:=by kernel_rfl
theorem ty129 :bB Tryz.prog 129=some {size:=1,bytes:=8,d:=TyD.func,z:=CV.nilf}:=by kernel_rfl
theorem ty130 :bB Tryz.prog 130=some {size:=20,bytes:=160,d:=TyD.array 20 71,z:=CV.agg [CV.int IntKind.u64 0,CV.int IntKind.u64 0,CV.int IntKind.u64 0,CV.int IntKind.u64 0,CV.int IntKind.u64 0,CV.int IntKind.u64 0,CV.int IntKind.u64 0,CV.int IntKind.u64 0,CV.int IntKind.u64 0,CV.int IntKind.u64 0,CV.int IntKind.u64 0,CV.int IntKind.u64 0,CV.int IntKind.u64 0,CV.int IntKind.u64 0,CV.int IntKind.u64 0,CV.int IntKind.u64 0,CV.int IntKind.u64 0,CV.int IntKind.u64 0,CV.int IntKind.u64 0,CV.int IntKind.u64 0]}:=by kernel_rfl
theorem ty131 :bB Tryz.prog 131=some {size:=1,bytes:=4,d:=TyD.int IntKind.u32,z:=CV.int IntKind.u32 0}:=by kernel_rfl
theorem ty132 :bB Tryz.prog 132=some {size:=65,bytes:=65,d:=TyD.array 65 5,z:=CV.agg [CV.int IntKind.u8 0,CV.int IntKind.u8 0,CV.int IntKind.u8 0,CV.int IntKind.u8 0,CV.int IntKind.u8 0,CV.int IntKind.u8 0,CV.int IntKind.u8 0,CV.int IntKind.u8 0,CV.int IntKind.u8 0,CV.int IntKind.u8 0,CV.int IntKind.u8 0,CV.int IntKind.u8 0,CV.int IntKind.u8 0,CV.int IntKind.u8 0,CV.int IntKind.u8 0,CV.int IntKind.u8 0,CV.int IntKind.u8 0,CV.int IntKind.u8 0,CV.int IntKind.u8 0,CV.int IntKind.u8 0,CV.int IntKind.u8 0,CV.int IntKind.u8 0,CV.int IntKind.u8 0,CV.int IntKind.u8 0,CV.int IntKind.u8 0,CV.int IntKind.u8 0,CV.int IntKind.u8 0,CV.int IntKind.u8 0,CV.int IntKind.u8 0,CV.int IntKind.u8 0,CV.int IntKind.u8 0,CV.int IntKind.u8 0,CV.int IntKind.u8 0,CV.int IntKind.u8 0,CV.int IntKind.u8 0,CV.int IntKind.u8 0,CV.int IntKind.u8 0,CV.int IntKind.u8 0,CV.int IntKind.u8 0,CV.int IntKind.u8 0,CV.int IntKind.u8 0,CV.int IntKind.u8 0,CV.int IntKind.u8 0,CV.int IntKind.u8 0,CV.int IntKind.u8 0,CV.int IntKind.u8 0,CV.int IntKind.u8 0,CV.int IntKind.u8 0,CV.int IntKind.u8 0,CV.int IntKind.u8 0,CV.int IntKind.u8 0,CV.int IntKind.u8 0,CV.int IntKind.u8 0,CV.int IntKind.u8 0,CV.int IntKind.u8 0,CV.int IntKind.u8 0,CV.int IntKind.u8 0,CV.int IntKind.u8 0,CV.int IntKind.u8 0,CV.int IntKind.u8 0,CV.int IntKind.u8 0,CV.int IntKind.u8 0,CV.int IntKind.u8 0,CV.int IntKind.u8 0,CV.int IntKind.u8 0]}:=by kernel_rfl
theorem ty133 :bB Tryz.prog 133=some {size:=1,bytes:=8,d:=TyD.func,z:=CV.nilf}:=by kernel_rfl
theorem ty135 :bB Tryz.prog 135=some {size:=1,bytes:=8,d:=TyD.func,z:=CV.nilf}:=by kernel_rfl
theorem ty136 :bB Tryz.prog 136=some {size:=1,bytes:=8,d:=TyD.func,z:=CV.nilf}:=by kernel_rfl
theorem ty137 :bB Tryz.prog 137=some {size:=1,bytes:=8,d:=TyD.func,z:=CV.nilf}:=by kernel_rfl
theorem ty138 :bB Tryz.prog 138=some {size:=1,bytes:=8,d:=TyD.int IntKind.i64,z:=CV.int IntKind.i64 0}:=by kernel_rfl
theorem ty140 :bB Tryz.prog 140=some {size:=1,bytes:=8,d:=TyD.func,z:=CV.nilf}:=by kernel_rfl
theorem ty141 :bB Tryz.prog 141=some {size:=1,bytes:=8,d:=TyD.func,z:=CV.nilf}:=by kernel_rfl
theorem ty142 :bB Tryz.prog 142=some {size:=1,bytes:=8,d:=TyD.func,z:=CV.nilf}:=by kernel_rfl
theorem ty144 :bB Tryz.prog 144=some {size:=1,bytes:=8,d:=TyD.func,z:=CV.nilf}:=by kernel_rfl
theorem ty145 :bB Tryz.prog 145=some {size:=1,bytes:=8,d:=TyD.func,z:=CV.nilf}:=by kernel_rfl
theorem ty147 :bB Tryz.prog 147=some {size:=2,bytes:=2,d:=TyD.struct [(0,5),(1,5)],z:=CV.agg [CV.int IntKind.u8 0,CV.int IntKind.u8 0]}:=by kernel_rfl
theorem ty148 :bB Tryz.prog 148=some {size:=2,bytes:=2,d:=TyD.struct [(0,5),(1,5)],z:=CV.agg [CV.int IntKind.u8 0,CV.int IntKind.u8 0]}:=by kernel_rfl
theorem ty149 :bB Tryz.prog 149=some {size:=32,bytes:=32,d:=TyD.array 16 148,z:=CV.agg [CV.agg [CV.int IntKind.u8 0,CV.int IntKind.u8 0],CV.agg [CV.int IntKind.u8 0,CV.int IntKind.u8 0],CV.agg [CV.int IntKind.u8 0,CV.int IntKind.u8 0],CV.agg [CV.int IntKind.u8 0,CV.int IntKind.u8 0],CV.agg [CV.int IntKind.u8 0,CV.int IntKind.u8 0],CV.agg [CV.int IntKind.u8 0,CV.int IntKind.u8 0],CV.agg [CV.int IntKind.u8 0,CV.int IntKind.u8 0],CV.agg [CV.int IntKind.u8 0,CV.int IntKind.u8 0],CV.agg [CV.int IntKind.u8 0,CV.int IntKind.u8 0],CV.agg [CV.int IntKind.u8 0,CV.int IntKind.u8 0],CV.agg [CV.int IntKind.u8 0,CV.int IntKind.u8 0],CV.agg [CV.int IntKind.u8 0,CV.int IntKind.u8 0],CV.agg [CV.int IntKind.u8 0,CV.int IntKind.u8 0],CV.agg [CV.int IntKind.u8 0,CV.int IntKind.u8 0],CV.agg [CV.int IntKind.u8 0,CV.int IntKind.u8 0],CV.agg [CV.int IntKind.u8 0,CV.int IntKind.u8 0]]}:=by kernel_rfl
theorem ty150 :bB Tryz.prog 150=some {size:=1,bytes:=8,d:=TyD.int IntKind.u64,z:=CV.int IntKind.u64 0}:=by kernel_rfl
theorem ty151 :bB Tryz.prog 151=some {size:=1,bytes:=8,d:=TyD.func,z:=CV.nilf}:=by kernel_rfl
theorem ty152 :bB Tryz.prog 152=some {size:=1,bytes:=8,d:=TyD.func,z:=CV.nilf}:=by kernel_rfl
theorem ty153 :bB Tryz.prog 153=some {size:=1,bytes:=8,d:=TyD.func,z:=CV.nilf}:=by kernel_rfl
theorem ty154 :bB Tryz.prog 154=some {size:=1,bytes:=8,d:=TyD.pointer 3,z:=CV.nilp}:=by kernel_rfl
theorem ty155 :bB Tryz.prog 155=some {size:=1,bytes:=8,d:=TyD.func,z:=CV.nilf}:=by kernel_rfl
theorem ty156 :bB Tryz.prog 156=some {size:=64,bytes:=64,d:=TyD.array 64 5,z:=us (uz 64)}:=by kernel_rfl
theorem ty157 :bB Tryz.prog 157=some {size:=1,bytes:=8,d:=TyD.func,z:=CV.nilf}:=by kernel_rfl
theorem ty158 :bB Tryz.prog 158=some {size:=1,bytes:=8,d:=TyD.pointer 150,z:=CV.nilp}:=by kernel_rfl
theorem ty160 :bB Tryz.prog 160=some {size:=1,bytes:=8,d:=TyD.func,z:=CV.nilf}:=by kernel_rfl
theorem ty161 :bB Tryz.prog 161=some {size:=4,bytes:=40,d:=TyD.struct [(0,17),(1,17),(2,17),(3,9)],z:=CV.agg [CV.nilp,CV.nilp,CV.nilp,CV.str []]}:=by kernel_rfl
theorem ty162 :bB Tryz.prog 162=some {size:=4,bytes:=40,d:=TyD.struct [(0,17),(1,17),(2,17),(3,9)],z:=CV.agg [CV.nilp,CV.nilp,CV.nilp,CV.str []]}:=by kernel_rfl
theorem ty166 :bB Tryz.prog 166=some {size:=1,bytes:=8,d:=TyD.func,z:=CV.nilf}:=by kernel_rfl
theorem ty167 :bB Tryz.prog 167=some {size:=1,bytes:=1,d:=TyD.int IntKind.u8,z:=CV.int IntKind.u8 0}:=by kernel_rfl
theorem ty168 :bB Tryz.prog 168=some {size:=1,bytes:=1,d:=TyD.int IntKind.u8,z:=CV.int IntKind.u8 0}:=by kernel_rfl
theorem ty169 :bB Tryz.prog 169=some {size:=1,bytes:=8,d:=TyD.func,z:=CV.nilf}:=by kernel_rfl
theorem ty170 :bB Tryz.prog 170=some {size:=1,bytes:=4,d:=TyD.int IntKind.i32,z:=CV.int IntKind.i32 0}:=by kernel_rfl
theorem ty171 :bB Tryz.prog 171=some {size:=1,bytes:=4,d:=TyD.int IntKind.i32,z:=CV.int IntKind.i32 0}:=by kernel_rfl
theorem ty172 :bB Tryz.prog 172=some {size:=11,bytes:=48,d:=TyD.struct [(0,12),(1,12),(2,131),(3,167),(4,5),(5,5),(6,168),(7,169),(8,109),(9,170),(10,171)],z:=CV.agg [CV.int IntKind.u64 0,CV.int IntKind.u64 0,CV.int IntKind.u32 0,CV.int IntKind.u8 0,CV.int IntKind.u8 0,CV.int IntKind.u8 0,CV.int IntKind.u8 0,CV.nilf,CV.nilp,CV.int IntKind.i32 0,CV.int IntKind.i32 0]}:=by kernel_rfl
theorem ty173 :bB Tryz.prog 173=some {size:=11,bytes:=48,d:=TyD.struct [(0,12),(1,12),(2,131),(3,167),(4,5),(5,5),(6,168),(7,169),(8,109),(9,170),(10,171)],z:=CV.agg [CV.int IntKind.u64 0,CV.int IntKind.u64 0,CV.int IntKind.u32 0,CV.int IntKind.u8 0,CV.int IntKind.u8 0,CV.int IntKind.u8 0,CV.int IntKind.u8 0,CV.nilf,CV.nilp,CV.int IntKind.i32 0,CV.int IntKind.i32 0]}:=by kernel_rfl
theorem eqdg22 (x y:Dig)(K:CV→Prop):fY Tryz.prog .eql 22 (.c (dg x)) (.c (dg y)) K=K (.bool (x==y)):=(qA (by kernel_rfl) ty22 ty5 (by kernel_rfl) x y K).1
theorem nedg22 (x y:Dig)(K:CV→Prop):fY Tryz.prog .neq 22 (.c (dg x)) (.c (dg y)) K=K (.bool (!(x==y))):=(qA (by kernel_rfl) ty22 ty5 (by kernel_rfl) x y K).2
theorem eqdg23 (x y:Dig)(K:CV→Prop):fY Tryz.prog .eql 23 (.c (dg x)) (.c (dg y)) K=K (.bool (x==y)):=(qA (by kernel_rfl) ty23 ty5 (by kernel_rfl) x y K).1
theorem nedg23 (x y:Dig)(K:CV→Prop):fY Tryz.prog .neq 23 (.c (dg x)) (.c (dg y)) K=K (.bool (!(x==y))):=(qA (by kernel_rfl) ty23 ty5 (by kernel_rfl) x y K).2
theorem mixed :Tryz.prog.follows .mixedOrders=true:=by kernel_rfl
end YtflnfidkociekaaGreatDoor
end Go.Proofs
namespace Go.Hl
open Go
section
variable {P:Program}{av:List Nat}{f:FuncId}{ob:Ob}{nid id n:Nat}{K:HV→Ob→Prop}{T e:TypeId}{sz:Nat}{v:CV}{l:List CV}
end
def eD (P:Program)(f:FuncId)(args:List CV)(R:CV→CV→Prop):Prop:=
  HFn P f (args.map .c) 0 cH (fun r ob'=> ∃u v,r= .tup [.c u,.c v]∧R u v∧ob'=cH)
variable {r:HV}{ob:Ob}
theorem aW {R:CV→CV→Prop}(cl:List Nat)(u v:CV)(h:(r.close ob cl).norm= .tup [.c u,.c v])(hR:R u v):mN 0 r ob (fun r ob'=> ∃u v,r= .tup [.c u,.c v]∧R u v∧ob'=cH):=
  ⟨cl,id,.tup [.c u,.c v],cH,⟨u,v,rfl,hR,rfl⟩,by rw[h];rfl,fun _ h=>by omega,fun _ _ _ _ h=>h,by simp[HV.men,HV.menL],fun j o h=>by simp[cH]at h⟩
variable {args:List CV}{K:HV→Ob→Prop}{nid:Nat}{f:FuncId}{av:List Nat}{P:Program}
theorem cD {R:CV→CV→Prop}(h:eD P f args R)(hfree:Free4 ob nid)(hK: ∀u v,R u v→K (.tup [.c u,.c v]) ob):
    HCall P av f (args.map .c) ob nid K:=by
  refine⟨[],args.map .c,cH,_,h,bJ args,⟨List.nodup_nil,by simp⟩,(HV.renL_c _ _).symm,fun j o h=>by simp[cH]at h,fun r lob' hR _=>?_⟩;obtain⟨u,v,rfl,hv,rfl⟩:=hR;rw[kD hfree.all];exact hK u v hv
section
variable {P:Program}{av:List Nat}{f:FuncId}{ob:Ob}{nid id n:Nat}{K:HV→Ob→Prop}{T e:TypeId}{sz:Nat}{v:CV}{l:List CV}{rest:List HV}
end
def aR2 (P:Program)(f:FuncId)(args:List CV)(R:CV→CV→CV→Prop):Prop:=
  HFn P f (args.map .c) 0 cH (fun r ob'=> ∃u v x,r= .tup [.c u,.c v,.c x]∧R u v x∧ob'=cH)
variable {R:CV→CV→CV→Prop}
theorem rN (cl:List Nat)(u v x:CV)(h:(r.close ob cl).norm= .tup [.c u,.c v,.c x])(hR:R u v x):mN 0 r ob (fun r ob'=> ∃u v x,r= .tup [.c u,.c v,.c x]∧R u v x∧ob'=cH):=
  ⟨cl,id,.tup [.c u,.c v,.c x],cH,⟨u,v,x,rfl,hR,rfl⟩,by rw[h];rfl,fun _ h=>by omega,fun _ _ _ _ h=>h,by simp[HV.men,HV.menL],fun j o h=>by simp[cH]at h⟩
theorem aA5 (h:aR2 P f args R)(hfree:Free4 ob nid)(hK: ∀u v x,R u v x→K (.tup [.c u,.c v,.c x]) ob):
    HCall P av f (args.map .c) ob nid K:=by
  refine⟨[],args.map .c,cH,_,h,bJ args,⟨List.nodup_nil,by simp⟩,(HV.renL_c _ _).symm,fun j o h=>by simp[cH]at h,fun r lob' hR _=>?_⟩;obtain⟨u,v,x,rfl,hv,rfl⟩:=hR;rw[kD hfree.all];exact hK u v x hv
end Go.Hl
namespace Go.Proofs.YtflnfidkociekaaGreatDoor
open Go Go.Hl Go.Pl
set_option maxRecDepth 10000
def sP :=(And.intro (And.intro (And.intro (And.intro (And.intro @Go.Hl.hlift.eq_def @Go.Hl.hopI.eq_def) (And.intro @Go.Hl.hstep.eq_def @Go.Hl.hop.eq_def)) (And.intro (And.intro @Go.Hl.hint.eq_def @Go.Hl.hstr.eq_def) (And.intro @Go.Hl.hshift.eq_def @Go.Hl.hun.eq_def))) (And.intro (And.intro (And.intro @Go.Hl.hconv.eq_def @Go.Hl.hpick.eq_def) (And.intro @Go.Hl.hclo.eq_def @Go.Hl.hext.eq_def)) (And.intro (And.intro @Go.Hl.hmax.eq_def @Go.Hl.hslice.eq_def) (And.intro @Go.Hl.hindex.eq_def @Go.Hl.hindexAddr.eq_def)))) (And.intro (And.intro (And.intro (And.intro @Go.Hl.hfieldAddr.eq_def @Go.Hl.hfield.eq_def) (And.intro @Go.Hl.hload.eq_def @Go.Hl.hstore.eq_def)) (And.intro (And.intro @Go.Hl.happend.eq_def @Go.Hl.happend2.eq_def) (And.intro @Go.Hl.hslice2.eq_def @Go.Hl.hclear.eq_def))) (And.intro (And.intro (And.intro @Go.Hl.hmakeMap.eq_def @Go.Hl.hlookup.eq_def) (And.intro @Go.Hl.hmapUpdate.eq_def @Go.Pl.hbuildDig.eq_def)) (And.intro (And.intro @Go.Hl.hcopy.eq_def @Go.Hl.hmkIface.eq_def) (And.intro @Go.Hl.hassert.eq_def (And.intro @Go.Hl.hmakeSlice.eq_def @Go.Hl.happends.eq_def))))))
def sA :=(And.intro (And.intro (And.intro (And.intro (And.intro (And.intro (And.intro (And.intro @Go.Hl.HV.toC.eq_1 @Go.Hl.HV.toC.eq_2) (And.intro @Go.Hl.HV.toC.eq_3 @Go.Hl.HV.toCL.eq_1)) (And.intro (And.intro @Go.Hl.HV.toCL.eq_2 @Go.Hl.cells_mem_str) (And.intro @List.length_singleton.{0} @beq_true))) (And.intro (And.intro (And.intro @beq_false @decide_eq_true_eq) (And.intro @Go.Hl.denilL_str @Go.Hl.denilL_int)) (And.intro (And.intro @Go.Hl.hwalk2.eq_1 @Go.Hl.hwalk2.eq_2) (And.intro @Go.Hl.ids4.eq_1 @Go.Hl.getF.eq_1)))) (And.intro (And.intro (And.intro (And.intro @Go.Hl.isEff.eq_1 @Go.Hl.isEff.eq_2) (And.intro @Go.Hl.isEff.eq_3 @Go.Hl.isEff.eq_4)) (And.intro (And.intro @Bool.or_false @List.append_nil.{0}) (And.intro @Go.Hl.hlex.eq_1 @Go.Hl.hlex.eq_2))) (And.intro (And.intro (And.intro @Go.Hl.hguard.eq_1 @Go.Hl.hcallOf.eq_1) (And.intro @Go.Hl.hcallOf.eq_2 @Go.Hl.touch.eq_1)) (And.intro (And.intro @Go.Hl.touch.eq_2 @Go.Hl.touch.eq_3) (And.intro @Go.Hl.touch.eq_4 @Go.Hl.touch.eq_5))))) (And.intro (And.intro (And.intro (And.intro (And.intro @Go.Hl.touch.eq_6 @Go.Hl.touch.eq_7) (And.intro @Go.Hl.touch.eq_8 @Go.Hl.touch.eq_9)) (And.intro (And.intro @Go.Hl.touch.eq_10 @Go.Hl.HV.ids.eq_1) (And.intro @Go.Hl.HV.ids.eq_2 @Go.Hl.HV.ids.eq_3))) (And.intro (And.intro (And.intro @Go.Hl.HV.ids.eq_4 @Go.Hl.HV.ids.eq_5) (And.intro @Go.Hl.HV.ids.eq_6 @Go.Hl.HV.ids.eq_7)) (And.intro (And.intro @Go.Hl.ev.eq_1 @Go.Hl.ev.eq_2) (And.intro @Go.Hl.ev.eq_3 @Go.Hl.ev.eq_4)))) (And.intro (And.intro (And.intro (And.intro @Go.Hl.cvC.eq_1 @Go.Hl.cvC.eq_2) (And.intro @Go.Hl.cvC1.eq_1 @Go.Hl.cvC1.eq_2)) (And.intro (And.intro @Go.Hl.cvC1.eq_3 @Go.Hl.cvC1.eq_4) (And.intro @Go.Hl.cvC1.eq_5 @Go.Hl.cvC1.eq_6))) (And.intro (And.intro (And.intro @Go.Hl.cvC1.eq_7 @Go.Hl.cvC1.eq_8) (And.intro @Go.Hl.cvC1.eq_9 @Go.Hl.updo_at)) (And.intro (And.intro @Go.Hl.updo_none @Go.Hl.updo.eq_1) (And.intro @Go.Hl.updo.eq_2 (And.intro @Go.Hl.upd_at @Go.Hl.fin_at))))))) (And.intro (And.intro (And.intro (And.intro (And.intro (And.intro @Go.Hl.fin_nil @Go.Hl.finA_at) (And.intro @Go.Hl.finA_nil @Go.Hl.fob_at)) (And.intro (And.intro @Go.Hl.fob_nil @Go.Hl.none0_at) (And.intro @Go.Hl.hlift_some @Go.Hl.hlift_none))) (And.intro (And.intro (And.intro @Go.Hl.hthen.eq_1 @Go.Hl.hthen.eq_2) (And.intro @Go.Hl.hblk.eq_1 @Go.Hl.hblk.eq_2)) (And.intro (And.intro @Go.Hl.hbin_int @Go.Hl.hbin_str) (And.intro @Go.Hl.hbin_bool @Go.Hl.isShift.eq_1)))) (And.intro (And.intro (And.intro (And.intro @Go.Hl.isShift.eq_2 @Go.Hl.isShift.eq_3) (And.intro @Go.Pl.hbuild_agg @Go.Hl.hfill.eq_1)) (And.intro (And.intro @Go.Hl.hfill.eq_2 @Go.Hl.HV.norm.eq_1) (And.intro @List.set_cons_zero.{0} @List.set_cons_succ.{0}))) (And.intro (And.intro (And.intro @Go.Hl.hclosed.eq_1 @Go.Hl.hclosed.eq_2) (And.intro @Go.Hl.hread.eq_1 @Go.Hl.hread.eq_2)) (And.intro (And.intro @Go.Hl.hread.eq_3 @Go.Hl.hread.eq_4) (And.intro @Go.Hl.hlo.eq_1 (And.intro @Go.Hl.hlo.eq_2 @Go.Hl.hlo.eq_3)))))) (And.intro (And.intro (And.intro (And.intro (And.intro @Go.Hl.live.eq_1 @Go.Hl.live.eq_2) (And.intro @Go.Hl.live.eq_3 @Go.Hl.live.eq_4)) (And.intro (And.intro @Go.Hl.live.eq_5 @Go.Hl.live.eq_6) (And.intro @Go.Hl.HO.isBox.eq_1 @Go.Hl.HO.isBox.eq_2))) (And.intro (And.intro (And.intro @Go.Hl.HO.isRow.eq_1 @Go.Hl.HO.isRow.eq_2) (And.intro @Go.Hl.TyD.isAgg.eq_1 @Go.Hl.TyD.isAgg.eq_2)) (And.intro (And.intro @Go.Hl.TyD.isAgg.eq_3 @Go.Hl.HV.sto.eq_1) (And.intro @Go.Hl.HV.sto.eq_2 @Go.Hl.HV.sto.eq_3)))) (And.intro (And.intro (And.intro (And.intro @Go.Hl.HV.sto.eq_4 @Go.Hl.HV.stoL.eq_1) (And.intro @Go.Hl.HV.stoL.eq_2 @Go.Hl.HV.isAgg.eq_1)) (And.intro (And.intro @Go.Hl.HV.isAgg.eq_2 @Go.Hl.HV.isAgg.eq_3) (And.intro @Go.Hl.CV.isAgg.eq_1 @Go.Hl.CV.isAgg.eq_2))) (And.intro (And.intro (And.intro @Go.Hl.HV.cells.eq_1 @Go.Hl.HV.cells.eq_2) (And.intro @Go.Hl.HV.cells.eq_3 @Go.Hl.HV.cellsL.eq_1)) (And.intro (And.intro @Go.Hl.HV.cellsL.eq_2 @Go.Hl.CV.cells.eq_1) (And.intro @Go.Hl.CV.cells.eq_2 (And.intro @Go.Hl.CV.cellsL.eq_1 @Go.Hl.CV.cellsL.eq_2)))))))) (And.intro (And.intro (And.intro (And.intro (And.intro (And.intro (And.intro @Go.Hl.HV.getAt.eq_1 @Go.Hl.HV.getAt.eq_2) (And.intro @Go.Hl.HV.getAt.eq_3 @Go.Hl.HV.getAtL.eq_1)) (And.intro (And.intro @Go.Hl.HV.getAtL.eq_2 @Go.Hl.CV.getAt.eq_1) (And.intro @Go.Hl.CV.getAt.eq_2 @Go.Hl.CV.getAtL.eq_1))) (And.intro (And.intro (And.intro @Go.Hl.CV.getAtL.eq_2 @Go.Hl.HV.setAt.eq_1) (And.intro @Go.Hl.HV.setAt.eq_2 @Go.Hl.HV.setAt.eq_3)) (And.intro (And.intro @Go.Hl.HV.setAtL.eq_1 @Go.Hl.HV.setAtL.eq_2) (And.intro @Go.Hl.CV.setAt.eq_1 @Go.Hl.CV.setAt.eq_2)))) (And.intro (And.intro (And.intro (And.intro @Go.Hl.CV.setAtL.eq_1 @Go.Hl.CV.setAtL.eq_2) (And.intro @Go.Hl.HV.den.eq_1 @Go.Hl.HV.den.eq_2)) (And.intro (And.intro @Go.Hl.CV.denil.eq_1 @Go.Hl.CV.denil.eq_2) (And.intro @Go.Hl.CV.denil.eq_3 @Go.Hl.CV.denil.eq_4))) (And.intro (And.intro (And.intro @Go.Hl.CV.denilL.eq_1 @Go.Hl.CV.denilL.eq_2) (And.intro @List.range.eq_1 @List.range.loop.eq_1)) (And.intro (And.intro @List.range.loop.eq_2 @List.size_toArray.{0}) (And.intro @List.length_cons.{0} @List.length_nil.{0}))))) (And.intro (And.intro (And.intro (And.intro (And.intro @List.length_map.{0,0} @List.getElem?_toArray.{0}) (And.intro @List.getElem?_cons_zero.{0} @List.getElem?_cons_succ.{0})) (And.intro (And.intro @List.map_cons.{0,0} @List.map_nil.{0,0}) (And.intro @List.flatMap_cons.{0,0} @List.flatMap_nil.{0,0}))) (And.intro (And.intro (And.intro @List.toList_toArray.{0} @List.not_mem_nil.{0}) (And.intro @List.mem_cons.{0} @List.nil_append.{0})) (And.intro (And.intro @List.cons_append.{0} @false_implies) (And.intro @implies_true.{0} @implies_true.{1})))) (And.intro (And.intro (And.intro (And.intro @true_and @and_true) (And.intro @and_self @ne_eq.{0})) (And.intro (And.intro @ne_eq.{1} @not_false_eq_true) (And.intro @not_true_eq_false @Nat.lt_irrefl))) (And.intro (And.intro (And.intro @Nat.zero_add @Nat.add_zero) (And.intro @Nat.succ_ne_self @Option.map_some.{0,0})) (And.intro (And.intro @Option.map_none.{0,0} @Option.bind_some.{0,0}) (And.intro @Option.isSome_some.{0} (And.intro @Bool.false_eq_true @Bool.true_eq_false))))))) (And.intro (And.intro (And.intro (And.intro (And.intro (And.intro @Int.toNat_natCast @forall_eq_or_imp.{0}) (And.intro @forall_eq_or_imp.{1} @forall_eq.{0})) (And.intro (And.intro @forall_eq.{1} @decide_true) (And.intro @decide_false @Bool.not_true))) (And.intro (And.intro (And.intro @Bool.not_false @beq_self_eq_true.{0}) (And.intro @bne_self_eq_false.{0} @Go.Pl.hbuild_dig)) (And.intro (And.intro @Go.Pl.dg_cells @Go.Pl.dg_isAgg) (And.intro @Go.Pl.dg_denil @Go.Pl.dg_getAt)))) (And.intro (And.intro (And.intro (And.intro @Go.Pl.dg_setAt @Go.Pl.zd_cells) (And.intro @Go.Pl.zd_isAgg @Go.Pl.zd_denil)) (And.intro (And.intro @Go.Pl.zd_getAt @Go.Pl.zd_setAt) (And.intro @Go.Pl.dgi_cells @Go.Pl.dgi_isAgg))) (And.intro (And.intro (And.intro @Go.Pl.dgi_denil @Go.Pl.dgi_getAt) (And.intro @Go.Pl.Rp.denil @Go.Pl.Rb.denil)) (And.intro (And.intro @Go.Pl.ns_denil @Go.Pl.ns_cells) (And.intro @Go.Pl.ns_isAgg (And.intro @Go.Pl.ns_getAt @Go.Pl.ns_setAt)))))) (And.intro (And.intro (And.intro (And.intro (And.intro @Go.Pl.Rb.getW @Go.Pl.Rb.getP) (And.intro @Go.Pl.Rb.getAll @Go.Pl.Rp.getS)) (And.intro (And.intro @Go.Pl.Rp.getT @Go.Pl.Rp.getO) (And.intro @Go.Pl.Rb.getSub @Go.Pl.Rb.getTime))) (And.intro (And.intro (And.intro @Go.Pl.Rp.getAll @Go.Pl.Rb.isAgg) (And.intro @Go.Pl.Rp.isAgg @Go.Pl.Rp.cells)) (And.intro (And.intro @Go.Pl.Rb.cells @Go.Pl.denilL_rb) (And.intro @Go.Pl.denilL_rp @Go.Pl.dgi_1)))) (And.intro (And.intro (And.intro (And.intro @Go.Pl.dgi_2 @Go.Pl.dgi_3) (And.intro @Go.Pl.denilL_dg @Go.Pl.us_cells)) (And.intro (And.intro @Go.Hl.TyD.plain.eq_1 @Go.Hl.TyD.plain.eq_2) (And.intro @Go.Hl.TyD.plain.eq_3 @Go.Hl.TyD.plain.eq_4))) (And.intro (And.intro (And.intro @Go.Hl.TyD.plain.eq_5 @Go.Hl.bytesC_map) (And.intro @Go.Pl.hf_cells @Go.Pl.hf_denil)) (And.intro (And.intro @Go.Pl.hf_isAgg @Go.Pl.hf_getAt) (And.intro @Go.Pl.hf_setAt (And.intro @Go.Pl.zhf_eq @Go.Pl.ws_cells)))))))))
def sE :=(And.intro (And.intro (And.intro (And.intro @Go.Hl.hlex.eq_1 @Go.Hl.hlex.eq_2) (And.intro @Go.Hl.hwalk2.eq_1 @Go.Hl.hwalk2.eq_2)) (And.intro (And.intro @Go.Hl.hlexG.eq_1 @Go.Hl.hlexG.eq_2) (And.intro @Go.Hl.hwalk2G.eq_1 @Go.Hl.hwalk2G.eq_2))) (And.intro (And.intro (And.intro @Go.Hl.hthen.eq_1 @Go.Hl.hthen.eq_2) (And.intro @Go.Hl.hblk.eq_1 @Go.Hl.hblk.eq_2)) (And.intro (And.intro @List.size_toArray.{0} @List.length_cons.{0}) (And.intro @List.length_nil.{0} @Nat.zero_add))))
def sR :=(And.intro (And.intro (And.intro @List.range.eq_1 @List.range.loop.eq_1) (And.intro @List.range.loop.eq_2 @List.size_toArray.{0})) (And.intro (And.intro @List.length_cons.{0} @List.length_nil.{0}) (And.intro @Nat.zero_add @Nat.add_zero)))
def sH :=(And.intro (And.intro @Go.Hl.hop1.eq_1 (And.intro @Go.Hl.hgd.eq_1 @Go.Hl.hgd.eq_2)) (And.intro @List.getElem_toArray.{0} (And.intro @List.getElem_cons_zero.{0} @List.getElem_cons_succ.{0})))
def tyS :=(And.intro (And.intro (And.intro (And.intro (And.intro (And.intro (And.intro @ty1 @ty2) (And.intro @ty3 @ty4)) (And.intro (And.intro @ty5 @ty6) (And.intro @ty7 (And.intro @ty8 @ty9)))) (And.intro (And.intro (And.intro @ty10 @ty11) (And.intro @ty12 (And.intro @ty13 @ty14))) (And.intro (And.intro @ty15 @ty16) (And.intro @ty17 (And.intro @ty18 @ty19))))) (And.intro (And.intro (And.intro (And.intro @ty20 @ty21) (And.intro @ty22 (And.intro @ty23 @ty24))) (And.intro (And.intro @ty25 @ty26) (And.intro @ty27 (And.intro @ty28 @ty29)))) (And.intro (And.intro (And.intro @ty30 @ty31) (And.intro @ty32 (And.intro @ty33 @ty34))) (And.intro (And.intro @ty35 @ty37) (And.intro @ty38 (And.intro @ty39 @ty41)))))) (And.intro (And.intro (And.intro (And.intro (And.intro @ty42 @ty43) (And.intro @ty44 (And.intro @ty45 @ty46))) (And.intro (And.intro @ty47 @ty48) (And.intro @ty49 (And.intro @ty50 @ty51)))) (And.intro (And.intro (And.intro @ty53 @ty54) (And.intro @ty56 (And.intro @ty58 @ty59))) (And.intro (And.intro @ty60 @ty61) (And.intro @ty62 (And.intro @ty63 @ty64))))) (And.intro (And.intro (And.intro (And.intro @ty65 @ty66) (And.intro @ty67 (And.intro @ty68 @ty69))) (And.intro (And.intro @ty70 @ty71) (And.intro @ty73 (And.intro @ty74 @ty75)))) (And.intro (And.intro (And.intro @ty76 @ty78) (And.intro @ty79 (And.intro @ty80 @ty81))) (And.intro (And.intro @ty83 @ty84) (And.intro @ty85 (And.intro @ty86 @ty87))))))) (And.intro (And.intro (And.intro (And.intro (And.intro (And.intro @ty88 @ty89) (And.intro @ty90 @ty91)) (And.intro (And.intro @ty92 @ty93) (And.intro @ty94 (And.intro @ty95 @ty96)))) (And.intro (And.intro (And.intro @ty97 @ty98) (And.intro @ty99 (And.intro @ty100 @ty101))) (And.intro (And.intro @ty102 @ty103) (And.intro @ty104 (And.intro @ty105 @ty106))))) (And.intro (And.intro (And.intro (And.intro @ty107 @ty108) (And.intro @ty109 (And.intro @ty110 @ty111))) (And.intro (And.intro @ty112 @ty113) (And.intro @ty115 (And.intro @ty116 @ty117)))) (And.intro (And.intro (And.intro @ty118 @ty120) (And.intro @ty121 (And.intro @ty122 @ty123))) (And.intro (And.intro @ty124 @ty125) (And.intro @ty126 (And.intro @ty128 @ty129)))))) (And.intro (And.intro (And.intro (And.intro (And.intro @ty130 @ty131) (And.intro @ty132 (And.intro @ty133 @ty135))) (And.intro (And.intro @ty136 @ty137) (And.intro @ty138 (And.intro @ty140 @ty141)))) (And.intro (And.intro (And.intro @ty142 @ty144) (And.intro @ty145 (And.intro @ty147 @ty148))) (And.intro (And.intro @ty149 @ty150) (And.intro @ty151 (And.intro @ty152 @ty153))))) (And.intro (And.intro (And.intro (And.intro @ty154 @ty155) (And.intro @ty156 (And.intro @ty157 @ty158))) (And.intro (And.intro @ty160 @ty161) (And.intro @ty162 (And.intro @ty166 @ty167)))) (And.intro (And.intro (And.intro @ty168 @ty169) (And.intro @ty170 (And.intro @ty171 @ty172))) (And.intro (And.intro @ty173 @eqdg22) (And.intro @nedg22 (And.intro @eqdg23 @nedg23))))))))
theorem AI {p q:Prop}(h:q)(hp:p:=by first|omega|(simp only[maxLen];omega)|assumption|(simp[CV.cells];done)|(simp[CV.cells,maxLen];omega)):p∧q:=⟨hp,h⟩
section
variable {P:Program}{ops:Array Oper}{nx:Nat}{Q:Fr→Ob→Prop}{fr:Fr}{ob:Ob}{c:Bool}
theorem bG {l:List Nat}(d:Nat)(h:fr d= .c (.bool c))(hT:c=true→hlex P ops nx Q l fr ob)(hF:c=false→hlex P ops nx Q l fr ob):hlex P ops nx Q l fr ob:=by
  cases c
  · exact hF rfl
  · exact hT rfl
end
end Go.Proofs.YtflnfidkociekaaGreatDoor
namespace Go.Hl
open Go
inductive HasTy (P:Program):TypeId→CV→Prop where
  |bool {t:TypeId} (hu:P.underlying t=some .bool) (b:Bool):HasTy P t (.bool b)
  |int {t:TypeId} {k:IntKind} (hu:P.underlying t=some (.int k)) {n:Int} (hw:(Lit.int k n).wf=true):HasTy P t (.int k n)
  |str {t:TypeId} (hu:P.underlying t=some .string) {s:List UInt8} (hs:s.length≤maxLen):HasTy P t (.str s)
  |slc {t e:TypeId} (hu:P.underlying t=some (.slice e)) {l:List CV} (hl: ∀x∈l,HasTy P e x) (hn:l.length≤maxLen):HasTy P t (.slc l)
  |arr {t e:TypeId} {m:Nat} (hu:P.underlying t=some (.array m e)) {l:List CV} (hl: ∀x∈l,HasTy P e x) (hn:l.length=m):HasTy P t (.agg l)
  |struct {t:TypeId} {fs:Array Field} (hu:P.underlying t=some (.struct fs)) {l:List CV} (hn:l.length=fs.size) (hl: ∀(i:Nat) (f:Field) (x:CV),fs.toList[i]? =some f→l[i]? =some x→HasTy P f.type x):HasTy P t (.agg l)
variable {c:CV}{t:TypeId}{P:Program}
theorem HasTy.of_int {k:IntKind}(hu:P.underlying t=some (.int k))(h:HasTy P t c): ∃n,c= .int k n∧(Lit.int k n).wf=true:=by
  cases h with
  |int h2 hw=>grind
  |bool h2|str h2|slc h2|arr h2|struct h2=>rw[hu]at h2;cases h2
theorem HasTy.of_slc {e:TypeId}(hu:P.underlying t=some (.slice e))(h:HasTy P t c): ∃l,c= .slc l∧(∀x∈l,HasTy P e x)∧l.length≤maxLen:=by
  cases h with
  |slc h2 hl hn=>grind
  |int h2|bool h2|str h2|arr h2|struct h2=>rw[hu]at h2;cases h2
theorem HasTy.of_arr {e:TypeId}{m:Nat}(hu:P.underlying t=some (.array m e))(h:HasTy P t c): ∃l,c= .agg l∧(∀x∈l,HasTy P e x)∧l.length=m:=by
  cases h with
  |arr h2 hl hn=>grind
  |int h2|bool h2|str h2|slc h2|struct h2=>rw[hu]at h2;cases h2
theorem HasTy.of_struct {fs:Array Field}(hu:P.underlying t=some (.struct fs))(h:HasTy P t c):
    ∃l,c= .agg l∧l.length=fs.size∧ ∀(i:Nat) (f:Field) (x:CV),fs.toList[i]? =some f→l[i]? =some x→HasTy P f.type x:=by
  cases h with
  |struct h2 hn hl=>grind
  |int h2|bool h2|str h2|slc h2|arr h2=>rw[hu]at h2;cases h2
def iZ (P:Program):Nat→TypeId→Bool
  |0,_=>false
  |n+1,t=>match P.underlying t with
    |some .bool|some (.int _)|some .string=>true
    |some (.slice e)=>iZ P n e
    |some (.array _ e)=>iZ P n e
    |some (.struct fs)=>fs.toList.all fun f=>iZ P n f.type
    |_=>false
theorem jA {α:Type}{w:World}{O:Nat→Prop}{g:α→List Value}{R:α→CV→Prop}: ∀(l:List α),(∀a∈l,∃c,RepC w O c (g a)∧R a c)→
    ∃cl:List CV,RepL w O cl (l.flatMap g)∧cl.length=l.length∧ ∀(i:Nat) a c,l[i]? =some a→cl[i]? =some c→R a c
  |[],_=>⟨[],by simp[RepL],rfl,by simp⟩
  |a::l,h=>by
    obtain⟨c,h1,h2⟩:=h a (by simp);obtain⟨cl,h3,h4,h5⟩:=jA l (fun x hx=>h x (by grind));refine⟨c::cl,by simp only[List.flatMap_cons,RepL];grind,by grind,fun i x y hx hy=>?_⟩;grind
theorem rO {cw:Field→Nat}{cs:List Value}: ∀(fs:List Field) (k:Nat),(∀(j:Nat) f,fs[j]? =some f→f.offset=k+((fs.take j).map cw).sum)→
    fs.flatMap (fun f=>(cs.drop f.offset).take (cw f))=(cs.drop k).take ((fs.map cw).sum)
  |[],k,_=>by simp
  |f::fs,k,h=>by
    have h0:=h 0 f rfl;simp only[List.take_zero,List.map_nil,List.sum_nil,Nat.add_zero]at h0;have ih:=rO (cw:=cw) (cs:=cs) fs (k+cw f) (fun j g hg=>by
      have:=h (j+1) g (by grind);grind)
    grind[List.drop_drop]
theorem rP {cs:List Value}(c:Nat): ∀(m:Nat),(List.range m).flatMap (fun i=>(cs.drop (i*c)).take c)=cs.take (m*c)
  |0=>by simp
  |m+1=>by
    rw[List.range_succ,List.flatMap_append,rP c m];simp_all[List.flatMap_cons,List.flatMap_nil,List.append_nil,List.take_add,Nat.succ_mul]
theorem rQ {w:World}{a:Addr}{c:Nat}{g:Nat→List Value}: ∀(m:Nat),(∀i,i<m→(g i).length=c∧ ∀r,r<c→w.cell? ((a.add (i*c)).add r)=(g i)[r]?)→
    ((List.range m).flatMap g).length=m*c∧ ∀j u,((List.range m).flatMap g)[j]? =some u→w.cell? (a.add j)=some u
  |0,_=>by simp
  |m+1,h=>by
    obtain⟨h1,h2⟩:=rQ m (fun i hi=>h i (by omega));obtain⟨h3,h4⟩:=h m (by omega);rw[List.range_succ,List.flatMap_append];simp only[List.flatMap_cons,List.flatMap_nil,List.append_nil];refine⟨by rw[List.length_append,h1,h3,Nat.succ_mul],fun j u hj=>?_⟩;grind[List.getElem?_append_left,List.getElem?_append_right,List.getElem?_eq_some_iff,Addr.add_add]
section
variable {H:Type}{enc:TypeId×Value→H}{P:Program}{T:TypeId→Prop}{w:World}{base:Nat}{sp:Nat→Bool}{held:Bool}
theorem mR (K:Kids P T): ∀(m:Nat) (t:TypeId),iZ P m t=true→T t→ ∀(n:Nat) (cs:List Value) (x:DataW H×List MemPlace),DataW.trod enc P w base sp held n t cs=some x→
    ∃c,RepC w (fun _=>False) c cs∧HasTy P t c∧cs.length=cs.length
  |0,t,hp,_,_,_,_,_=>by simp[iZ]at hp
  |m+1,t,hp,hT,0,cs,x,h=>by simp[DataW.trod]at h
  |m+1,t,hp,hT,n+1,cs,x,h=>by
    unfold iZ at hp;split at hp
    · rename_i hu
      unfold DataW.trod at h;rw[hu]at h;split at h
      case h_1=>rename_i b h1;exact⟨.bool b,by simp[RepC],.bool hu b,rfl⟩
      all_goals grind
    · rename_i k hu
      unfold DataW.trod at h;rw[hu]at h;split at h
      case h_2=>
        rename_i k' k2 n2 h1;cases h1;split at h
        · rename_i hc
          obtain⟨rfl,hw⟩:=hc;exact⟨.int _ n2,by simp[RepC],.int hu hw,rfl⟩
        grind
      all_goals grind
    · rename_i hu
      unfold DataW.trod at h;rw[hu]at h;split at h
      case h_4=>
        rename_i s h1;split at h
        · rename_i hc
          refine⟨.str s.data.toList,by simp[RepC],.str hu ?_,rfl⟩;simp_all
        grind
      all_goals grind
    · rename_i e hu
      unfold DataW.trod at h;rw[hu]at h;split at h
      case h_7=>
        rename_i el h1;exact⟨.slc [],by simp only[RepC];exact⟨none,0,[],0,rfl,by simp[RepL],by simp,by simp,fun _=>rfl,fun ad had=>(by grind)⟩,.slc hu (by simp) (by simp),rfl⟩
      case h_8=>
        rename_i e' a len cap h1;cases h1;simp only at h;split at h
        · rename_i hc
          obtain⟨hb,hlc,hcm⟩:=hc;rw[Option.bind_eq_some_iff]at h;obtain⟨elems,he,_⟩:=h;have hel: ∀i,i<len→ ∃cl,w.cells? base (a.add (i*P.cellsOf e)) (P.cellsOf e)=some cl∧ ∃y,DataW.trod enc P w base sp held n e cl=some y:=fun i hi=>by
            have:=mapM_some_get he i i (by grind);grind[hlen,mapM_some_length,List.length_range,List.getElem?_eq_getElem,Option.bind_eq_some_iff]
          let g:Nat→List Value:=fun i=>(w.cells? base (a.add (i*P.cellsOf e)) (P.cellsOf e)).getD []
          have hg: ∀i,i<len→(g i).length=P.cellsOf e∧ ∀r,r<P.cellsOf e→w.cell? ((a.add (i*P.cellsOf e)).add r)=(g i)[r]? :=fun i hi=>by
            obtain⟨cl,h3,_⟩:=hel i hi;obtain⟨_,h4,h5⟩:=World.cells?_some h3;grind
          obtain⟨cl,hr,hlen,hty⟩:=jA (w:=w) (O:=fun _=>False) (g:=g) (R:=fun i c=>HasTy P e c∧c.cells=P.cellsOf e) (List.range len) (fun i hi=>by
            have hi':=List.mem_range.1 hi;obtain⟨cl,h3,y,h4⟩:=hel i hi';have hgi:g i=cl:=by simp[g,h3]
            obtain⟨c,q1,q2,_⟩:=mR K m e hp (K.slice hT hu) n cl y h4;grind[bQ,World.cells?_some])
          simp only[List.length_range]at hlen;have hmem: ∀x∈cl,HasTy P e x∧x.cells=P.cellsOf e:=fun x hx=>by
            obtain⟨i,hi,rfl⟩:=List.getElem_of_mem hx;exact hty i i _ (List.getElem?_range (by omega)) (by rw[List.getElem?_eq_getElem hi])
          refine⟨.slc cl,?_,.slc hu (fun x hx=>(hmem x hx).1) (by omega),rfl⟩;simp only[RepC];refine⟨some a,cap,_,P.cellsOf e,by rw[hlen],hr,fun v hv=>(hmem v hv).2,by omega,fun hh=>(by grind),fun ad had=>?_⟩;cases had;exact⟨(rQ len hg).2,fun _ h=>h⟩
        grind
      all_goals grind
    · rename_i k e hu
      unfold DataW.trod at h;rw[hu]at h;split at h
      case h_10=>
        rename_i cs0 _ _ k' e' h1;cases h1;split at h
        · rename_i hc
          rw[Option.map_eq_some_iff]at h;obtain⟨xs,hxs,_⟩:=h;obtain⟨hTe,hce⟩:=K.array hT hu;obtain⟨cl,hr,hlen,hty⟩:=jA (w:=w) (O:=fun _=>False) (g:=fun i=>(cs0.drop (i*P.cellsOf e)).take (P.cellsOf e)) (R:=fun i c=>HasTy P e c) (List.range k) (fun i hi=>by
            have hi':=List.mem_range.1 hi;have:=mapM_some_get hxs i i (by grind);have hlen:=mapM_some_length hxs;simp only[List.length_range]at hlen;rw[List.getElem?_eq_getElem (by omega)]at this;obtain⟨c,q1,q2,_⟩:=mR K m e hp hTe n _ _ this;grind)
          simp only[List.length_range]at hlen;rw[rP,←hce,←hc,List.take_length]at hr;refine⟨.agg cl,hr,.arr hu (fun x hx=>?_) hlen,rfl⟩;obtain⟨i,hi,rfl⟩:=List.getElem_of_mem hx;exact hty i i _ (List.getElem?_range (by omega)) (by rw[List.getElem?_eq_getElem hi])
        grind
      all_goals grind
    · rename_i fs hu
      unfold DataW.trod at h;rw[hu]at h;split at h
      case h_9=>
        rename_i cs0 _ _ fs' h1;cases h1;split at h
        · rename_i hc
          rw[Option.map_eq_some_iff]at h;obtain⟨xs,hxs,_⟩:=h;obtain⟨hTf,hsum,hoff⟩:=K.struct hT hu;obtain⟨cl,hr,hlen,hty⟩:=jA (w:=w) (O:=fun _=>False) (g:=fun f:Field=>(cs0.drop f.offset).take (P.cellsOf f.type)) (R:=fun f c=>HasTy P f.type c) fs.toList (fun f hf=>by
            obtain⟨i,hi,rfl⟩:=List.getElem_of_mem hf;have:=mapM_some_get hxs i _ (List.getElem?_eq_getElem hi);have hlen:=mapM_some_length hxs;rw[List.getElem?_eq_getElem (by omega)]at this;obtain⟨c,q1,q2,_⟩:=mR K m _ (List.all_eq_true.1 hp _ (List.getElem_mem hi)) (hTf _ (List.getElem_mem hi)) n _ _ this;grind)
          rw[rO (cw:=fun f=>P.cellsOf f.type) fs.toList 0 (fun j f hf=>by grind),List.drop_zero,←hsum,←hc,List.take_length]at hr;exact⟨.agg cl,hr,.struct hu (by grind) hty,rfl⟩
        grind
      all_goals grind
    grind
theorem pV {t:TypeId}{v:Value}{c:CV}(hc:HasTy P t c)(h:Value.okWide P w .any base t v):c.isAgg=Value.isAgg' v:=by
  cases hc with
  |bool hu b=>unfold Value.okWide at h;rw[hu]at h;simp only[Cell.okWide,hu]at h;cases v<;>simp_all[Cell.ok,CV.isAgg,Value.isAgg']
  |int hu hw=>unfold Value.okWide at h;rw[hu]at h;simp only[Cell.okWide,hu]at h;cases v<;>simp_all[Cell.ok,CV.isAgg,Value.isAgg']
  |str hu hs=>unfold Value.okWide at h;rw[hu]at h;simp only[Cell.okWide,hu]at h;cases v<;>simp_all[Cell.ok,CV.isAgg,Value.isAgg']
  |slc hu hl hn=>unfold Value.okWide at h;rw[hu]at h;simp only[Cell.okWide,hu]at h;cases v<;>simp_all[Cell.ok,CV.isAgg,Value.isAgg']
  |arr hu hl hn=>unfold Value.okWide at h;rw[hu]at h;obtain⟨cs,rfl,_⟩:=h;rfl
  |struct hu hn hl=>unfold Value.okWide at h;rw[hu]at h;obtain⟨cs,rfl,_⟩:=h;rfl
theorem xQ (b:Nat): ¬Own (fun _=>none) b:=by rintro⟨_,_,h,_⟩;cases h
theorem mS (K:Kids P T){m:Nat}: ∀{ts:List TypeId} {vs:List Value} {ds:List (DataW H)} {ps:List MemPlace},DataW.TrodAll enc P w base sp held ts vs ds ps→(∀t∈ts,iZ P m t=true∧T t)→
    (∀(j:Nat) t v,ts[j]? =some t→vs[j]? =some v→Value.okWide P w .any 0 t v)→
    ∃cs:List CV,RepHV w (fun _=>none) (Owned (fun _=>none) (fun _=>False)) (cs.map .c) vs∧cs.length=ts.length∧ds.length=ts.length∧ ∀(j:Nat) t c,ts[j]? =some t→cs[j]? =some c→HasTy P t c
  |[],vs,ds,ps,h,_,_=>by
    obtain⟨rfl,rfl,rfl⟩:=ChangeShapes.trodAll_nil h;exact⟨[],by simp[RepHV],rfl,rfl,by simp⟩
  |t::ts,vs,ds,ps,h,hp,ho=>by
    obtain⟨v,vs1,d,ds1,a,b,rfl,rfl,rfl,⟨n,h1⟩,h2⟩:=ChangeShapes.trodAll_cons h;obtain⟨c,q1,q2,_⟩:=mR (w:=w) K m t (hp t (by simp)).1 (hp t (by simp)).2 n _ _ h1;obtain⟨cs,r1,r2,r3,r4⟩:=mS K h2 (fun t ht=>hp t (by simp[ht])) (fun j t v h3 h4=>ho (j+1) t v (by simpa using h3) (by simpa using h4));have hst:Stay w (fun _=>False) w (Owned (fun _=>none) (fun _=>False)):=⟨fun b _ _=>⟨rfl,fun hb=>hb.elim (fun x=>x) (xQ b)⟩⟩;refine⟨c::cs,?_,by simp[r2],by simp[r3],fun j t' c' h3 h4=>?_⟩
    · rw[List.map_cons,bP]
      exact⟨v,vs1,rfl,⟨by simp only[RepH];exact q1.stay hst,pV q2 (ho 0 t v rfl rfl)⟩,r1⟩
    · cases j with
      |zero=>simp at h3 h4;rw[←h3,←h4];exact q2
      |succ j=>simp at h3 h4;exact r4 j t' c' h3 h4
theorem aJ7 {w w':World}(h: ∀b,b<w.heap.size→w'.heap[b]? =w.heap[b]?){p:MemPlace}(hp:p.block<w.heap.size):w.sameAt w' p:=by
  cases p with
  |cell b off=>exact World.cell?_of_block (h b hp)
  |map b=>exact h b hp
theorem lI {w':World}: ∀{ts:List TypeId} {vs:List Value} {ds:List (DataW H)} {ps:List MemPlace},DataW.TrodAll enc P w base sp held ts vs ds ps→(∀p∈ps,w.sameAt w' p)→DataW.TrodAll enc P w' base sp held ts vs ds ps
  |[],_,_,_,h,_=>by
    obtain⟨rfl,rfl,rfl⟩:=ChangeShapes.trodAll_nil h;exact ChangeShapes.trodAll_mk0
  |t::ts,_,_,_,h,hs=>by
    obtain⟨v,vs1,d,ds1,a,b,rfl,rfl,rfl,⟨n,h1⟩,h2⟩:=ChangeShapes.trodAll_cons h;exact⟨a,b,⟨n,DataW.trod_carry n t _ _ h1 (fun p hp=>hs p (List.mem_append_left _ hp))⟩,lI h2 (fun p hp=>hs p (List.mem_append_right _ hp)),rfl⟩
theorem aA6 {w w':World}(h1:w'.os=w.os)(h2:w'.output=w.output)(h: ∀b,b<w.heap.size→w'.heap[b]? =w.heap[b]?)(may:MemPlace→Prop):w.keptBut w' may:=by
  refine⟨h1,h2,fun i hi=>?_⟩;grind
end
end Go.Hl
namespace Go.Hl
open Go Go.RowKit Go.Sort Go.Proofs
end Go.Hl
namespace Go.Hl
open Go Go.RowKit
end Go.Hl
namespace Go.Hl
open Go Go.RowKit Go.Sort
abbrev lD :=List (Nat×List Value)
def fG (T:lD):Ob:=fob [(0,.tab T)]
def lT (P:Program)(f:FuncId)(T:lD)(args:List CV)(R:CV→Prop):Prop:=
  HFn P f (args.map .c) 1 (fG T) (fun r ob'=> ∃v,r= .c v∧ob'=fG T∧R v)
def aE6 (P:Program)(f:FuncId)(T:lD)(args:List CV)(R:CV→CV→Prop):Prop:=
  HFn P f (args.map .c) 1 (fG T) (fun r ob'=> ∃u v,r= .tup [.c u,.c v]∧ob'=fG T∧R u v)
theorem eM (T:lD)(j:Nat):fG T j=if j=0 then some (.tab T)else none:=by
  simp only[fG,fob_at,fob_nil]
theorem iO (T:lD)(args:List CV):LocOk 1 (args.map .c) (fG T):=by
  refine⟨fun j h=>?_,fun id o h=>?_,HV.menL_c⟩
  · have:j=0:=by omega
    subst this;exact⟨_,rfl⟩
  grind[eM,HO.men]
variable {T:lD}{ob:Ob}
theorem aR3 {cl:List Nat}(hb:ob 0=some (.tab T))(h0:0∉cl)(j:Nat)(o:HO)(ho:fG T j=some o):
    j<1+4∧o.men (· <1+4)∧id j∉cl∧ ∃o0,ob (id j)=some o0∧(match o0 with| .box t v=>HO.box t (v.close ob cl).norm| .row e sz l=> .row e sz l| .mp e sz D=> .mp e sz D| .dead=> .dead| .tab T=> .tab T| .hrow e sz l=> .hrow e sz (HV.closeL ob cl l))=o.ren id:=by
  rw[eM]at ho;split at ho
  · subst_vars
    cases ho;exact⟨by omega,by simp[HO.men],h0,_,hb,rfl⟩
  grind
variable {r:HV}
theorem lU {R:CV→Prop}(cl:List Nat)(v:CV)(h:(r.close ob cl).norm= .c v)(hb:ob 0=some (.tab T))(h0:0∉cl)(hR:R v):
    mN 1 r ob (fun r ob'=> ∃v,r= .c v∧ob'=fG T∧R v):=
  ⟨cl,id,.c v,fG T,⟨v,rfl,rfl,hR⟩,by rw[h];rfl,fun _ _=>rfl,fun _ _ _ _ h=>h,by simp[HV.men],aR3 hb h0⟩
variable {R:CV→CV→Prop}
theorem pJ (cl:List Nat)(u v:CV)(h:(r.close ob cl).norm= .tup [.c u,.c v])(hb:ob 0=some (.tab T))(h0:0∉cl)(hR:R u v):
    mN 1 r ob (fun r ob'=> ∃u v,r= .tup [.c u,.c v]∧ob'=fG T∧R u v):=
  ⟨cl,id,.tup [.c u,.c v],fG T,⟨u,v,rfl,rfl,hR⟩,by grind[HV.ren,HV.renL],fun _ _=>rfl,fun _ _ _ _ h=>h,by simp[HV.men,HV.menL],aR3 hb h0⟩
variable {nid:Nat}
theorem pK {id:Nat}(hid:ob id=some (.tab T))(hfree:ob nid=none∧ob (nid+1)=none∧ob (nid+2)=none∧ob (nid+3)=none):bU ob [id] nid (fG T)=ob:=by
  funext i;by_cases e:i=id
  · subst e
    simp only[bU,List.findIdx?_cons,beq_self_eq_true,if_true,eM,Option.map_some,hid];rfl
  · have e':(id==i)=false:=by simp;exact fun h=>e h.symm
    simp only[bU,List.findIdx?_cons,e',List.findIdx?_nil,Option.map_none];simp only[Bool.false_eq_true,if_false];split
    · rename_i hr
      have h1:[id].length+(i-nid)≠0:=by simp
      rw[eM,if_neg h1];grind
    · rfl
theorem tW {id:Nat}(hid:ob id=some (.tab T)): ∀j o,fG T j=some o→ob ([id].getD j 0)=some (o.ren (sub [id] nid)):=by grind[eM,HO.ren]
variable {args:List CV}{K:HV→Ob→Prop}{f:FuncId}{av:List Nat}{P:Program}
theorem rR {R:CV→Prop}(id:Nat)(h:lT P f T args R)(hid:ob id=some (.tab T))(hav:id∉av)
    (hfree:ob nid=none∧ob (nid+1)=none∧ob (nid+2)=none∧ob (nid+3)=none) (hK: ∀v,R v→K (.c v) ob):HCall P av f (args.map .c) ob nid K:=by
  refine⟨[id],args.map .c,_,_,h,iO T args,⟨by simp,by grind⟩,(HV.renL_c _ _).symm,tW hid,fun r lob' hR _=>?_⟩;obtain⟨v,rfl,rfl,hR⟩:=hR;rw[pK hid hfree];exact hK v hR
theorem xR (id:Nat)(h:aE6 P f T args R)(hid:ob id=some (.tab T))(hav:id∉av)
    (hfree:ob nid=none∧ob (nid+1)=none∧ob (nid+2)=none∧ob (nid+3)=none) (hK: ∀u v,R u v→K (.tup [.c u,.c v]) ob):HCall P av f (args.map .c) ob nid K:=by
  refine⟨[id],args.map .c,_,_,h,iO T args,⟨by simp,by grind⟩,(HV.renL_c _ _).symm,tW hid,fun r lob' hR _=>?_⟩;obtain⟨u,v,rfl,rfl,hR⟩:=hR;rw[pK hid hfree];exact hK u v hR
theorem aA7 {g:Nat}{name:String}{k:IntKind}{zs:List Int}(hok:dJ P f=true)(hg:P.globalNamed name=some g)(hT:(g,zs.map fun z=>Value.int k z)∈T){a b:Int}{s:List UInt8}
    (hc: ∀w:World,Lib.TabIs P w name k zs→Calls P f #[.int .i64 a,.int .i64 b] w fun e w'=>e= .returned (.string ⟨s.toArray⟩)∧ ∃n os,w'=grow (w.drewN n) os):
    lT P f T [.int .i64 a,.int .i64 b] (fun v=>v= .str s):=by
  refine⟨mI hok,fun w ρ X xs hS hA hX=>Does.of hok ?_⟩;have h0:=hS.objs 0 _ (rfl:fG T 0=some (.tab T));have htab:Lib.TabIs P w name k zs:=by
    obtain⟨-,h1⟩:=h0;obtain⟨⟨t,fz,h2⟩,-⟩:=h1 _ hT;simp only[Lib.TabIs,World.var?,hg,Option.bind_some,h2]
  simp only[List.map_cons,List.map_nil,bP,RepHV]at hA;obtain⟨x,zs',rfl,hx,y,zs'',rfl,hy,rfl⟩:=hA;have h1:=RepV.single hx rfl;have h2:=RepV.single hy rfl;simp only[RepC,List.cons.injEq,and_true]at h1 h2;subst h1 h2;refine(hc w htab).mono ?_;rintro ex w' ⟨rfl,n,os,rfl⟩;have hs2:Stay2 w (Own ρ) (grow (w.drewN n) os) (Own ρ):=⟨fun c hc' _=>by grind[grow,World.drewN,Array.getElem?_append_left],fun _ h=> .inl h,by simp_all,rfl,rfl,rfl⟩;have hst:=hs2.stay X;refine⟨_,_,ρ,_,rfl,⟨_,rfl,rfl,rfl⟩,⟨?_,⟨fun i o ho=>?_,hS.none,hS.apart,hS.xb⟩,by simp[HV.men],fun i o ho=>?_,hs2,Moves.refl _ _⟩⟩
  · refine cE ?_ rfl rfl
    simp[RepC]
  · rw[eM]at ho
    split at ho
    · subst_vars
      cases ho;exact⟨h0.1,iG hst h0.2⟩
    · cases ho
  grind[eM,HO.men]
end Go.Hl
