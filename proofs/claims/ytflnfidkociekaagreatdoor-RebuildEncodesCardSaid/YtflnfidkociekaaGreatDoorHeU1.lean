/- Part of a proof: walks of functions of the program, by contracts, and the rules they use. By an AI agent. -/
import Derived.Test.YtflnfidkociekaaGreatDoorHlTab
import Derived.LaidSub
import Derived.Test.YtflnfidkociekaaGreatDoorPlSha
import Derived.Test.YtflnfidkociekaaGreatDoorHlK
import Derived.Test.YtflnfidkociekaaGreatDoorRows
import Derived.Laws.Externs
import Derived.Lib.BytesEntry
set_option linter.unusedSimpArgs false
set_option linter.unusedVariables false
set_option linter.defProp false
namespace Go.Hl
open Go Go.RowKit
section
variable {P:Program}{T:TypeId→Prop}{H:Type}{enc:TypeId×Value→H}
theorem aJ8 {W:World}{args:Array Value}{f:FuncId}{fn:Func}{s:ChangeSpec}{mm:Nat}{tb:TypeId}{tabs:lD}(hok:dJ P f=true)(K:Kids P T)(hz: ∀t e,T t→P.underlying t=some (.slice e)→0<P.cellsOf e)(hvars:s.vars=[])(hres:fn.resultTypes= #[tb])(htb:P.underlying tb=some .bool)
    (hspec: ∀(H:Type) (ds:List (DataW H)),ds.length=fn.params.toList.length→(s.fn H ds).results=[.lit (.bool true)]∧(s.fn H ds).args=ds∧(s.fn H ds).vars=[]) (hpl: ∀t∈fn.params.toList,iZ P mm t=true∧T t)
    (hlaw: ∀cs:List CV,cs.length=fn.params.toList.length→(∀(j:Nat) t c,fn.params.toList[j]? =some t→cs[j]? =some c→HasTy P t c)→RepHV W (fun _=>none) (Owned (fun _=>none) (fun _=>False)) (cs.map .c) args.toList→lT P f tabs cs (fun v=>v= .bool true))
    (htab: ∀x∈tabs,∃t fz,W.heap[x.1]? =some (.cells x.2.toArray t fz)) {ds gs:List (DataW H)} {before:List MemPlace} (hval: ∀(j:Nat) t v,fn.params[j]? =some t→args[j]? =some v→Value.okWide P W .any 0 t v)
    (hW:DataW.Whole enc P fn.params.toList s.vars false W args.toList ds gs before):
    Calls P f args W fun e W'=> ∃v,e= .returned v∧s.post enc P fn false true false false W args v W':=by
  have hW':=hW;obtain⟨p,q,hA,hV,rfl,hfz,hnd⟩:=hW;rw[hvars]at hV;obtain⟨rfl,rfl⟩:=ChangeShapes.trodVars_none hV;simp only[List.append_nil]at hW' hfz;obtain⟨cs,r1,r2,r3,r4⟩:=mS (m:=mm) K hA hpl (fun j t v h1 h2=>hval j t v (by grind) (by grind));obtain⟨_,hrun⟩:=hlaw cs r2 r4 r1;have hS:RepS W (fun _=>none) (fun _=>False) (fG tabs):=by
    refine⟨fun i o h=>?_,fun _ _=>rfl,fun _ _ _ _ _ h=>(by grind),fun _ _ _ h=>(by grind)⟩;rw[eM]at h;split at h
    · cases h
      refine⟨rfl,fun x hx=>⟨htab x hx,?_⟩⟩;rintro(h1|⟨i,L,h1,_⟩)
      · exact h1
      · cases h1
    · cases h
  have hcall:=hrun W (fun _=>none) (fun _=>False) args.toList hS r1 (fun _ h=>h.elim);rw[Array.toArray_toList]at hcall;refine(hcall.calls hok).mono ?_;rintro e W' ⟨r,ob',ρ',x,rfl,⟨v,rfl,rfl,rfl⟩,hg⟩;obtain⟨hr1,hr2⟩:=hg.v;have hx:x= .bool true:=by
    have hag:Value.isAgg' x=false:=by rw[←hr2];rfl
    rw[cells_single hag]at hr1;simpa[RepH,RepC]using hr1
  subst hx;have hheap: ∀b,b<W.heap.size→W'.heap[b]? =W.heap[b]? :=fun b hb=>hg.stay.block b hb (xQ b);obtain⟨s1,s2,s3⟩:=hspec H (ds++[]) (by simpa using r3);have hlt: ∀a∈p,a.block<W.heap.size:=hA.lt;have args': ∀sp:Nat→Bool,(∀a∈p,sp a.block=true)→DataW.TrodAll enc P W' 0 sp true fn.params.toList args.toList ds p:=fun sp hsp=>
    lI (hA.respare K hz (fun t ht=>(hpl t ht).2) hsp) (fun a ha=>aJ7 hheap (hlt a ha))
  have hrl:Value.resultList fn.resultTypes.size (.bool true)=[.bool true]:=by rw[hres];rfl
  have hresT: ∀(b:Nat) (sp:Nat→Bool) (hd:Bool),DataW.TrodAll enc P W' b sp hd fn.resultTypes.toList (Value.resultList fn.resultTypes.size (.bool true)) [.lit (.bool true)] []:=fun b sp hd=>by
    rw[hrl,hres];exact trodAll_cons_mk (RowKit.shut_bool htb true) ChangeShapes.trodAll_mk0
  refine⟨.bool true,rfl,ds,[],p,[],p,[],by simpa using hW',?_,?_,?_,?_,?_⟩
  · rw[s1];exact hresT _ _ _
  · rw[s2];simpa using args' _ (fun a ha=>by simpa using hlt a ha)
  · rw[s3,hvars];rfl
  · exact aA6 hg.stay.os hg.stay.output hheap _
  · intro h;cases h
theorem aJ9 {f:FuncId}{fn:Func}{s:ChangeSpec}{mm:Nat}{tb:TypeId}{tabs:lD}(hok:dJ P f=true)(K:Kids P T)(hz: ∀t e,T t→P.underlying t=some (.slice e)→0<P.cellsOf e)(hvars:s.vars=[])(hres:fn.resultTypes= #[tb])(htb:P.underlying tb=some .bool)
    (hspec: ∀(H:Type) (ds:List (DataW H)),ds.length=fn.params.toList.length→(s.fn H ds).results=[.lit (.bool true)]∧(s.fn H ds).args=ds∧(s.fn H ds).vars=[]) (hpl: ∀t∈fn.params.toList,iZ P mm t=true∧T t)
    (hlaw: ∀cs:List CV,cs.length=fn.params.toList.length→(∀(j:Nat) t c,fn.params.toList[j]? =some t→cs[j]? =some c→HasTy P t c)→lT P f tabs cs (fun v=>v= .bool true))
    {W:World} (htab: ∀x∈tabs,∃t fz,W.heap[x.1]? =some (.cells x.2.toArray t fz)) {args:Array Value} {ds gs:List (DataW H)} {before:List MemPlace} (hval: ∀(j:Nat) t v,fn.params[j]? =some t→args[j]? =some v→Value.okWide P W .any 0 t v)
    (hW:DataW.Whole enc P fn.params.toList s.vars false W args.toList ds gs before):
    Calls P f args W fun e W'=> ∃v,e= .returned v∧s.post enc P fn false true false false W args v W':=
  aJ8 hok K hz hvars hres htb hspec hpl (fun cs h1 h2 _=>hlaw cs h1 h2) htab hval hW
end
theorem sW {P:Program}{W:World}{name:String}{k:IntKind}{zs:List Int}{g:Nat}(hg:P.globalNamed name=some g)(h:Lib.TabIs P W name k zs): ∃t fz,W.heap[g]? =some (.cells (zs.map fun z=>Value.int k z).toArray t fz):=by grind[Lib.TabIs,World.var?]
end Go.Hl
namespace Go.Pl
open Go Go.Hl
def cF (c:UInt8):Bool:=decide ((33:Int)≤c.toNat)&&decide ((c.toNat:Int)≤125)&&((c.toNat:Int) !=37)
def kH (n:Nat):UInt8:=([48,49,50,51,52,53,54,55,56,57,65,66,67,68,69,70]:List UInt8).getD n 0
def gA (c:UInt8):List UInt8:=if cF c then [c]else [37,kH (c.toNat/16),kH (c.toNat%16)]
def cI (w:aU):aU:=w.flatMap gA
def fE (w:aU):aU:=if w=[]then [126]else cI w
def sizeW (w:aU):Nat:=max (cI w).length 1
@[simp] theorem bF4 :cI []=[]:=rfl
theorem aY1 (c:UInt8):(gA c).length≤3:=by grind[gA]
theorem aR4 (c:UInt8):1≤(gA c).length:=by grind[gA]
theorem mT (w:aU):(cI w).length≤3*w.length:=by
  induction w with
  |nil=>simp_all
  |cons c w ih=>
    grind[aY1,cI,List.length_append,List.length_cons]
theorem xS (w:aU):w.length≤(cI w).length:=by
  induction w with
  |nil=>grind
  |cons c w ih=>
    grind[aR4,cI,List.length_append,List.length_cons]
variable {i:Nat}
theorem lV {w:aU}(h:i<w.length):cI (w.take (i+1))=cI (w.take i)++gA w[i]:=by
  simp only[List.take_succ_eq_append_getElem h,cI,List.flatMap_append,List.flatMap_cons,List.flatMap_nil,List.append_nil]
theorem iE (w:aU)(i:Nat):(cI (w.take i)).length≤(cI w).length:=by
  have:cI w=cI (w.take i)++cI (w.drop i):=by simp[cI,←List.flatMap_append]
  grind
theorem mU (w:aU):(fE w).length=sizeW w:=by
  unfold fE sizeW;split
  · simp_all
  · rename_i h
    have:=xS w;grind[List.length_pos_iff]
theorem kI (w:aU):sizeW w≤3*w.length+1:=by grind[mT,sizeW]
theorem tX (w:aU):1≤sizeW w:=by unfold sizeW;omega
theorem bI7 (n:Nat):(if(1:Int)>(n:Int)then(1:Int)else(n:Int))=((max n 1:Nat):Int):=by split<;>omega
theorem bD4 (c:UInt8):Int.fdiv (c.toNat:Int) (2^(min 4 IntKind.u8.bits))=((c.toNat/16:Nat):Int):=by
  rw[show min 4 IntKind.u8.bits=4 from rfl,Int.fdiv_eq_ediv_of_nonneg _ (by omega)];rfl
theorem aR5 (c:UInt8):IntKind.u8.wrap ((BitVec.ofInt IntKind.u8.bits (c.toNat:Int)&&&BitVec.ofInt IntKind.u8.bits 15).toNat:Int)=((c.toNat%16:Nat):Int):=by
  have h:=c.toNat_lt;have:(BitVec.ofInt IntKind.u8.bits (c.toNat:Int)&&&BitVec.ofInt IntKind.u8.bits 15).toNat=c.toNat%16:=by
    rw[BitVec.toNat_and];have e1:(BitVec.ofInt IntKind.u8.bits (c.toNat:Int)).toNat=c.toNat:=by simp[IntKind.bits]
    have e2:(BitVec.ofInt IntKind.u8.bits 15).toNat=15:=rfl;rw[e1,e2];exact Nat.and_two_pow_sub_one_eq_mod _ 4
  grind[IntWalk.u8_in]
theorem dI : ∀bs:List UInt8,CV.denilL (bs.map cQ)=bs.map cQ
  |[]=>rfl
  |b::bs=>by simp only[List.map_cons,CV.denilL,dI bs];rfl
def eT :List aU→aU
  |[]=>[]
  |w::l=>fE w++l.flatMap fun v=>32::fE v
theorem aK0 (l:List aU)(w:aU):eT (l++[w])=eT l++((if l=[]then []else [32])++fE w):=by
  cases l with
  |nil=>simp[eT]
  |cons a l=>simp[eT]
variable {l:List aU}
theorem tY (h:i<l.length):eT (l.take (i+1))=eT (l.take i)++((if i=0 then []else [32])++fE l[i]):=by grind[List.take_succ_eq_append_getElem,aK0,List.take_eq_nil_iff]
def sX (l:List aU):aU:=eT l++[10]
def eF (ls:List (List aU)):aU:=ls.flatMap sX
def eX (l:List aU):Nat:=(l.map fun w=>sizeW w+1).sum
def sumD (ls:List (List aU)):Nat:=(ls.map eX).sum
theorem xT : ∀(l:List aU),l≠[]→(eT l).length+1=eX l
  |[],h=>absurd rfl h
  |w::l,_=>by
    have: ∀l:List aU,(l.flatMap fun v=>32::fE v).length=eX l:=by
      intro l;induction l with
      |nil=>rfl
      |cons v l ih=>grind[List.length_append,List.length_cons,mU,eX]
    grind[eT,List.length_append,mU,eX]
theorem aR6 (h:l≠[]):(sX l).length=eX l:=by grind[sX,List.length_append,xT]
theorem aE7 (l:List aU):(eT l).length≤eX l:=by
  cases l with
  |nil=>simp[eT]
  |cons w l=>grind[xT]
theorem mV : ∀{ls:List (List aU)},(∀l∈ls,l≠[])→(eF ls).length=sumD ls
  |[],_=>rfl
  |l::ls,h=>by
    have ih:=mV (ls:=ls) fun x hx=>h x (List.mem_cons_of_mem _ hx);grind[aR6,List.mem_cons_self,eF,sumD,List.length_append]
variable {ls:List (List aU)}
theorem tZ (h:i<ls.length):eF (ls.take (i+1))=eF (ls.take i)++sX ls[i]:=by
  simp only[List.take_succ_eq_append_getElem h,eF,List.flatMap_append,List.flatMap_cons,List.flatMap_nil,List.append_nil]
theorem aK1 (h:i<l.length):eX (l.take (i+1))=eX (l.take i)+(sizeW l[i]+1):=by
  simp only[List.take_succ_eq_append_getElem h,eX,List.map_append,List.sum_append,List.map_cons,List.map_nil,List.sum_cons,List.sum_nil,Nat.add_zero]
theorem aK2 (h:i<ls.length):sumD (ls.take (i+1))=sumD (ls.take i)+eX ls[i]:=by
  simp only[List.take_succ_eq_append_getElem h,sumD,List.map_append,List.sum_append,List.map_cons,List.map_nil,List.sum_cons,List.sum_nil,Nat.add_zero]
@[simp] theorem bG8 :eF []=[]:=rfl
@[simp] theorem bG9 :eT []=[]:=rfl
@[simp] theorem bH0 :eX []=0:=rfl
@[simp] theorem bH1 :sumD []=0:=rfl
theorem mW (l:List aU)(i:Nat):eX (l.take i)≤eX l:=by grind[eX,List.take_append_drop]
theorem vP (l:List (List aU))(i:Nat):sumD (l.take i)≤sumD l:=by grind[sumD,List.take_append_drop]
def jB (l:List aU):Int:=
  if l.length=0 then 1 else if 120<l.length then 3 else if l.any (fun w=>decide (32768<w.length))then 3 else 0
def okL (l:List aU):Bool:=jB l==0
theorem gU (l:List aU):okL l=true↔l≠[]∧l.length≤120∧ ∀w∈l,w.length≤32768:=by
  unfold okL jB;constructor
  · intro h
    split at h
    · grind
    · split at h
      · grind
      · grind
  grind
theorem aE8 (h:okL l=true):eX l≤11796720:=by
  obtain⟨-,h1,h2⟩:=(gU l).1 h;have key: ∀l:List aU,(∀w∈l,w.length≤32768)→eX l≤98306*l.length:=by
    intro l;induction l with
    |nil=>simp_all
    |cons w l ih=>
      grind[List.mem_cons_of_mem,List.mem_cons_self,kI,eX,List.length_cons]
  grind
theorem aE9 (h: ∀l∈ls,okL l=true):sumD ls≤11796720*ls.length:=by
  induction ls with
  |nil=>simp_all
  |cons l ls ih=>
    grind[List.mem_cons_of_mem,aE8,List.mem_cons_self,sumD,List.length_cons]
theorem aR7 (l:List aU)(h: ∀w∈l,w.length≤32768):(eT l).length≤98306*l.length:=by
  have h1:=aE7 l;have key: ∀l:List aU,(∀w∈l,w.length≤32768)→eX l≤98306*l.length:=by
    intro l;induction l with
    |nil=>simp_all
    |cons w l ih=>
      grind[List.mem_cons_of_mem,List.mem_cons_self,kI,eX,List.length_cons]
  grind
theorem oK {α:Type}{p:α→Prop}{l:List α}(h:i<l.length)(h1:p l[i])(h0: ∀x∈l.take i,p x): ∀x∈l.take (i+1),p x:=by
  intro x hx;rw[List.take_succ_eq_append_getElem h,List.mem_append,List.mem_singleton]at hx;grind
def gB (ls:List (List aU)):Int:=
  if 1000<ls.length then 3 else match ls.find? (fun l=>!okL l)with
    |some l=>jB l
    |none=>if 262144<(eF ls).length then 3 else 0
def lW (ls:List (List aU)):aU:=if gB ls=0 then eF ls else []
theorem oL (h:1000<ls.length):gB ls=3:=by unfold gB;grind
theorem mX (h:ls.length≤1000)(hi:i<ls.length)(h0: ∀l∈ls.take i,okL l=true)(h1:okL ls[i]=false):gB ls=jB ls[i]:=by
  unfold gB;rw[if_neg (by omega)];grind[okL,List.find?_eq_some_iff_append,List.getElem_cons_drop,List.take_append_drop]
theorem vQ (h:ls.length≤1000)(h0: ∀l∈ls,okL l=true):gB ls=if 262144<(eF ls).length then 3 else 0:=by
  unfold gB;grind
theorem aF0 (h:okL l=false):jB l≠0:=by grind[okL]
theorem fQ (h:gB ls≠0):lW ls=[]:=by unfold lW;grind
theorem vR (h:gB ls=0):lW ls=eF ls:=by unfold lW;grind
def jG (n:Nat):UInt8:=([48,49,50,51,52,53,54,55,56,57,97,98,99,100,101,102]:List UInt8).getD n 0
def aA8 (c:UInt8):List UInt8:=[jG (c.toNat/16),jG (c.toNat%16)]
def eG (bs:List UInt8):List UInt8:=bs.flatMap aA8
@[simp] theorem bH2 :eG []=[]:=rfl
theorem gO (bs:List UInt8):(eG bs).length=2*bs.length:=by
  induction bs with
  |nil=>rfl
  |cons c bs ih=>grind[eG,List.length_append,List.length_cons,aA8,List.length_nil]
theorem uA {bs:List UInt8}(h:i<bs.length):eG (bs.take (i+1))=eG (bs.take i)++aA8 bs[i]:=by
  simp only[List.take_succ_eq_append_getElem h,eG,List.flatMap_append,List.flatMap_cons,List.flatMap_nil,List.append_nil]
end Go.Pl
namespace Go.Proofs.YtflnfidkociekaaGreatDoor
open Go Go.Hl Go.Pl
theorem gV {α:Type}{f:α→CV}{Q:α→Prop}: ∀(l:List CV),(∀x∈l,∃y,x=f y∧Q y)→ ∃m:List α,l=m.map f∧ ∀y∈m,Q y
 |[],_=>⟨[],rfl,by simp⟩
 |x::l,h=>by
  obtain⟨y,rfl,hy⟩:=h x (by simp);obtain⟨m,rfl,hm⟩:=gV l (fun x hx=>h x (by simp[hx]));exact⟨y::m,rfl,fun z hz=>by rcases List.mem_cons.1 hz with rfl|hz;exact hy;exact hm z hz⟩
variable {c:CV}
theorem aF1 (h:HasTy Tryz.prog 5 c): ∃b:UInt8,c= .int .u8 b.toNat∧True:=by
 obtain⟨n,rfl,hw⟩:=h.of_int Tryz.underlying5;have hb:0≤n∧n≤255:=by simpa[Lit.wf,IntKind.min,IntKind.max,IntKind.signed,IntKind.bits]using hw
 refine⟨UInt8.ofNat n.toNat,?_,trivial⟩;congr 1;have:(UInt8.ofNat n.toNat).toNat=n.toNat:=by rw[UInt8.toNat_ofNat'];exact Nat.mod_eq_of_lt (by omega)
 rw[this];omega
theorem aK3 (h:HasTy Tryz.prog 28 c): ∃b:aU,c= .slc (b.map u8):=by
 obtain⟨l,rfl,hl,hn⟩:=h.of_slc Tryz.underlying28;obtain⟨q,rfl,_⟩:=gV (f:=u8) (Q:=fun _=>True) l (fun x hx=>aF1 (hl x hx));exact⟨q,rfl⟩
theorem aA9 (h:HasTy Tryz.prog 23 c): ∃d:Dig,c=dg d:=by
 obtain⟨l,rfl,hl,hn⟩:=h.of_arr Tryz.underlying23;obtain⟨m,rfl,_⟩:=gV (f:=fun b:UInt8=>CV.int .u8 b.toNat) (Q:=fun _=>True) l (fun x hx=>aF1 (hl x hx));exact⟨⟨m,by simpa using hn⟩,rfl⟩
theorem aK4 (h:HasTy Tryz.prog 27 c): ∃p:Rp,c=p.cv:=by
 obtain⟨l,rfl,hn,hl⟩:=h.of_struct Tryz.underlying27
 match l,hn,hl with
 |[a,b],_,hl=>
  obtain⟨l2,rfl,hn2,hl2⟩:=(hl 0 _ a rfl rfl).of_struct Tryz.underlying25;obtain⟨n,rfl,hw⟩:=(hl 1 _ b rfl rfl).of_int Tryz.underlying2
  match l2,hn2,hl2 with
  |[x,y,z],_,hl2=>
   obtain⟨s,rfl⟩:=aA9 (hl2 0 _ x rfl rfl);obtain⟨r,rfl⟩:=aA9 (hl2 1 _ y rfl rfl);obtain⟨o,rfl⟩:=aA9 (hl2 2 _ z rfl rfl);exact⟨⟨s,r,o,n⟩,rfl⟩
theorem aY2 (h:HasTy Tryz.prog 29 c): ∃L:List Int,c= .slc (L.map (.int .i64)):=by
 obtain⟨l,rfl,hl,hn⟩:=h.of_slc Tryz.underlying29;obtain⟨m,rfl,_⟩:=gV (f:=CV.int .i64) (Q:=fun n=>(Lit.int .i64 n).wf=true) l (fun x hx=>(hl x hx).of_int Tryz.underlying3);exact⟨m,rfl⟩
theorem own :ownKnob Tryz.prog.godebug=none:=by kernel_rfl
theorem bI8 :Kids Tryz.prog (· <Tryz.prog.types.size):=kids_rows (by kernel_rfl) (by kernel_rfl)
theorem aB0 : ∀t e,t<Tryz.prog.types.size→Tryz.prog.underlying t=some (.slice e)→0<Tryz.prog.cellsOf e:=slices_full_of Tryz.prog (by kernel_rfl)
end Go.Proofs.YtflnfidkociekaaGreatDoor
namespace Go.Pl
open Go Go.Hl
section
variable {r:Rt}{role:aU}{a b:List Dig}{t:Int}
end
section
variable {α:Type}{p:α→Bool}{l:List α}
theorem aK5 {i:Nat}(hi:i<l.length)(h:p l[i]=false)(h0: ∀x∈l.take i,p x=false): ∀x∈l.take (i+1),p x=false:=fun x hx=>by
  rw[List.take_succ_eq_append_getElem hi,List.mem_append,List.mem_singleton]at hx;rcases hx with hx|rfl
  · exact h0 x hx
  · exact h
end
theorem bD5 {d:Dig}{i:Nat}(h:i<32):CV.getAt i 1 false (dg d)=some (u8 (d.1[i]'(by rw[d.2];exact h))):=bD2 (l:=d.1) (by rw[d.2];exact h)
section
variable {α β:Type}
def aK6 (r:α→α→Bool):List α→Bool
  |a::b::l=>r a b&&aK6 r (b::l)
  |_=>true
theorem xU {r:α→α→Bool}: ∀{l:List α},aK6 r l=true↔ ∀i (h:i+1<l.length),r l[i] l[i+1]=true
  |[]=>by simp[aK6]
  |[a]=>by simp[aK6]
  |a::b::l=>by
    have ih:=xU (r:=r) (l:=b::l);simp only[aK6,Bool.and_eq_true,ih];constructor
    · rintro⟨h1,h2⟩ i hi
      cases i with
      |zero=>exact h1
      |succ i=>exact h2 i (by simpa using hi)
    · intro h
      exact⟨h 0 (by simp),fun i hi=>h (i+1) (by simpa using hi)⟩
def GoodTo (p:α→Bool)(r:α→α→Bool)(l:List α)(i:Nat):Prop:=(∀j (h:j<l.length),j<i→p l[j]=true)∧ ∀j (h:j+1<l.length),j+1<i→r l[j] l[j+1]=true
variable {p:α→Bool}{r:α→α→Bool}{l:List α}
theorem GoodTo.zero :GoodTo p r l 0:=⟨fun j _ h=>by omega,fun j _ h=>by omega⟩
theorem GoodTo.one (hi:0<l.length)(h:p l[0]=true):GoodTo p r l 1:=by
  refine⟨fun j h' hj=>?_,fun j _ h=>by omega⟩;have:j=0:=by omega
  subst this;exact h
theorem GoodTo.succ {i:Nat}(hi:i+1<l.length)(h:p l[i+1]=true)(hr:r l[i] l[i+1]=true)(h0:GoodTo p r l (i+1)):GoodTo p r l (i+1+1):=by
  refine⟨fun j h' hj=>?_,fun j h' hj=>?_⟩
  · rcases Nat.lt_or_ge j (i+1)with h1|h1
    · exact h0.1 j h' h1
    · have:j=i+1:=by omega
      subst this;exact h
  · rcases Nat.lt_or_ge (j+1) (i+1)with h1|h1
    · exact h0.2 j h' h1
    · have:j=i:=by omega
      subst this;exact hr
theorem GoodTo.all (h:GoodTo p r l l.length):(l.all p&&aK6 r l)=true:=by
  rw[Bool.and_eq_true,List.all_eq_true,xU];refine⟨fun x hx=>?_,fun i hi=>h.2 i hi hi⟩;obtain⟨i,hi,rfl⟩:=List.mem_iff_getElem.1 hx;exact h.1 i hi hi
end
end Go.Pl
namespace Go.Hl
open Go Go.Pl
variable {P:Program}
theorem oM {f:FuncId}{fn:Func}{e:Array Value→Sem Value}{args:List CV}{R:CV→Prop}(hf:P.funcs[f]? =some fn)(hname:(fn.name== "runtime.NumGoroutine")=false)
    (hb:fn.body.isNone=true) (hn:Extern.findNext fn=none) (he:Extern.find fn=some e)
    (h: ∀(w:World) (ρ:Env) (O:Nat→Prop) (xs:List Value),RepHV w ρ O (args.map .c) xs→ ∃v x,R v∧RepV w ρ O (.c v) x∧(e xs.toArray).run P w= .ok x w):cL P f args R:=by
  refine⟨by grind[aH1],fun w ρ X xs hS hA hX=> .inr ⟨by grind[dJ,Option.isNone_iff_eq_none],?_⟩⟩;obtain⟨v,x,hR,hv,hrun⟩:=h w ρ _ xs hA;refine⟨x,by simp_all[run_callFunc_extern],.c v,cH,ρ,x,rfl,⟨v,rfl,hR,rfl⟩,⟨hv,hS,by simp[HV.men],fun id o h=>by simp[cH]at h,Stay2.refl _ _,Moves.refl _ _⟩⟩
theorem aF2 {w:World}{O:Nat→Prop}: ∀{l:List UInt8} {xs:List Value},RepL w O (l.map u8) xs→xs=l.map fun b=> .int .u8 (b.toNat:Int)
  |[],xs,h=>by simpa[RepL]using h
  |b::l,xs,h=>by
    simp only[List.map_cons,RepL,u8,RepC]at h;obtain⟨c1,c2,rfl,rfl,h2⟩:=h;rw[aF2 h2];rfl
theorem aK7 {w:World}{ρ:Env}{O:Nat→Prop}{l:List UInt8}{x:Value}(h:RepV w ρ O (.c (.slc (l.map u8))) x):(Extern.Bytes.bytesOf x).run P w= .ok ⟨l.toArray⟩ w:=by
  have h1:=h.single rfl;simp only[RepC,List.cons.injEq,and_true]at h1;obtain⟨a,cap,xs,sz,rfl,h2,_,h4,h5,h6⟩:=h1;have hx:=aF2 h2;cases a with
  |none=>
    have:=h5 rfl;have hl:l=[]:=by
      have:l.length=0:=by simp only[List.length_map]at h4;omega
      exact List.eq_nil_of_length_eq_zero this
    subst hl;simp only[Extern.Bytes.bytesOf,Sem.run_pure];rfl
  |some ad=>
    have hr:=(h6 ad rfl).1;have:=Go.Lib.run_loadBytesX (P:=P) w (l.map fun b=>(b.toNat:Int)) ad .empty (fun j y hj=>hr j _ (by
      rw[hx];rw[List.getElem?_map]at hj⊢;cases hb:l[j]? with
      |none=>rw[hb]at hj;cases hj
      |some b=>rw[hb]at hj;cases hj;rfl))
    simp only[List.length_map]at this;simp only[Extern.Bytes.bytesOf,List.length_map,this];congr 2;simp only[Go.Lib.bytesOf,List.map_map];have e:l.map ((fun n:Int=>n.toNat.toUInt8)∘fun b:UInt8=>(b.toNat:Int))=l:=by
      conv=>rhs;rw[←List.map_id l]
      exact List.map_congr_left fun b _=>by simp
    rw[e];simp
theorem aB1 {p:Nat→Bool}(n:Nat):(List.range (n+1)).find? p=if p 0 then some 0 else((List.range n).find? fun i=>p (i+1)).map (· +1):=by
  rw[List.range_succ_eq_map,List.find?_cons,List.find?_map];split<;>simp_all[Function.comp];rfl
end Go.Hl
namespace Go.Pl
open Go Go.Hl
theorem denilL_u8 (l:List UInt8):CV.denilL (l.map u8)=l.map u8:=cP (f:=u8) (fun _=>rfl) l
theorem vS (d:Dig):(d.1.map u8).take 32=d.1.map u8:=List.take_of_length_le (by rw[List.length_map,d.2];exact Nat.le_refl _)
def kSz (k:Ky):Prop:=k.o.length<2^63∧k.rs.length<2^40∧ ∀w∈k.rs,w.length<2^63
def rSz (r:Rt):Prop:=(r.q.length<2^40∧ ∀q∈r.q,q.r.length<2^63)∧(r.k.length<2^40∧ ∀k∈r.k,kSz k)∧r.x.length<2^40
end Go.Pl
namespace Go.Proofs.YtflnfidkociekaaGreatDoor
open Go Go.Hl Go.Pl
set_option maxRecDepth 10000
set_option maxHeartbeats 2000000
theorem aB2 (n:Int):cL Tryz.prog 20 [.int .i64 n] (fun v=>v= .bool (inN n)):=by
 refine bI Tryz.func20 rfl (by kernel_rfl) (bJ _) (Nat.le_of_ble_eq_true rfl) ?_;refine aD fun K hK=>aC (by kernel_rfl) ?_;simp (maxSteps:=4000000) only[↓sP,sA,tyS,simprocAttr];repeat refine AI ?_
 refine hK _ _ _ ?_;clear hK K;refine aD fun K hK=>aC (by kernel_rfl) ?_;simp only[sR,simprocAttr];iterate 3
  (refine aB (g:=none) rfl rfl fun K' hK'=>?_;simp only[sH,↓sP,sA,tyS,simprocAttr];(repeat refine AI ?_);refine hK' _ _ ?_;clear hK' K')
 refine bG 4 rfl (fun h1_4=>?_) (fun h1_4=>?_)
 ·
  iterate 2
   (refine aB (g:=some (5,true)) rfl rfl fun K' hK'=>?_;simp only[sH,↓sP,sA,tyS,simprocAttr,h1_4];(repeat refine AI ?_);refine hK' _ _ ?_;clear hK' K')
  iterate 2
   (refine aB (g:=none) rfl rfl fun K' hK'=>?_;simp only[sH,↓sP,sA,tyS,simprocAttr,h1_4];(repeat refine AI ?_);refine hK' _ _ ?_;clear hK' K')
  simp only[sE,↓reduceIte,simprocAttr];repeat refine AI ?_
  refine hK _ _ _ ?_;clear hK K;refine aT ?_;simp (maxSteps:=4000000) only[bA,Tryz.results20,aY,aZ,aX,↓sP,sA,tyS,simprocAttr];refine bF [] (.bool _) rfl ?_;simp[h1_4,inN,aA4];all_goals first|rfl|simp_all
 iterate 2
  (refine aB (g:=some (5,true)) rfl rfl fun K' hK'=>?_;simp only[sH,↓sP,sA,tyS,simprocAttr,h1_4];(repeat refine AI ?_);refine hK' _ _ ?_;clear hK' K')
 iterate 2
  (refine aB (g:=none) rfl rfl fun K' hK'=>?_;simp only[sH,↓sP,sA,tyS,simprocAttr,h1_4];(repeat refine AI ?_);refine hK' _ _ ?_;clear hK' K')
 simp only[sE,↓reduceIte,simprocAttr];repeat refine AI ?_
 refine hK _ _ _ ?_;clear hK K;refine aT ?_;simp (maxSteps:=4000000) only[bA,Tryz.results20,aY,aZ,aX,↓sP,sA,tyS,simprocAttr];refine bF [] (.bool _) rfl ?_;simp[h1_4,inN,aA4];all_goals first|rfl|simp_all
theorem mY (c:UInt8):cL Tryz.prog 52 [.int .u8 c.toNat] (fun v=>v= .bool (cF c)):=by
 refine bI Tryz.func52 rfl (by kernel_rfl) (bJ _) (Nat.le_of_ble_eq_true rfl) ?_;refine aD fun K hK=>aC (by kernel_rfl) ?_;simp (maxSteps:=4000000) only[↓sP,sA,tyS,simprocAttr];repeat refine AI ?_
 refine hK _ _ _ ?_;clear hK K;refine aD fun K hK=>aC (by kernel_rfl) ?_;simp only[sR,simprocAttr];iterate 3
  (refine aB (g:=none) rfl rfl fun K' hK'=>?_;simp only[sH,↓sP,sA,tyS,simprocAttr];(repeat refine AI ?_);refine hK' _ _ ?_;clear hK' K')
 refine bG 4 rfl (fun h1_4=>?_) (fun h1_4=>?_)
 ·
  iterate 2
   (refine aB (g:=some (5,true)) rfl rfl fun K' hK'=>?_;simp only[sH,↓sP,sA,tyS,simprocAttr,h1_4];(repeat refine AI ?_);refine hK' _ _ ?_;clear hK' K')
  iterate 2
   (refine aB (g:=none) rfl rfl fun K' hK'=>?_;simp only[sH,↓sP,sA,tyS,simprocAttr,h1_4];(repeat refine AI ?_);refine hK' _ _ ?_;clear hK' K')
  refine bG 7 rfl (fun h1_7=>?_) (fun h1_7=>?_)
  ·
   iterate 2
    (refine aB (g:=some (9,true)) rfl rfl fun K' hK'=>?_;simp only[sH,↓sP,sA,tyS,simprocAttr,h1_4,h1_7];(repeat refine AI ?_);refine hK' _ _ ?_;clear hK' K')
   iterate 2
    (refine aB (g:=none) rfl rfl fun K' hK'=>?_;simp only[sH,↓sP,sA,tyS,simprocAttr,h1_4,h1_7];(repeat refine AI ?_);refine hK' _ _ ?_;clear hK' K')
   simp only[sE,↓reduceIte,simprocAttr];repeat refine AI ?_
   refine hK _ _ _ ?_;clear hK K;refine aT ?_;simp (maxSteps:=4000000) only[bA,Tryz.results52,aY,aZ,aX,↓sP,sA,tyS,simprocAttr];refine bF [] (.bool _) rfl ?_;simp[h1_4,h1_7,cF];all_goals first|rfl|simp_all|omega
  iterate 2
   (refine aB (g:=some (9,true)) rfl rfl fun K' hK'=>?_;simp only[sH,↓sP,sA,tyS,simprocAttr,h1_4,h1_7];(repeat refine AI ?_);refine hK' _ _ ?_;clear hK' K')
  iterate 2
   (refine aB (g:=none) rfl rfl fun K' hK'=>?_;simp only[sH,↓sP,sA,tyS,simprocAttr,h1_4,h1_7];(repeat refine AI ?_);refine hK' _ _ ?_;clear hK' K')
  simp only[sE,↓reduceIte,simprocAttr];repeat refine AI ?_
  refine hK _ _ _ ?_;clear hK K;refine aT ?_;simp (maxSteps:=4000000) only[bA,Tryz.results52,aY,aZ,aX,↓sP,sA,tyS,simprocAttr];refine bF [] (.bool _) rfl ?_;simp[h1_4,h1_7,cF];all_goals first|rfl|simp_all|omega
 iterate 2
  (refine aB (g:=some (5,true)) rfl rfl fun K' hK'=>?_;simp only[sH,↓sP,sA,tyS,simprocAttr,h1_4];(repeat refine AI ?_);refine hK' _ _ ?_;clear hK' K')
 iterate 2
  (refine aB (g:=none) rfl rfl fun K' hK'=>?_;simp only[sH,↓sP,sA,tyS,simprocAttr,h1_4];(repeat refine AI ?_);refine hK' _ _ ?_;clear hK' K')
 iterate 2
  (refine aB (g:=some (9,true)) rfl rfl fun K' hK'=>?_;simp only[sH,↓sP,sA,tyS,simprocAttr,h1_4];(repeat refine AI ?_);refine hK' _ _ ?_;clear hK' K')
 iterate 2
  (refine aB (g:=none) rfl rfl fun K' hK'=>?_;simp only[sH,↓sP,sA,tyS,simprocAttr,h1_4];(repeat refine AI ?_);refine hK' _ _ ?_;clear hK' K')
 simp only[sE,↓reduceIte,simprocAttr];repeat refine AI ?_
 refine hK _ _ _ ?_;clear hK K;refine aT ?_;simp (maxSteps:=4000000) only[bA,Tryz.results52,aY,aZ,aX,↓sP,sA,tyS,simprocAttr];refine bF [] (.bool _) rfl ?_;simp[h1_4,cF];all_goals first|rfl|simp_all|omega
theorem oN (c:UInt8):cL Tryz.prog 53 [.int .u8 c.toNat] (fun v=>v= .bool (cF c)):=by
 refine bI Tryz.func53 rfl (by kernel_rfl) (bJ _) (Nat.le_of_ble_eq_true rfl) ?_;refine aD fun K hK=>aC (by kernel_rfl) ?_;simp (maxSteps:=4000000) only[↓sP,sA,tyS,simprocAttr];repeat refine AI ?_
 refine hK _ _ _ ?_;clear hK K;refine aD fun K hK=>aC (by kernel_rfl) ?_;simp only[sR,simprocAttr];iterate 3
  (refine aB (g:=none) rfl rfl fun K' hK'=>?_;simp only[sH,↓sP,sA,tyS,simprocAttr];(repeat refine AI ?_);refine hK' _ _ ?_;clear hK' K')
 refine bG 4 rfl (fun h1_4=>?_) (fun h1_4=>?_)
 ·
  iterate 2
   (refine aB (g:=some (5,true)) rfl rfl fun K' hK'=>?_;simp only[sH,↓sP,sA,tyS,simprocAttr,h1_4];(repeat refine AI ?_);refine hK' _ _ ?_;clear hK' K')
  iterate 2
   (refine aB (g:=none) rfl rfl fun K' hK'=>?_;simp only[sH,↓sP,sA,tyS,simprocAttr,h1_4];(repeat refine AI ?_);refine hK' _ _ ?_;clear hK' K')
  refine bG 7 rfl (fun h1_7=>?_) (fun h1_7=>?_)
  ·
   iterate 2
    (refine aB (g:=some (9,true)) rfl rfl fun K' hK'=>?_;simp only[sH,↓sP,sA,tyS,simprocAttr,h1_4,h1_7];(repeat refine AI ?_);refine hK' _ _ ?_;clear hK' K')
   iterate 2
    (refine aB (g:=none) rfl rfl fun K' hK'=>?_;simp only[sH,↓sP,sA,tyS,simprocAttr,h1_4,h1_7];(repeat refine AI ?_);refine hK' _ _ ?_;clear hK' K')
   simp only[sE,↓reduceIte,simprocAttr];repeat refine AI ?_
   refine hK _ _ _ ?_;clear hK K;refine aT ?_;simp (maxSteps:=4000000) only[bA,Tryz.results53,aY,aZ,aX,↓sP,sA,tyS,simprocAttr];refine bF [] (.bool _) rfl ?_;simp[h1_4,h1_7,cF];all_goals first|rfl|simp_all|omega
  iterate 2
   (refine aB (g:=some (9,true)) rfl rfl fun K' hK'=>?_;simp only[sH,↓sP,sA,tyS,simprocAttr,h1_4,h1_7];(repeat refine AI ?_);refine hK' _ _ ?_;clear hK' K')
  iterate 2
   (refine aB (g:=none) rfl rfl fun K' hK'=>?_;simp only[sH,↓sP,sA,tyS,simprocAttr,h1_4,h1_7];(repeat refine AI ?_);refine hK' _ _ ?_;clear hK' K')
  simp only[sE,↓reduceIte,simprocAttr];repeat refine AI ?_
  refine hK _ _ _ ?_;clear hK K;refine aT ?_;simp (maxSteps:=4000000) only[bA,Tryz.results53,aY,aZ,aX,↓sP,sA,tyS,simprocAttr];refine bF [] (.bool _) rfl ?_;simp[h1_4,h1_7,cF];all_goals first|rfl|simp_all|omega
 iterate 2
  (refine aB (g:=some (5,true)) rfl rfl fun K' hK'=>?_;simp only[sH,↓sP,sA,tyS,simprocAttr,h1_4];(repeat refine AI ?_);refine hK' _ _ ?_;clear hK' K')
 iterate 2
  (refine aB (g:=none) rfl rfl fun K' hK'=>?_;simp only[sH,↓sP,sA,tyS,simprocAttr,h1_4];(repeat refine AI ?_);refine hK' _ _ ?_;clear hK' K')
 iterate 2
  (refine aB (g:=some (9,true)) rfl rfl fun K' hK'=>?_;simp only[sH,↓sP,sA,tyS,simprocAttr,h1_4];(repeat refine AI ?_);refine hK' _ _ ?_;clear hK' K')
 iterate 2
  (refine aB (g:=none) rfl rfl fun K' hK'=>?_;simp only[sH,↓sP,sA,tyS,simprocAttr,h1_4];(repeat refine AI ?_);refine hK' _ _ ?_;clear hK' K')
 simp only[sE,↓reduceIte,simprocAttr];repeat refine AI ?_
 refine hK _ _ _ ?_;clear hK K;refine aT ?_;simp (maxSteps:=4000000) only[bA,Tryz.results53,aY,aZ,aX,↓sP,sA,tyS,simprocAttr];refine bF [] (.bool _) rfl ?_;simp[h1_4,cF];all_goals first|rfl|simp_all|omega
theorem aF3 (w:aU)(hl:w.length<2^40):cL Tryz.prog 32 [.str w] (fun v=>v= .int .i64 (sizeW w:Nat)):=by
 refine bI Tryz.func32 rfl (by kernel_rfl) (bJ _) (Nat.le_of_ble_eq_true rfl) ?_;refine aD fun K hK=>aC (by kernel_rfl) ?_;simp (maxSteps:=4000000) only[↓sP,sA,tyS,simprocAttr];repeat refine AI ?_
 refine hK _ _ _ ?_;clear hK K;refine aD fun K hK=>aC (by kernel_rfl) ?_;simp (maxSteps:=4000000) only[↓sP,sA,tyS,simprocAttr];repeat refine AI ?_
 refine hK _ _ _ ?_;clear hK K;refine aD fun K hK=>?_;refine aD fun K hK=>aC (by kernel_rfl) ?_;simp (maxSteps:=4000000) only[↓sP,sA,tyS,simprocAttr];repeat refine AI ?_
 refine hK _ _ _ ?_;clear hK K;refine bE ?_;refine cA (α:={i:Nat//i≤w.length}) (fun i=>(fin [(0,.c (.str w)),(3,.c (.int .i64 (cI (w.take i.1)).length)),(4,.c (.int .i64 i.1))],fob [])) 100 (fun i=>w.length-i.1) ⟨0,by omega⟩ (aS (by omega) (by simp[bK,fin_at,finA_at,upd_at,HV.men,HV.menL,HV.norm,HV.toC,HV.toCL]) (by simp[bM,fob_at,upd_at,none0_at,bY,HO.men,HV.men,HV.menL,HV.norm,HV.toC,HV.toCL])) ?_;rintro⟨i,hi⟩;have hle:=iE w i;have hle3:=mT w;refine aD fun K hK=>?_;refine aD fun K hK=>aC (by kernel_rfl) ?_;simp only[sR,simprocAttr];iterate 4
  (refine aB (g:=none) rfl rfl fun K' hK'=>?_;simp only[sH,↓sP,sA,tyS,simprocAttr];(repeat refine AI ?_);refine hK' _ _ ?_;clear hK' K')
 simp only[sE,↓reduceIte,simprocAttr];repeat refine AI ?_
 refine hK _ _ _ ?_;clear hK K;refine aQ (b:=decide ((i:Int)<w.length)) rfl (fun hb=>?_) (fun hb=>?_)
 ·
  have hlt:i<w.length:=by simpa using hb
  have hgd:w.getD i 0=w[i]:=by simp[hlt]
  have hs:=lV hlt;refine aV ?_;simp (maxSteps:=4000000) only[↓sP,sA,tyS,simprocAttr];repeat refine AI ?_
  refine hK _ _ _ ?_;clear hK K;refine aD fun K hK=>?_;refine bE ?_;refine aD fun K hK=>aC (by kernel_rfl) ?_;simp (maxSteps:=4000000) only[↓sP,sA,tyS,simprocAttr,IntWalk.i64_in _ (show-9223372036854775808≤((cI (w.take i)).length:Int)+1∧((cI (w.take i)).length:Int)+1≤9223372036854775807 by omega)];repeat refine AI ?_
  refine hK _ _ _ ?_;clear hK K;refine aD fun K hK=>aC (by kernel_rfl) ?_;simp only[sR,simprocAttr];iterate 3
   (refine aB (g:=none) rfl rfl fun K' hK'=>?_;simp only[sH,↓sP,sA,tyS,simprocAttr,Int.natCast_nonneg,Int.ofNat_lt,hlt,hgd];(repeat refine AI ?_);refine hK' _ _ ?_;clear hK' K')
  refine aB (g:=none) rfl rfl fun K' hK'=>?_;simp (maxSteps:=4000000) only[sH,↓sP,sA,tyS,simprocAttr,Int.natCast_nonneg,Int.ofNat_lt,hlt,hgd];refine bH (args:=[_]) (mY w[i]) ⟨rfl,rfl,rfl,rfl⟩ ?_;rintro u rfl;repeat refine AI ?_
  refine hK' _ _ ?_;clear hK' K';refine aB (g:=none) rfl rfl fun K' hK'=>?_;simp (maxSteps:=4000000) only[sH,↓sP,sA,tyS,simprocAttr,Int.natCast_nonneg,Int.ofNat_lt,hlt,hgd];repeat refine AI ?_
  refine hK' _ _ ?_;clear hK' K';simp only[sE,↓reduceIte,simprocAttr];repeat refine AI ?_
  refine hK _ _ _ ?_;clear hK K;refine aQ (b:=!cF w[i]) rfl (fun hb=>?_) (fun hb=>?_)
  ·
   refine aC (by kernel_rfl) ?_;simp (maxSteps:=4000000) only[↓sP,sA,tyS,simprocAttr,IntWalk.i64_in _ (show-9223372036854775808≤((cI (w.take i)).length:Int)+1+2∧((cI (w.take i)).length:Int)+1+2≤9223372036854775807 by omega)];repeat refine AI ?_
   refine hK _ _ _ ?_;clear hK K;refine aC (by kernel_rfl) ?_;simp (maxSteps:=4000000) only[↓sP,sA,tyS,simprocAttr,IntWalk.i64_in _ (show-9223372036854775808≤(i:Int)+1∧(i:Int)+1≤9223372036854775807 by omega)];have hp:cF w[i]=false:=by simpa using hb
   have he:((cI (w.take i)).length:Int)+1+2=((cI (w.take (i+1))).length:Int):=by
    rw[hs,List.length_append,gA,if_neg (by rw[hp];simp)];simp;omega
   simp only[he];refine⟨⟨i+1,hlt⟩,aS (by omega) (by simp[bK,fin_at,finA_at,upd_at,HV.men,HV.menL,HV.norm,HV.toC,HV.toCL]) (by simp[bM,fob_at,upd_at,none0_at,bY,HO.men,HV.men,HV.menL,HV.norm,HV.toC,HV.toCL]),?_⟩;show w.length-(i+1)<w.length-i;omega
  refine aV ?_;simp (maxSteps:=4000000) only[↓sP,sA,tyS,simprocAttr];repeat refine AI ?_
  refine hK _ _ _ ?_;clear hK K;refine aC (by kernel_rfl) ?_;simp (maxSteps:=4000000) only[↓sP,sA,tyS,simprocAttr,IntWalk.i64_in _ (show-9223372036854775808≤(i:Int)+1∧(i:Int)+1≤9223372036854775807 by omega)];have hp:cF w[i]=true:=by simpa using hb
  have he:((cI (w.take i)).length:Int)+1=((cI (w.take (i+1))).length:Int):=by
   rw[hs,List.length_append,gA,if_pos hp];simp
  simp only[he];refine⟨⟨i+1,hlt⟩,aS (by omega) (by simp[bK,fin_at,finA_at,upd_at,HV.men,HV.menL,HV.norm,HV.toC,HV.toCL]) (by simp[bM,fob_at,upd_at,none0_at,bY,HO.men,HV.men,HV.menL,HV.norm,HV.toC,HV.toCL]),?_⟩;show w.length-(i+1)<w.length-i;omega
 refine bW ?_;simp (maxSteps:=4000000) only[↓sP,sA,tyS,simprocAttr];clear hK K;repeat refine AI ?_
 refine hK _ _ _ ?_;clear hK K;refine aD fun K hK=>aC (by kernel_rfl) ?_;simp (maxSteps:=4000000) only[↓sP,sA,tyS,simprocAttr,bI7];repeat refine AI ?_
 refine hK _ _ _ ?_;clear hK K;refine aT ?_;simp (maxSteps:=4000000) only[bA,Tryz.results32,aY,aZ,aX,↓sP,sA,tyS,simprocAttr];have hei:i=w.length:=by simp at hb;omega
 subst hei;exact bF [] (.int .i64 (sizeW w:Nat)) (by rw[List.take_length];rfl) rfl
theorem aF4 (w:aU)(hl:w.length<2^40):cL Tryz.prog 33 [.str w] (fun v=>v= .str (fE w)):=by
 refine bI Tryz.func33 rfl (by kernel_rfl) (bJ _) (Nat.le_of_ble_eq_true rfl) ?_;refine aD fun K hK=>aC (by kernel_rfl) ?_;simp (maxSteps:=4000000) only[↓sP,sA,tyS,simprocAttr];repeat refine AI ?_
 refine hK _ _ _ ?_;clear hK K;refine aD fun K hK=>?_;refine aD fun K hK=>aC (by kernel_rfl) ?_;simp (maxSteps:=4000000) only[↓sP,sA,tyS,simprocAttr];repeat refine AI ?_
 refine hK _ _ _ ?_;clear hK K;refine aQ (b:=w==[]) rfl (fun hb=>?_) (fun hb=>?_)
 ·
  refine aD fun K hK=>aC (by kernel_rfl) ?_;simp (maxSteps:=4000000) only[↓sP,sA,tyS,simprocAttr];repeat refine AI ?_
  refine hK _ _ _ ?_;clear hK K;refine aT ?_;simp (maxSteps:=4000000) only[bA,Tryz.results33,aY,aZ,aX,↓sP,sA,tyS,simprocAttr];exact bF [] (.str [126]) rfl (by rw[fE,if_pos (by simpa using hb)])
 refine aV ?_;simp (maxSteps:=4000000) only[↓sP,sA,tyS,simprocAttr];repeat refine AI ?_
 refine hK _ _ _ ?_;clear hK K;have hne:w≠[]:=by simpa using hb
 have hz:(sizeW w:Int)≤140737488355328:=by have:=kI w;omega
 clear hb;refine aD fun K hK=>aC (by kernel_rfl) ?_;simp only[sR,simprocAttr];refine aB (g:=none) rfl rfl fun K' hK'=>?_;simp (maxSteps:=4000000) only[sH,↓sP,sA,tyS,simprocAttr,Int.natCast_nonneg,hz,Int.mul_one];repeat refine AI ?_
 refine hK' _ _ ?_;clear hK' K';refine aB (g:=none) rfl rfl fun K' hK'=>?_;simp (maxSteps:=4000000) only[sH,↓sP,sA,tyS,simprocAttr,Int.natCast_nonneg,hz,Int.mul_one];refine bH (args:=[_]) (aF3 w hl) ⟨rfl,rfl,rfl,rfl⟩ ?_;rintro u rfl;repeat refine AI ?_
 refine hK' _ _ ?_;clear hK' K';iterate 2
  (refine aB (g:=none) rfl rfl fun K' hK'=>?_;simp only[sH,↓sP,sA,tyS,simprocAttr,Int.natCast_nonneg,hz,Int.mul_one];(repeat refine AI ?_);refine hK' _ _ ?_;clear hK' K')
 simp only[sE,↓reduceIte,simprocAttr];repeat refine AI ?_
 refine hK _ _ _ ?_;clear hK K;refine aD fun K hK=>?_;refine aD fun K hK=>aC (by kernel_rfl) ?_;simp (maxSteps:=4000000) only[↓sP,sA,tyS,simprocAttr];repeat refine AI ?_
 refine hK _ _ _ ?_;clear hK K;refine bE ?_;refine cA (α:={i:Nat//i≤w.length}) (fun i=>(fin [(0,.c (.str w)),(3,.own 20 (cI (w.take i.1)).length),(4,.c (.int .i64 i.1))],fob [(20,.row 5 1 ((cI (w.take i.1)).map cQ))])) 100 (fun i=>w.length-i.1) ⟨0,by omega⟩ (aS (by omega) (by simp[bK,fin_at,finA_at,upd_at,HV.men,HV.menL,HV.norm,HV.toC,HV.toCL]) (by simp[bM,fob_at,upd_at,none0_at,bY,HO.men,HV.men,HV.menL,HV.norm,HV.toC,HV.toCL])) ?_;rintro⟨i,hi⟩;have hle:=iE w i;have hle3:=mT w;refine aD fun K hK=>?_;refine aD fun K hK=>aC (by kernel_rfl) ?_;simp only[sR,simprocAttr];iterate 4
  (refine aB (g:=none) rfl rfl fun K' hK'=>?_;simp only[sH,↓sP,sA,tyS,simprocAttr];(repeat refine AI ?_);refine hK' _ _ ?_;clear hK' K')
 simp only[sE,↓reduceIte,simprocAttr];repeat refine AI ?_
 refine hK _ _ _ ?_;clear hK K;refine aQ (b:=decide ((i:Int)<w.length)) rfl (fun hb=>?_) (fun hb=>?_)
 ·
  have hlt:i<w.length:=by simpa using hb
  have hgd:w.getD i 0=w[i]:=by simp[hlt]
  have hs:=lV hlt;refine aV ?_;simp (maxSteps:=4000000) only[↓sP,sA,tyS,simprocAttr];repeat refine AI ?_
  refine hK _ _ _ ?_;clear hK K;refine aD fun K hK=>?_;refine bE ?_;refine aD fun K hK=>aC (by kernel_rfl) ?_;simp only[sR,simprocAttr];iterate 3
   (refine aB (g:=none) rfl rfl fun K' hK'=>?_;simp only[sH,↓sP,sA,tyS,simprocAttr,Int.natCast_nonneg,Int.ofNat_lt,hlt,hgd];(repeat refine AI ?_);refine hK' _ _ ?_;clear hK' K')
  refine aB (g:=none) rfl rfl fun K' hK'=>?_;simp (maxSteps:=4000000) only[sH,↓sP,sA,tyS,simprocAttr,Int.natCast_nonneg,Int.ofNat_lt,hlt,hgd];refine bH (args:=[_]) (mY w[i]) ⟨rfl,rfl,rfl,rfl⟩ ?_;rintro u rfl;repeat refine AI ?_
  refine hK' _ _ ?_;clear hK' K';simp only[sE,↓reduceIte,simprocAttr];repeat refine AI ?_
  refine hK _ _ _ ?_;clear hK K;refine aQ (b:=cF w[i]) rfl (fun hb=>?_) (fun hb=>?_)
  ·
   refine aC (by kernel_rfl) ?_;simp only[sR,simprocAttr];iterate 7
    (refine aB (g:=none) rfl rfl fun K' hK'=>?_;simp only[sH,↓sP,sA,tyS,simprocAttr,Int.natCast_nonneg,Int.ofNat_lt,hlt,hgd,List.length_append,List.length_map];(repeat refine AI ?_);refine hK' _ _ ?_;clear hK' K')
   simp only[sE,↓reduceIte,simprocAttr];repeat refine AI ?_
   refine hK _ _ _ ?_;clear hK K;refine aC (by kernel_rfl) ?_;simp (maxSteps:=4000000) only[↓sP,sA,tyS,simprocAttr,IntWalk.i64_in _ (show-9223372036854775808≤(i:Int)+1∧(i:Int)+1≤9223372036854775807 by omega)];refine⟨⟨i+1,hlt⟩,aS (by omega) ?_ ?_,?_⟩
   · rw[hs,gA,if_pos hb];simp[bK,upd_at,fin_at,HV.men]
   · rw[hs,gA,if_pos hb,List.map_append];exact⟨rfl,by omega,trivial,trivial⟩
   show w.length-(i+1)<w.length-i;omega
  have h16:((w[i].toNat/16:Nat):Int)<16:=by have:=w[i].toNat_lt;omega
  have h15:((w[i].toNat%16:Nat):Int)<16:=by omega
  refine eL mixed [(0,[],[]),(1,[],[]),(2,[],[]),(3,[],[]),(4,[],[]),(5,[],[]),(6,[],[]),(7,[],[]),(8,[],[]),(9,[],[]),(10,[],[]),(11,[],[]),(12,[],[]),(13,[],[])] [0,0,0,6,14,30,0,0,192,448,960,2046,4095,8191] (by kernel_rfl) (by kernel_rfl) (by kernel_rfl) (by kernel_rfl) rfl (by kernel_rfl) ?_;iterate 14
   (refine bR (g:=none) rfl rfl fun K' hK'=>?_;simp only[sH,↓sP,sA,tyS,simprocAttr,Int.natCast_nonneg,Int.ofNat_lt,hlt,hgd,List.length_append,List.length_map,bD4,aR5,h16,h15];(repeat refine AI ?_);refine hK' _ _ ?_;clear hK' K')
  simp only[sE,↓reduceIte,simprocAttr];repeat refine AI ?_
  refine hK _ _ _ ?_;clear hK K;refine aC (by kernel_rfl) ?_;simp (maxSteps:=4000000) only[↓sP,sA,tyS,simprocAttr,IntWalk.i64_in _ (show-9223372036854775808≤(i:Int)+1∧(i:Int)+1≤9223372036854775807 by omega)];refine⟨⟨i+1,hlt⟩,aS (by omega) ?_ ?_,?_⟩
  · rw[hs,gA,if_neg (by rw[hb];simp)];simp[bK,upd_at,fin_at,HV.men]
  · rw[hs,gA,if_neg (by rw[hb];simp),List.map_append];exact⟨rfl,by omega,trivial,trivial⟩
  show w.length-(i+1)<w.length-i;omega
 refine bW ?_;simp (maxSteps:=4000000) only[↓sP,sA,tyS,simprocAttr];clear hK K;repeat refine AI ?_
 refine hK _ _ _ ?_;clear hK K;refine eK [20] (cN (fr2:=fin [(3,.c (.slc ((cI (w.take i)).map cQ)))]) (ob2:=fob []) (nx2:=200) (aS (by omega) (by simp[bK,iB,fin_at,finA_at,upd_at,fob_at,HV.close,HV.closeL,CV.denil,CV.denilL,dI,HV.men,HV.menL,HV.norm,HV.toC,HV.toCL]) (by simp[bM,iC,fob_at,upd_at,none0_at,bY,HO.close,HV.close,HV.closeL,HO.men,HV.men,HV.menL,HV.norm,HV.toC,HV.toCL])) ?_);refine aD fun K hK=>aC (by kernel_rfl) ?_;simp (maxSteps:=4000000) only[↓sP,sA,tyS,simprocAttr,bytesC_map];repeat refine AI ?_
 refine hK _ _ _ ?_;clear hK K;refine aT ?_;simp (maxSteps:=4000000) only[bA,Tryz.results33,aY,aZ,aX,↓sP,sA,tyS,simprocAttr];have hei:i=w.length:=by simp at hb;omega
 subst hei;exact bF [] (.str (cI w)) (by rw[List.take_length];rfl) (by rw[fE,if_neg hne])
end Go.Proofs.YtflnfidkociekaaGreatDoor
