/- HL, part J: numbers, strings, tests, slices of slices, tuples; the operations in one. By an AI agent. -/
import Derived.Lib.Strings
import Derived.Test.YtlgckianjabghaaGreatDoorHlF
set_option linter.unusedSimpArgs false
set_option linter.unusedVariables false
set_option linter.defProp false
namespace Go.Hl
open Go
theorem aP4 : ∀(l:List Value) (k off:Nat) (cells:Array Value),off+k+l.length≤cells.size→
  ((l.zipIdx k).foldl (fun cs (p:Value×Nat)=>cs.setIfInBounds (off+p.2) p.1) cells).toList=cells.toList.take (off+k)++l++cells.toList.drop (off+k+l.length)
 |[],k,off,cells,_=>by simp
 |v::vs,k,off,cells,h=>by
  simp only[B0]at h;have ih:=aP4 vs (k+1) off (cells.setIfInBounds (off+k) v) (by grind);simp only[List.zipIdx_cons,List.foldl_cons,ih,Array.toList_setIfInBounds];have hk:off+k<cells.toList.length:=by simp;omega
  rw[show off+(k+1)=(off+k)+1 from by omega,List.take_add_one];simp only[List.take_set,List.drop_set,B0];rw[B6 (by omega)];grind[List.set_eq_of_length_le,List.getElem?_set_self,Option.toList_some]
theorem oF (v:Array Value)(off:Nat)(cells:Array Value)(h:off+v.size≤cells.size):
  (v.zipIdx.foldl (fun cs (p:Value×Nat)=>cs.setIfInBounds (off+p.2) p.1) cells).toList=cells.toList.take off++v.toList++cells.toList.drop (off+v.size):=by
 have:=aP4 v.toList 0 off cells (by grind);grind[Array.toList_zipIdx]
def uI (l:List Nat):Nat:=l.foldr (· +·) 0
theorem xO : ∀(l:List HV),HV.cellsL l=uI (l.map HV.cells)
 |[]=>rfl
 |v::vs=>by simp[HV.cellsL,uI,xO vs]
theorem aP5 {w:World}{ρ:Env}{O:Nat→Prop}: ∀{l:List HV} {cs:List Value} {i:Nat} {v:HV},RepHL w ρ O l cs→l[i]? =some v→
  ∃c1 c2 c3,cs=c1++c2++c3∧c1.length=uI ((l.map HV.cells).take i)∧c2.length=v.cells∧ ∀u c2',RepH w ρ O u c2'→RepHL w ρ O (l.set i u) (c1++c2'++c3)
 |[],cs,i,v,h,hi=>by grind
 |x::xs,cs,0,v,h,hi=>by
  simp only[RepHL]at h;obtain⟨c1,c2,rfl,h1,h2⟩:=h;simp only[M3,D6]at hi;subst hi;exact⟨[],c1,c2,by simp,by simp[uI],bZ h1,fun u c2' h'=>by grind[RepHL]⟩
 |x::xs,cs,i+1,v,h,hi=>by
  simp only[RepHL]at h;obtain⟨c1,c2,rfl,h1,h2⟩:=h;simp only[N2]at hi;obtain⟨d1,d2,d3,rfl,e1,e2,e3⟩:=aP5 h2 hi;grind[List.length_append,bZ,uI,RepHL]
def hfill (e:Operand→HV):List (Nat×Operand)→List HV→Option (List HV)
 |[],hs=>some hs
 |(i,x)::ps,hs=>match hs[i]? with
  |some old=>if(e x).sto=true∧(e x).cells=old.cells then hfill e ps (hs.set i (e x))else none
  |none=>none
theorem aP6 : ∀{l:List HV} {i:Nat} {u:HV},HV.stoL l=true→u.sto=true→HV.stoL (l.set i u)=true
 |[],_,_,_,_=>rfl
 |x::xs,0,u,h,hu=>by simp_all[W9,HV.stoL,A6]
 |x::xs,i+1,u,h,hu=>by simp only[P0,HV.stoL,A6]at h⊢;exact⟨h.1,aP6 h.2 hu⟩
theorem aP7 {M:Nat→Prop}: ∀{l:List HV} {i:Nat} {u:HV},HV.menL M l→u.men M→HV.menL M (l.set i u)
 |[],_,_,_,_=>by grind
 |x::xs,0,u,h,hu=>by grind[HV.menL]
 |x::xs,i+1,u,h,hu=>by simp only[P0,HV.menL]at h⊢;exact⟨h.1,aP7 h.2 hu⟩
section
variable {P:Program}{c:Ctx}{M:Nat→Prop}{fr:Fr}{ob:Ob}{a:Act}{w:World}{ρ:Env}
theorem rG (h:RepA' c M fr ob a w ρ)(place:Nat→Option (Nat×Nat)): ∀(ps:List (Nat×Operand)) (hs hs':List HV) (cells:Array Value),
  (∀i k,(hs.map HV.cells)[i]? =some k→place i=some (uI ((hs.map HV.cells).take i),k))→RepHL w ρ (Owned ρ c.X) hs cells.toList→HV.stoL hs=true→HV.menL M hs→hfill (ev fr) ps hs=some hs'→
  ∃cells',Instr.fill place cells (ps.map fun p=>(p.1,a.eval p.2))=some cells'∧RepHL w ρ (Owned ρ c.X) hs' cells'.toList∧HV.stoL hs'=true∧HV.menL M hs'
 |[],hs,hs',cells,_,hr,h1,h2,hf=>by simp only[hfill,D6]at hf;subst hf;exact⟨cells,rfl,hr,h1,h2⟩
 |(i,x)::ps,hs,hs',cells,hpl,hr,h1,h2,hf=>by
  simp only[hfill]at hf;split at hf
  ·
   rename_i old ho;split at hf
   ·
    rename_i hc;obtain⟨c1,c2,c3,hcs,e1,e2,e3⟩:=aP5 hr ho;have hv:=h.ev x (by grind[HV.sto]);have hlen:(a.eval x).cells.size=c2.length:=by
     have:=bZ hv.1;rw[hc.2,←e2]at this;simpa using this
    have hp:place i=some (c1.length,old.cells):=by grind
    have hmap:(hs.set i (ev fr x)).map HV.cells=hs.map HV.cells:=by
     rw[N4,hc.2];apply BI;intro j;rw[BJ];by_cases hij:i=j
     · grind
     · grind
    have hsize:cells.size=c1.length+c2.length+c3.length:=by
     have:=congrArg List.length hcs;simpa[S9]using this
    obtain⟨cells',f1,f2⟩:=rG h place ps (hs.set i (ev fr x)) hs' ((a.eval x).cells.zipIdx.foldl (fun cs (p:Value×Nat)=>cs.setIfInBounds (c1.length+p.2) p.1) cells)
     (by grind) (by
      rw[oF _ _ _ (by omega),hcs,hlen];have:=lO (l1:=c1) (l2:=c2) (l3:=c3) (x:=(a.eval x).cells.toList) (by grind);simp only[N6,hlen]at this;rw[this];exact e3 _ _ hv.1) (aP6 h1 hc.1) (aP7 h2 (h.evm x)) hf
    simp_all[D0,Instr.fill,A7,AG,N8,B9,not_or,BK]
   grind
  grind
def iK (ti:TyI)(parts:List (Nat×Operand))(e:Operand→HV)(K:HV→Prop):Prop:=
 match ti.z with
 | .agg zs=>hlift (hfill e parts (zs.map .c)) fun hs=>K (HV.norm (.agg hs))
 |_=>False
theorem xP : ∀{fs:List (Nat×TypeId)} {zs:List CV} {k:Nat},aI7 P fs zs k=true→fs.length=zs.length∧ ∀i o t,fs[i]? =some (o,t)→ ∃z info,zs[i]? =some z∧P.info? t=some info∧info.size=z.cells∧o=k+uI ((zs.map CV.cells).take i)
 |[],[],_,_=>⟨rfl,by simp⟩
 |[],_::_,_,h=>by simp[aI7]at h
 |_::_,[],_,h=>by simp[aI7]at h
 |(o,t)::fs,z::zs,k,h=>by
  simp only[aI7,A6,G9]at h;obtain⟨⟨⟨h1,h2⟩,h3⟩,h4⟩:=h;obtain⟨e1,e2⟩:=xP h4;refine⟨by simp[e1],fun i o' t' hi=>?_⟩;cases i with
  |zero=>
   simp only[M3,D6,R1]at hi;obtain⟨rfl,rfl⟩:=hi;cases hq:P.info? t with
   |none=>rw[hq]at h2;cases h2
   |some info=>
    simp only[Program.cellsOf,hq,H8,E0]at h3;exact⟨z,info,rfl,rfl,h3,by simp[uI,h1]⟩
  |succ i=>
   simp only[N2]at hi;obtain⟨z',info,f1,f2,f3,f4⟩:=e2 i o' t' hi;exact⟨z',info,by simpa using f1,f2,f3,by rw[f4];simp[uI];omega⟩
theorem xQ {α:Type}(g:Field→Sem α)(v:Field→α)(w:World): ∀(fs:List Field),(∀f∈fs,(g f).run P w= .ok (v f) w)→(fs.mapM g).run P w= .ok (fs.map v) w
 |[],_=>by simp
 |f::fs,h=>by
  have ih:=xQ g v w fs (fun x hx=>h x (by grind));simp_all
theorem cellsHV_c (l:List CV):(l.map HV.c).map HV.cells=l.map CV.cells:=by grind[List.map_map,List.map_congr_left,HV.cells]
theorem aP8 (h:RepA' c M fr ob a w ρ){t:TypeId}{ti:TyI}(ht:aT P t=some ti){parts:Array (Nat×Operand)}{K:HV→Prop}(hl:iK ti parts.toList (ev fr) K):
  ∃u y,K u∧(Instr.build t (parts.map fun p=>(p.1,a.eval p.2))).run P w= .ok y w∧RepV w ρ (Owned ρ c.X) u y∧u.men M:=by
 obtain⟨i,d,zv,hty⟩:=bM ht;unfold iK at hl;split at hl
 ·
  rename_i zs hz;rw[aD]at hl;obtain⟨hs,hf,hK⟩:=hl;have hrep:RepHL w ρ (Owned ρ c.X) (zs.map .c) zv.cells.toList:=by
   rw[sF];have:=hty.rep w (Owned ρ c.X);rw[hz]at this;simpa only[RepC]using this
  have hzero:(zeroValue t).run P w= .ok zv w:=by simp[zeroValue,typeInfo,hty.info,hty.zero]
  have hag:=hty.dagg;rw[hz]at hag;have hlay:=hty.lay_;rw[hz]at hlay;have hd:=hty.d_;have hm:HV.menL M (zs.map .c):=HV.menL_c;cases hd2:ti.d with
  |struct fs=>
   rw[hd2]at hd hlay;cases d<;>simp[tyd]at hd;rename_i gs;simp only[lay]at hlay;obtain⟨hlen,hpl⟩:=xP hlay;have hplace: ∀f∈gs.toList,((do pure (f.offset,←sizeOf f.type)):Sem (Nat×Nat)).run P w= .ok (f.offset,P.cellsOf f.type) w:=by
    intro f hf';obtain⟨j,hj⟩:=List.getElem?_of_mem hf';obtain⟨z,info,_,h2,_,_⟩:=hpl j f.offset f.type (by rw[←hd,N3,hj];rfl);simp[cD h2,Program.cellsOf,h2]
   have hrun:=xQ (P:=P) (fun f=>(do pure (f.offset,←sizeOf f.type):Sem (Nat×Nat))) (fun f=>(f.offset,P.cellsOf f.type)) w gs.toList hplace;obtain⟨cells',f1,f2,f3,f4⟩:=rG h ((gs.toList.map fun f=>(f.offset,P.cellsOf f.type)).toArray[·]?) parts.toList (zs.map .c) hs zv.cells
    (fun j k hj=>by
     rw[cellsHV_c]at hj⊢;simp only[N3,C8]at hj;obtain⟨z,hz',rfl⟩:=hj;have hjl:j<gs.toList.length:=by
      have h1:j<zs.length:=(I2.1 hz').1;rw[←hlen,←hd]at h1;simpa using h1
     have hg:gs.toList[j]? =some gs.toList[j]:=B5 hjl;obtain⟨z2,info,g1,g2,g3,g4⟩:=hpl j (gs.toList[j]).offset (gs.toList[j]).type (by rw[←hd,N3,hg];rfl);rw[hz']at g1;cases g1;simp only[O1,N3,hg,H8,Program.cellsOf,g2,E0,g3,g4,F3]) hrep HV.stoL_c hm hf
   refine⟨_,.agg cells',hK,?_,⟨HV.norm_rep (by simpa only[RepH,Value.cells]using f2),by rw[HV.norm_agg];rfl⟩,HV.norm_men (by simpa only[HV.men]using f4)⟩;unfold Instr.build;simp only[F8,hzero,E4,D3 (P:=P) (by rw[hty.under]) w,S6,Sem.run_map,hrun,O9];rw[show(parts.toList.map fun p=>(p.1,a.eval p.2))=(parts.toList.map fun p=>(p.1,a.eval p.2))from rfl,f1];rfl
  |array n e=>
   rw[hd2]at hd hlay;cases d<;>simp[tyd]at hd;rename_i n' e';obtain⟨rfl,rfl⟩:=hd;simp only[lay,A6,G9,H6]at hlay;obtain⟨hl1,hl2⟩:=hlay;have hsum: ∀(l:List CV) (j:Nat),(∀z∈l,z.cells=P.cellsOf e')→j≤l.length→uI ((l.map CV.cells).take j)=j*P.cellsOf e':=by
    intro l;induction l with
    |nil=>intro j _ hj;simp at hj;subst hj;simp[uI]
    |cons z zs ih=>
     intro j hz hj;cases j with
     |zero=>simp[uI]
     |succ j=>
      have:=ih j (fun z hz'=>hz z (by simp[hz'])) (by simpa using hj);simp only[D0,P9,uI,List.foldr_cons]at this⊢;rw[this,hz z (by simp),K0];omega
   by_cases hinfo:(P.info? e').isSome=true
   ·
    cases hq:P.info? e' with
    |none=>rw[hq]at hinfo;cases hinfo
    |some info=>
     have hco:P.cellsOf e'=info.size:=by simp[Program.cellsOf,hq]
     obtain⟨cells',f1,f2,f3,f4⟩:=rG h (fun j=>some (j*info.size,info.size)) parts.toList (zs.map .c) hs zv.cells
      (fun j k hj=>by
       rw[cellsHV_c]at hj⊢;simp only[N3,C8]at hj;obtain⟨z,hz',rfl⟩:=hj;have h1:j<zs.length:=(I2.1 hz').1;rw[hsum zs j hl2 (by omega),hco,hl2 z (V7 hz'),hco]) hrep HV.stoL_c hm hf
     refine⟨_,.agg cells',hK,?_,⟨HV.norm_rep (by simpa only[RepH,Value.cells]using f2),by rw[HV.norm_agg];rfl⟩,HV.norm_men (by simpa only[HV.men]using f4)⟩;unfold Instr.build;simp only[F8,hzero,E4,D3 (P:=P) (by rw[hty.under]) w,cD hq,O9];rw[f1];rfl
   ·
    exfalso;have hco:P.cellsOf e'=0:=by
     cases hq:P.info? e' with
     |none=>simp[Program.cellsOf,hq]
     |some _=>rw[hq]at hinfo;exact absurd rfl hinfo
    have h1:=mK hrep;rw[xO,cellsHV_c]at h1;have h2:=hsum zs zs.length hl2 (F2 _);rw[E6 (by simp)]at h2;rw[h2,hco]at h1;have h3:=hty.zsize;have h4:=hty.pos;simp at h1;rw[h1]at h3;simp at h3;omega
  |_=>rw[hd2]at hag;simp[TyD.isAgg,CV.isAgg]at hag
 · exact hl.elim
theorem xR (sz:Nat): ∀(vs:List Value) (k:Nat) (cells:Array Value),cells.size=(k+vs.length)*sz→(∀v∈vs,v.cells.size=sz)→
  ∃cells',Instr.fill (fun i=>some (i*sz,sz)) cells ((vs.zipIdx k).map fun p=>(p.2,p.1))=some cells'∧cells'.toList=cells.toList.take (k*sz)++(vs.map fun v=>v.cells.toList).flatten
 |[],k,cells,hs,_=>⟨cells,rfl,by simp at hs;rw[E6 (by simp[hs])];simp⟩
 |v::vs,k,cells,hs,hv=>by
  have hv0:=hv v (by simp);have hle:k*sz+v.cells.size≤cells.size:=by
   rw[hs,hv0,B0];have:(k+(vs.length+1))*sz=k*sz+(vs.length*sz+sz):=by rw[K0,K0];omega
   omega
  have hl:=oF v.cells (k*sz) cells hle;have hsz:(v.cells.zipIdx.foldl (fun cs (p:Value×Nat)=>cs.setIfInBounds (k*sz+p.2) p.1) cells).size=cells.size:=by
   have:=congrArg List.length hl;simp only[N6,A3,D9,B8]at this;rw[this];omega
  obtain⟨cells',h1,h2⟩:=xR sz vs (k+1) _ (by rw[hsz,hs];congr 1;simp;omega) (fun u hu=>hv u (by simp[hu]));refine⟨cells',?_,?_⟩
  · simp only[List.zipIdx_cons,D0,Instr.fill];rw[A7 (by simp only[AG,N8,B9,not_or,BK];exact⟨hv0,by omega⟩)];exact h1
  ·
   rw[h2,hl];have e1:(k+1)*sz=(cells.toList.take (k*sz)++v.cells.toList).length:=by
    simp only[A3,D9,N6];rw[K0];omega
   rw[e1,V9 rfl];simp
def hclosed (e:Operand→HV):List (Nat×Operand)→Nat→Nat→Option (List CV)
 |[],_,_=>some []
 |(i,x)::ps,k,sz=>match(e x).toC with
  |some v=>if i=k∧v.cells=sz then(hclosed e ps (k+1) sz).map (v.denil::·)else none
  |_=>none
theorem sJ (h:RepA' c M fr ob a w ρ){sz:Nat}: ∀(ps:List (Nat×Operand)) (k:Nat) (l:List CV),hclosed (ev fr) ps k sz=some l→
  ∃vs:List Value,(ps.map fun p=>(p.1,a.eval p.2))=(vs.zipIdx k).map (fun p=>(p.2,p.1))∧vs.length=l.length∧ps.length=l.length∧(∀v∈vs,v.cells.size=sz)∧(∀v∈l,v.cells=sz)∧RepL w (Owned ρ c.X) l (vs.map fun v=>v.cells.toList).flatten
 |[],k,l,hl=>by simp only[hclosed,D6]at hl;subst hl;exact⟨[],by simp,rfl,rfl,by simp,by simp,by simp[RepL]⟩
 |(i,x)::ps,k,l,hl=>by
  simp only[hclosed]at hl;split at hl
  ·
   rename_i v hx;split at hl
   ·
    rename_i hc;obtain⟨rfl,hcs⟩:=hc;rw[C8]at hl;obtain⟨l',hl,rfl⟩:=hl;obtain⟨vs,e1,e2,e3,e4,e5,e6⟩:=sJ h ps (i+1) l' hl;have hv:=h.ev x (by intro e;rw[e]at hx;simp[HV.toC]at hx);have hv1:=HV.toC_spec hx hv.1;have hcs':v.denil.cells=sz:=by rw[CV.denil_cells];exact hcs
    refine⟨a.eval x::vs,by simp[e1],by simp[e2],by simp[e3],fun u hu=>?_,fun u hu=>?_,?_⟩
    ·
     rcases E9.1 hu with rfl|hu
     · have:=bS hv1;rw[hcs]at this;simpa using this
     · exact e4 u hu
    ·
     rcases E9.1 hu with rfl|hu
     · exact hcs'
     · exact e5 u hu
    · simp only[D0,R5,RepL];exact⟨_,_,rfl,CV.denil_rep hv1,e6⟩
   · cases hl
  · cases hl
theorem uJ {M':Nat→Prop}(h:RepA' c M fr ob a w ρ){nid:Nat}(hn: ¬M nid)(hM: ∀i,M i→M' i)(hM':M' nid){t e:TypeId}{ti te:TyI}(ht:aT P t=some ti)(hd0:ti.d= .slice e)
  (hte:aT P e=some te) {parts:Array (Nat×Operand)} {len:Nat} {l:List CV} (hl:hclosed (ev fr) parts.toList 0 te.size=some l) (hlen:len=l.length) (hmax:len*te.size≤2^24)
  (d:Option Nat) (hd: ∀k,d=some k→k<c.n):
  ∃y w' ρ',(Instr.buildSlice t len (parts.map fun p=>(p.1,a.eval p.2))).run P w= .ok y w'∧RepA' c M' (updo fr d (.own nid len)) (upd ob nid (some (.row e te.size l))) (a.put d y) w' ρ':=by
 obtain⟨i,d',zv,hty⟩:=bM ht;obtain⟨ie,de,zve,htye⟩:=bM hte;have hdd:=hty.d_;rw[hd0]at hdd;have hu:P.underlying t=some (.slice e):=by
  rw[hty.under];congr 1;cases d'<;>simp[tyd]at hdd;grind
 obtain⟨vs,e1,e2,e3,e4,e5,e6⟩:=sJ h _ _ _ hl;have hpos:=htye.pos;have key: ∀cells0:Array Value,cells0.size=len*te.size→ ∃cells',Instr.fill (fun i=>some (i*te.size,te.size)) cells0 (parts.map fun p=>(p.1,a.eval p.2)).toList=some cells'∧cells'.toList=(vs.map fun v=>v.cells.toList).flatten:=by
  intro cells0 hc;obtain⟨cells',h1,h2⟩:=xR te.size vs 0 cells0 (by rw[hc,e2,hlen];simp) e4;exact⟨cells',by rw[O9,e1];exact h1,by rw[h2];simp⟩
 have hsz:(sizeOf e).run P w= .ok te.size w:=by rw[cD htye.info,htye.size]
 have hzero:(zeroValue e).run P w= .ok zve w:=by simp[zeroValue,typeInfo,htye.info,htye.zero]
 have hmk: ∃cells',(Instr.buildSlice t len (parts.map fun p=>(p.1,a.eval p.2))).run P w= .ok (.slice (some ⟨w.heap.size,0,none⟩) len len) (w.alloc (.cells cells' e))∧cells'.toList=(vs.map fun v=>v.cells.toList).flatten:=by
  by_cases h0:len*te.size=0
  · obtain⟨cells',h1,h2⟩:=key ((Array.range (len*te.size)).map ((#[]:Array Value)[· %(#[]:Array Value).size]!)) (by simp);refine⟨cells',?_,h2⟩;unfold Instr.buildSlice;simp only[F8,D3 hu,E4,hsz];rw[A7 (by omega)];simp only[h0,F7,F8,I5,E4];rw[h0]at h1;rw[h1];simp[newRow]
  · obtain⟨cells',h1,h2⟩:=key ((Array.range (len*te.size)).map (zve.cells[· %zve.cells.size]!)) (by simp);refine⟨cells',?_,h2⟩;unfold Instr.buildSlice;simp only[F8,D3 hu,E4,hsz];rw[A7 (by omega)];simp only[A7 h0,F8,hzero,I5,E4];rw[h1];simp[newRow]
 obtain⟨cells',hrun,hcells⟩:=hmk;have hxl:=oC e6;refine⟨_,_,_,hrun,h.newObj (w1:=w) (L:= .hdr (.slice (some ⟨w.heap.size,0,none⟩) len len)) hn hM hM' rfl rfl rfl rfl (fun b hb=>by simpa[Loc.has,Value.ownBlock]using hb.symm) (fun hst=>?_) trivial (.inr ?_) (by simpa[HV.men]using hM') hd⟩
 ·
  have hcl:cells'.toList.length=len*te.size:=by
   rw[hcells];have: ∀(vs:List Value),(∀v∈vs,v.cells.size=te.size)→((vs.map fun v=>v.cells.toList).flatten).length=vs.length*te.size:=by
    intro vs;induction vs with
    |nil=>simp
    |cons v vs ih=>
     intro hv;simp only[D0,R5,A3,B0,ih (fun u hu=>hv u (by simp[hu])),N6,hv v (by simp),K0];omega
   rw[this vs e4,e2,hlen]
  refine⟨_,_,aU _ _ _,e6.stay hst,e5,?_,.inr ⟨w.heap.size,len,cells',by rw[hlen],F9 _,O5 w _,by omega,?_,by simpa using hcl,?_⟩⟩
  · rw[←hcells,hcl,hlen]
  · have:len≤len*te.size:=Z1 _ hpos;unfold maxLen;omega
  · rw[E6 (by rw[hcl,hlen];exact F2 _),hcells]
 · refine dR ?_ rfl rfl;simp only[RepH];refine⟨_,rfl,by simp[Value.oneCell'],fun hd' hρ=>?_⟩;rw[aU]at hρ;cases hρ;exact⟨F2 _,fun _=>rfl⟩
end
section
variable {P:Program}{w:World}
theorem kP {t:TypeId}{ti:TyI}{i:TypeInfo}{d:TypeDesc}{zv:Value}(ht:TyOk P t ti i d zv)(c1 c2 c3:List Value)(h2:c2.length=ti.size):
  (part t (c1++c2++c3).toArray c1.length).run P w= .ok (eP ti.d.isAgg c2) w:=by
 have ha:(Go.isAgg t).run P w= .ok ti.d.isAgg w:=by rw[xL ht.under,ht.d_]
 simp only[part,F8,ha,E4];cases hag:ti.d.isAgg with
 |true=>
  simp only[F7,F8,cD ht.info,E4,I5,eP];rw[ht.size,←h2];congr 2;simp[List.extract_eq_take_drop]
 |false=>
  have hz:ti.z.isAgg=false:=by rw[←ht.dagg,hag]
  have h1:ti.size=1:=by
   have:=ht.zsize;have hzv:Value.isAgg' zv=false:=by rw[ht.agg,hz]
   rw[cells_single hzv]at this;simpa using this.symm
  match c2,h2 with
  |[u],_=>simp[eP]
  |[],h2=>simp at h2;omega
  |_::_::_,h2=>simp at h2;omega
end
mutual
def CV.eqv :CV→CV→Bool
 | .bool a,.bool b=>a==b
 | .int _ a,.int _ b=>a==b
 | .str a,.str b=>a==b
 | .agg l,.agg l'=>CV.eqvL l l'
 |_,_=>false
def CV.eqvL :List CV→List CV→Bool
 |[],[]=>true
 |a::as,b::bs=>a.eqv b&&CV.eqvL as bs
 |_,_=>false
end
def xS (P:Program):Nat→TypeId→Bool
 |0,_=>false
 |n+1,t=>
  match P.underlying t with
  |some .bool|some (.int _)|some .string=>true
  |some (.array _ e)=>xS P n e
  |some (.struct fs)=>(fs.toList.all fun f=>f.name != "_" &&xS P n f.type)&&!P.stoodInHeld t
  |_=>false
def aP9 (P:Program)(t:TypeId):Bool:=xS P 8 t&&!P.eqGuardType P.depth t
mutual
def CV.ofTy (P:Program):Nat→TypeId→CV→Bool
 |0,_,_=>false
 |n+1,t,v=>
  match aT P t with
  |none=>false
  |some ti=>match ti.d,v with
   | .bool,.bool _=>true
   | .int q,.int q' _=>q'==q
   | .string,.str _=>true
   | .array m e,.agg l=>l.length==m&&l.all (fun v=>v.cells==P.cellsOf e)&&CV.ofTyA P n e l
   | .struct fs,.agg l=>CV.ofTyF P n fs l
   |_,_=>false
def CV.ofTyA (P:Program):Nat→TypeId→List CV→Bool
 |_,_,[]=>true
 |n,e,v::vs=>CV.ofTy P n e v&&CV.ofTyA P n e vs
def CV.ofTyF (P:Program):Nat→List (Nat×TypeId)→List CV→Bool
 |_,[],[]=>true
 |n,f::fs,v::vs=>CV.ofTy P n f.2 v&&v.cells==P.cellsOf f.2&&CV.ofTyF P n fs vs
 |_,_,_=>false
end
section
variable {P:Program}{w:World}{O:Nat→Prop}
def EqC (P:Program)(d n:Nat)(t:TypeId):Prop:=
 ∀(w:World) (O O':Nat→Prop) (x y:CV) (xs ys:List Value),CV.ofTy P n t x=true→CV.ofTy P n t y=true→RepC w O x xs→RepC w O' y ys→
  (Op.equalIn (d+n) t (eP x.isAgg xs) (eP y.isAgg ys)).run P w= .ok (x.eqv y) w∧x.isAgg=y.isAgg
theorem sK {n:Nat}{t:TypeId}{v:CV}{ti:TyI}{i:TypeInfo}{d:TypeDesc}{zv:Value}(ht:aT P t=some ti)(_:TyOk P t ti i d zv)(h:CV.ofTy P n t v=true):v.isAgg=ti.d.isAgg:=by
 cases n with
 |zero=>simp[CV.ofTy]at h
 |succ n=>
  grind[CV.ofTy,TyD.isAgg,CV.isAgg]
theorem aC5 (d n:Nat){e:TypeId}(hE:EqC P d n e){te:TyI}{ie:TypeInfo}{de:TypeDesc}{zve:Value}(hte:aT P e=some te)(htye:TyOk P e te ie de zve)
  (w:World) (O O':Nat→Prop): ∀(l l':List CV) (k:Nat) (px sx py sy:List Value),CV.ofTyA P n e l=true→CV.ofTyA P n e l'=true→(∀v∈l,v.cells=te.size)→(∀v∈l',v.cells=te.size)→l.length=l'.length→
   px.length=k*te.size→py.length=k*te.size→RepL w O l sx→RepL w O' l' sy→
   (Op.eqItems (d+n) e te.size (px++sx).toArray (py++sy).toArray (List.range' k l.length)).run P w= .ok (CV.eqvL l l') w
 |[],[],k,px,sx,py,sy,_,_,_,_,_,_,_,_,_=>by simp[Op.eqItems,CV.eqvL]
 |v::vs,u::us,k,px,sx,py,sy,h1,h2,c1,c2,hl,e1,e2,r1,r2=>by
  simp only[CV.ofTyA,A6]at h1 h2;simp only[RepL]at r1 r2;obtain⟨a1,a2,rfl,r1,r1'⟩:=r1;obtain⟨b1,b2,rfl,r2,r2'⟩:=r2;have la:a1.length=te.size:=by rw[bS r1];exact c1 v (by simp)
  have lb:b1.length=te.size:=by rw[bS r2];exact c2 u (by simp)
  have ga:=sK hte htye h1.1;have gb:=sK hte htye h2.1;obtain⟨hr,_⟩:=hE w O O' v u a1 b1 h1.1 h2.1 r1 r2;have pa:=kP (w:=w) htye px a1 a2 la;have pb:=kP (w:=w) htye py b1 b2 lb;rw[E8]at pa pb;rw[e1]at pa;rw[e2]at pb;have ih:=aC5 d n hE hte htye w O O' vs us (k+1) (px++a1) a2 (py++b1) b2 h1.2 h2.2 (fun x hx=>c1 x (by simp[hx])) (fun x hx=>c2 x (by simp[hx])) (by grind)
   (by grind) (by grind) r1' r2'
  simp only[E8]at ih;rw[ga,gb]at hr;simp only[B0,V2,Op.eqItems,F8,pa,pb,hr,E4,CV.eqvL];cases v.eqv u with
  |true=>simpa using ih
  |false=>simp
 |[],_::_,_,_,_,_,_,_,_,_,_,hl,_,_,_,_=>by grind
 |_::_,[],_,_,_,_,_,_,_,_,_,hl,_,_,_,_=>by grind
theorem xT (d n:Nat)(w:World)(O O':Nat→Prop): ∀(gs:List Field) (l l':List CV) (px sx py sy:List Value) (zs:List CV),(∀f∈gs,f.name≠ "_" ∧EqC P d n f.type∧(aT P f.type).isSome=true)→
   CV.ofTyF P n (gs.map fun f=>(f.offset,f.type)) l=true→CV.ofTyF P n (gs.map fun f=>(f.offset,f.type)) l'=true→
   aI7 P (gs.map fun f=>(f.offset,f.type)) zs px.length=true→px.length=py.length→RepL w O l sx→RepL w O' l' sy→
   (Op.eqFields (d+n) (px++sx).toArray (py++sy).toArray gs).run P w= .ok (CV.eqvL l l') w
 |[],[],[],px,sx,py,sy,zs,_,_,_,_,_,_,_=>by simp[Op.eqFields,CV.eqvL]
 |f::gs,v::vs,u::us,px,sx,py,sy,zs,hE,h1,h2,hlay,hp,r1,r2=>by
  simp only[D0,CV.ofTyF,A6,G9]at h1 h2;cases zs with
  |nil=>simp[aI7]at hlay
  |cons z zs=>
   simp only[D0,aI7,A6,G9]at hlay;obtain⟨⟨⟨o1,o2⟩,o3⟩,o4⟩:=hlay;obtain⟨hname,hEf,hsome⟩:=hE f (by simp);obtain⟨te,hte⟩:=G3.1 hsome;obtain⟨ie,de,zve,htye⟩:=bM hte;have hco:P.cellsOf f.type=te.size:=by simp[Program.cellsOf,htye.info,htye.size]
   simp only[RepL]at r1 r2;obtain⟨a1,a2,rfl,r1,r1'⟩:=r1;obtain⟨b1,b2,rfl,r2,r2'⟩:=r2;have la:a1.length=te.size:=by rw[bS r1,h1.1.2,hco]
   have lb:b1.length=te.size:=by rw[bS r2,h2.1.2,hco]
   have ga:=sK hte htye h1.1.1;have gb:=sK hte htye h2.1.1;obtain⟨hr,_⟩:=hEf w O O' v u a1 b1 h1.1.1 h2.1.1 r1 r2;have pa:=kP (w:=w) htye px a1 a2 la;have pb:=kP (w:=w) htye py b1 b2 lb;rw[E8,←o1]at pa;rw[E8,←hp,←o1]at pb;have ih:=xT d n w O O' gs vs us (px++a1) a2 (py++b1) b2 zs (fun x hx=>hE x (by simp[hx])) h1.2 h2.2 (by rw[A3,la,←hco,o3];exact o4) (by simp[hp,la,lb]) r1' r2';simp only[E8]at ih;rw[ga,gb]at hr;simp only[Op.eqFields,hname,AG,U3,F7,F8,pa,pb,hr,E4,CV.eqvL];cases v.eqv u with
   |true=>simpa using ih
   |false=>simp
 |[],_::_,_,_,_,_,_,_,_,h1,_,_,_,_,_=>by simp[CV.ofTyF]at h1
 |[],[],_::_,_,_,_,_,_,_,_,h2,_,_,_,_=>by simp[CV.ofTyF]at h2
 |_::_,[],_,_,_,_,_,_,_,h1,_,_,_,_,_=>by simp[CV.ofTyF]at h1
 |_::_,_::_,[],_,_,_,_,_,_,_,h2,_,_,_,_=>by simp[CV.ofTyF]at h2
theorem bG0 (a b:List UInt8):((⟨a.toArray⟩:ByteArray).toList==(⟨b.toArray⟩:ByteArray).toList)=(a==b):=by rw[S7,S7]
theorem xU {n:Nat}: ∀{fs:List (Nat×TypeId)} {l:List CV},CV.ofTyF P n fs l=true→ ∀f∈fs,(aT P f.2).isSome=true
 |[],_,_,f,hf=>by grind
 |g::fs,[],h,f,hf=>by simp[CV.ofTyF]at h
 |g::fs,v::vs,h,f,hf=>by
  simp only[CV.ofTyF,A6]at h;rcases E9.1 hf with rfl|hf
  ·
   cases n with
   |zero=>grind[CV.ofTy]
   |succ n=>
    grind[CV.ofTy]
  · exact xU h.2 f hf
theorem aJ0 (d:Nat): ∀(n:Nat) (t:TypeId),xS P n t=true→EqC P d n t
 |0,_,h=>by simp[xS]at h
 |n+1,t,hk=>by
  intro w O O' x y xs ys hx hy rx ry;unfold CV.ofTy at hx hy;cases ht:aT P t with
  |none=>rw[ht]at hx;cases hx
  |some ti=>
   rw[ht]at hx hy;simp only at hx hy;obtain⟨i,de,zv,hty⟩:=bM ht;have hdd:=hty.d_;have hu:=hty.under;have hlay:=hty.lay_;split at hx
   ·
    rename_i b h1;rw[h1]at hy hdd;cases y<;>simp at hy;rename_i b';simp only[RepC]at rx ry;subst rx;subst ry;have hu':P.underlying t=some .bool:=by rw[hu];congr 1;cases de<;>simp[tyd]at hdd;rfl
    exact⟨by simp[eP,CV.isAgg,CV.eqv];exact run_equalIn_bool w (d+n) t b b' hu',rfl⟩
   ·
    rename_i q q' k h1;rw[h1]at hy hdd;cases y<;>simp at hy;rename_i q2 k2;simp only[RepC]at rx ry;simp only[G9]at hx;subst rx;subst ry;subst hx;subst hy;have hu':P.underlying t=some (.int q2):=by rw[hu];congr 1;cases de<;>simp[tyd]at hdd;rw[hdd]
    exact⟨by simp[eP,CV.isAgg,CV.eqv,Op.equalIn,D3 hu'],rfl⟩
   ·
    rename_i s h1;rw[h1]at hy hdd;cases y<;>simp at hy;rename_i s';simp only[RepC]at rx ry;subst rx;subst ry;have hu':P.underlying t=some .string:=by rw[hu];congr 1;cases de<;>simp[tyd]at hdd;rfl
    have:=run_equalIn_string (P:=P) w (d+n) t ⟨s.toArray⟩ ⟨s'.toArray⟩ hu';rw[bG0]at this;exact⟨by rw[←Nat.add_assoc];simpa[eP,CV.isAgg,CV.eqv]using this,rfl⟩
   ·
    rename_i m e l h1;rw[h1]at hy hdd hlay;cases y<;>simp at hy;rename_i l';simp only[A6,G9,H6]at hx;have hu':P.underlying t=some (.array m e):=by rw[hu];congr 1;cases de<;>simp[tyd]at hdd;rw[hdd.1,hdd.2]
    simp only[xS,hu']at hk;simp only[RepC]at rx ry;by_cases hm:m=0
    ·
     subst hm;have hl0:l=[]:=D5 hx.1.1;have hl0':l'=[]:=D5 hy.1.1;subst hl0;subst hl0';exfalso;have hz:=hty.zsize;cases hzz:ti.z with
     |agg zs=>
      rw[hzz]at hlay;simp only[lay,A6,G9]at hlay;have:zs=[]:=D5 hlay.1;subst this;have hr:=hty.rep w O;rw[hzz]at hr;simp only[RepC,RepL]at hr;have hp:=hty.pos;have:zv.cells.size=0:=by simpa using congrArg List.length hr
      omega
     |_=>rw[hzz]at hlay;simp[lay]at hlay
    ·
     have hne:l≠[]:=fun e=>by rw[e]at hx;simp at hx;omega
     have hsome:(aT P e).isSome=true:=by
      cases l with
      |nil=>exact absurd rfl hne
      |cons v vs=>
       have:=hx.2;simp only[CV.ofTyA,A6]at this;cases n with
       |zero=>have:=this.1;simp[CV.ofTy]at this
       |succ n=>
        have:=this.1;unfold CV.ofTy at this;split at this
        · cases this
        · rename_i h1;rw[h1];rfl
     obtain⟨te,hte⟩:=G3.1 hsome;obtain⟨ie,de',zve,htye⟩:=bM hte;have hco:P.cellsOf e=te.size:=by simp[Program.cellsOf,htye.info,htye.size]
     have:=aC5 d n (aJ0 d n e hk) hte htye w O O' l l' 0 [] xs [] ys hx.2 hy.2 (fun v hv=>by rw[hx.1.2 v hv,hco]) (fun v hv=>by rw[hy.1.2 v hv,hco]) (by rw[hx.1.1,hy.1.1]) (by simp) (by simp) rx ry;refine⟨?_,rfl⟩;rw[←Nat.add_assoc];simp only[eP,CV.isAgg,F7,CV.eqv];rw[run_equalIn_array w (d+n) xs.toArray ys.toArray hu' htye.info,hco,R8,←hx.1.1];simpa using this
   ·
    rename_i fs l h1;rw[h1]at hy hdd hlay;cases y<;>simp at hy;rename_i l';have hgs: ∃gs,P.underlying t=some (.struct gs)∧fs=gs.toList.map fun f=>(f.offset,f.type):=by
     cases de<;>simp[tyd]at hdd;exact⟨_,hu,hdd.symm⟩
    obtain⟨gs,hu',rfl⟩:=hgs;simp only[xS,hu',A6,H6,bne_iff_ne,J8]at hk;simp only[RepC]at rx ry;have hfo:P.fieldsOf t=gs:=by simp[Program.fieldsOf,hu']
    cases hzz:ti.z with
    |agg zs=>
     rw[hzz]at hlay;simp only[lay]at hlay;have:=xT d n w O O' gs.toList l l' [] xs [] ys zs (fun f hf=>⟨(hk.1 f hf).1,aJ0 d n f.type (hk.1 f hf).2,xU hx (f.offset,f.type) (by exact L3.2 ⟨f,hf,rfl⟩)⟩) hx hy (by simpa using hlay) rfl rx ry;refine⟨?_,rfl⟩;rw[←Nat.add_assoc];simp only[eP,CV.isAgg,F7,CV.eqv];rw[run_equalIn_struct w (d+n) t xs.toArray ys.toArray (by rw[hfo];exact hu') hk.2,hfo];simpa using this
    |_=>rw[hzz]at hlay;simp[lay]at hlay
   · cases hx
end
theorem gF {w:World}{O:Nat→Prop}{sz:Nat}: ∀{l:List CV} {xs:List Value} (k:Nat),RepL w O l xs→(∀v∈l,v.cells=sz)→RepL w O (l.take k) (xs.take (k*sz))
 |l,xs,0,_,_=>by simp[RepL]
 |[],xs,k+1,h,_=>by grind[RepL]
 |v::l,xs,k+1,h,hc=>by
  simp only[RepL]at h;obtain⟨c1,c2,rfl,h1,h2⟩:=h;have e1:c1.length=sz:=by rw[bS h1];exact hc v (by simp)
  simp only[P9,RepL];refine⟨c1,c2.take (k*sz),?_,h1,gF k h2 (fun u hu=>hc u (by grind))⟩;grind[List.take_append,List.take_of_length_le,Nat.succ_mul]
theorem iL {w:World}{O:Nat→Prop}{sz:Nat}: ∀{l:List CV} {xs:List Value} (k:Nat),RepL w O l xs→(∀v∈l,v.cells=sz)→RepL w O (l.drop k) (xs.drop (k*sz))
 |l,xs,0,h,_=>by grind
 |[],xs,k+1,h,_=>by grind[RepL]
 |v::l,xs,k+1,h,hc=>by
  simp only[RepL]at h;obtain⟨c1,c2,rfl,h1,h2⟩:=h;have e1:c1.length=sz:=by rw[bS h1];exact hc v (by simp)
  simp only[AR];have:=iL k h2 (fun u hu=>hc u (by grind));simp_all[List.drop,List.drop_append,List.drop_of_length_le,Z7,I9]
section
variable {P:Program}{c:Ctx}{M M':Nat→Prop}{fr:Fr}{ob:Ob}{a:Act}{w w':World}{ρ:Env}
theorem RepA'.rehdrO {d:Option Nat}{id0 n':Nat}{o:HO}{v':Value}
  (h:RepA' c M fr ob a w ρ) (hM: ∀i,M i→M' i) (hM':M' id0) (hold:(¬M id0)∨ ∃h0,ρ id0=some (.hdr h0)∧hlen h0<hlen v')
  (e1:w'.os=w.os) (e2:w'.tape=w.tape) (e3:w'.output=w.output) (e4:w.heap.size≤w'.heap.size)
  (hb: ∀b,b<w.heap.size→(∀L,ρ id0=some L→ ¬L.has b)→w'.heap[b]? =w.heap[b]?)
  (hv: ∀g,v'.ownBlock=some g→w.heap.size≤g∨ ∃L,ρ id0=some L∧L.has g)
  (hv1:v'.oneCell'=true) (hn:hlen v'=n')
  (hO:Stay w (Owned ρ c.X) w' (Owned (upd ρ id0 (some (.hdr v'))) c.X)→RepO w' (upd ρ id0 (some (.hdr v'))) (Owned (upd ρ id0 (some (.hdr v'))) c.X) id0 o) (hom:o.men M')
  (hd: ∀k,d=some k→k<c.n):
  RepA' c M' (updo fr d (.own id0 n')) (upd ob id0 (some o)) (a.put d v') w' (upd ρ id0 (some (.hdr v'))):=by
 have hown: ∀b,Own (upd ρ id0 (some (.hdr v'))) b→Own ρ b∨w.heap.size≤b:=by
  rintro b ⟨id,L',h1,h2⟩;by_cases e:id=id0
  ·
   subst e;rw[aU]at h1;cases h1;rcases hv b h2 with h|⟨L,h3,h4⟩
   · exact .inr h
   · exact .inl ⟨id,L,h3,h4⟩
  · rw[bJ _ _ e]at h1;exact .inl ⟨id,L',h1,h2⟩
 have hs:Stay2 w (Own ρ) w' (Own (upd ρ id0 (some (.hdr v')))):=
  ⟨fun b hb' hO=>hb b hb' (fun L h1 h2=>hO ⟨id0,L,h1,h2⟩),hown,e4,e1,e2,e3⟩
 have hmv:Moves M ρ (upd ρ id0 (some (.hdr v'))):=by
  intro id L' hm h1;by_cases e:id=id0
  ·
   subst e;rw[aU]at h1;cases h1;rcases hold with h2|⟨h0,h2,h3⟩
   · exact absurd hm h2
   · exact⟨_,h2,.inr (.inl ⟨h0,v',rfl,rfl,h3⟩)⟩
  · rw[bJ _ _ e]at h1;exact⟨L',h1,.inl rfl⟩
 refine h.step hM hs hmv ⟨fun id o' ho'=>?_,fun id hid=>?_,?_,?_⟩ (.inr ?_) (by simpa[HV.men]using hM') (fun id o' ho'=>?_) hd
 ·
  by_cases e:id=id0
  · subst e;rw[aU]at ho';cases ho';exact hO (hs.stay c.X)
  · rw[bJ _ _ e]at ho';refine RepO.stay (hs.stay c.X) hmv (h.mo id o' ho').2 (bJ _ _ e) (fun L b h1 h2=>hb b (Owned.lt h.s h1 h2) (fun L' h3 h4=>?_)) (h.s.objs id o' ho');exact e (h.s.apart id id0 L L' b h1 h3 h2 h4)
 ·
  by_cases e:id=id0
  · subst e;rw[aU]at hid;cases hid
  · rw[bJ _ _ e]at hid⊢;exact h.s.none id hid
 ·
  have key: ∀id' L2 b,id'≠id0→ρ id'=some L2→L2.has b→v'.ownBlock=some b→False:=by
   intro id' L2 b hne h2 h4 h3;have hlt':=Owned.lt h.s h2 h4;rcases hv b h3 with h5|⟨L,h5,h6⟩
   · omega
   · exact hne (h.s.apart id' id0 L2 L b h2 h5 h4 h6)
  intro id id' L1 L2 b h1 h2 h3 h4;by_cases e:id=id0<;>by_cases e':id'=id0
  · rw[e,e']
  · subst e;rw[aU]at h1;rw[bJ _ _ e']at h2;cases h1;exact(key id' L2 b e' h2 h4 h3).elim
  · subst e';rw[aU]at h2;rw[bJ _ _ e]at h1;cases h2;exact(key id L1 b e h1 h3 h4).elim
  · rw[bJ _ _ e]at h1;rw[bJ _ _ e']at h2;exact h.s.apart id id' L1 L2 b h1 h2 h3 h4
 ·
  intro id L' b h1 h2;by_cases e:id=id0
  ·
   subst e;rw[aU]at h1;cases h1;rcases hv b h2 with h5|⟨L,h5,h6⟩
   · exact fun hx=>absurd (G7 (h.xlt _ hx) h.base.size) (by omega)
   · exact h.s.xb id L b h5 h6
  · rw[bJ _ _ e]at h1;exact h.s.xb id L' b h1 h2
 · refine dR ?_ rfl (gY hv1);simp only[RepH];refine⟨_,rfl,hv1,fun hd' hρ=>?_⟩;rw[aU]at hρ;cases hρ;exact⟨Nat.le_of_eq hn.symm,fun _=>rfl⟩
 ·
  by_cases e:id=id0
  · subst e;rw[aU]at ho';cases ho';exact⟨hM',hom⟩
  ·
   rw[bJ _ _ e]at ho';obtain⟨h1,h2⟩:=h.mo id o' ho';refine⟨hM _ h1,?_⟩;cases o' with
   |box t v=>exact HV.men_mono hM h2
   |row _ _ _=>trivial
   |mp _ _ _=>trivial
   |dead=>trivial
   |tab _=>trivial
   |hrow _ _ _=>exact HV.menL_mono hM h2
   |raw _ _=>trivial
   |it _ _ _ _=>exact hM _ h2
theorem RepA'.rehdr {d:Option Nat}{id0 n' sz:Nat}{e:TypeId}{l':List CV}{v':Value}
  (h:RepA' c M fr ob a w ρ) (hM: ∀i,M i→M' i) (hM':M' id0) (hold:(¬M id0)∨ ∃h0,ρ id0=some (.hdr h0)∧hlen h0<hlen v')
  (e1:w'.os=w.os) (e2:w'.tape=w.tape) (e3:w'.output=w.output) (e4:w.heap.size≤w'.heap.size)
  (hb: ∀b,b<w.heap.size→(∀L,ρ id0=some L→ ¬L.has b)→w'.heap[b]? =w.heap[b]?)
  (hv: ∀g,v'.ownBlock=some g→w.heap.size≤g∨ ∃L,ρ id0=some L∧L.has g)
  (hv1:v'.oneCell'=true) (hn:hlen v'=n')
  (hO:Stay w (Owned ρ c.X) w' (Owned (upd ρ id0 (some (.hdr v'))) c.X)→RepO w' (upd ρ id0 (some (.hdr v'))) (Owned (upd ρ id0 (some (.hdr v'))) c.X) id0 (.row e sz l'))
  (hd: ∀k,d=some k→k<c.n):
  RepA' c M' (updo fr d (.own id0 n')) (upd ob id0 (some (.row e sz l'))) (a.put d v') w' (upd ρ id0 (some (.hdr v'))):=
 h.rehdrO hM hM' hold e1 e2 e3 e4 hb hv hv1 hn hO trivial hd
def hread (x:HV)(ob:Ob):Option (List CV):=
 match x with
 | .c (.slc l)=>some l
 | .c .nils=>some []
 | .own id n=>match ob id with
  |some (.row _ _ l)=>if n=l.length then some l else none
  |_=>none
 | .osl id n lo sz hi=>match ob id with
  |some (.row _ sz' l)=>if n=l.length∧0<n∧sz=sz'∧lo≤hi∧hi≤n then some ((l.drop lo).take (hi-lo))else none
  |some (.box _ (.c (.agg l)))=>if n=l.length∧lo≤hi∧hi≤n∧l.all (fun v=>v.cells==sz)=true then some ((l.drop lo).take (hi-lo))else none
  |_=>none
 |_=>none
theorem jI (h:RepA' c M fr ob a w ρ){x:Operand}{l:List CV}(hx:hread (ev fr x) ob=some l):
  ∃ad m cap xs,a.eval x= .slice ad m cap∧m=l.length∧RepL w (Owned ρ c.X) l xs∧(ad=none→m=0)∧(∀b,ad=some b→ ∀j u,xs[j]? =some u→w.cell? (b.add j)=some u)∧m≤cap∧(ad=none→cap=0):=by
 unfold hread at hx;split at hx
 · rename_i l' he;cases hx;obtain⟨ad,cap,xs,sz,h1,h2,h3,h4,h5,h6⟩:=aI8 h he;exact⟨ad,_,cap,xs,h1,rfl,h2,fun hn=>by grind,fun b hb=>(h6 b hb).1,h4,h5⟩
 · rename_i he;cases hx;exact⟨none,0,0,[],xB h he,rfl,by simp[RepL],fun _=>rfl,fun b hb=>(by grind),Nat.le_refl _,fun _=>rfl⟩
 ·
  rename_i id n he;split at hx
  ·
   rename_i t sz l' ho;split at hx
   ·
    rename_i hn;cases hx;obtain⟨hd,xs,h1,h2,h3,h4,h5,h6⟩:=mM h he ho hn;rcases h6.2 with⟨rfl,hz⟩|⟨g,cap,cur,rfl,hg0,hg,hcap,_⟩
    · have hxs:xs=[]:=D5 (by rw[h6.1,hz];simp);exact⟨none,0,0,xs,h2,by rw[←hn,hz],h4,fun _=>rfl,fun b hb=>(by grind),Nat.le_refl _,fun _=>rfl⟩
    · refine⟨some ⟨g,0,none⟩,n,cap,xs,h2,hn,h4,fun hb=>(by grind),fun b hb=>?_,hcap,fun hb=>(by grind)⟩;cases hb;exact h6.cells (g:=g) rfl
   grind
  grind
 ·
  rename_i id n lo sz hi he;split at hx
  ·
   rename_i t sz' l' ho;split at hx
   ·
    rename_i hc;obtain⟨hn,hn0,rfl,hlo,hhi⟩:=hc;cases hx;obtain⟨g,cap,xs,hρ,hev,hcap,hl2,hcs,how⟩:=sI h he ho hn hn0;have hlen':((l'.drop lo).take (hi-lo)).length=hi-lo:=by simp;omega
    have hcell:=how.cells (g:=g) rfl;refine⟨_,_,_,(xs.drop (lo*sz)).take ((hi-lo)*sz),hev,hlen'.symm,gF _ (iL _ hl2 hcs) (fun v hv=>hcs v (G1 hv)),fun hb=>(by grind),fun b hb=>?_,by omega,fun hb=>(by grind)⟩;cases hb;intro j u hj;by_cases hce:cap=lo
    ·
     have:hi-lo=0:=by omega
     rw[this]at hj;simp at hj
    ·
     rw[A7 hce];rw[O2]at hj;split at hj
     ·
      rw[X0]at hj;have:=hcell _ _ hj;by_cases hj0:j=0
      ·
       subst hj0;by_cases hz:lo*sz=0
       · simpa[Addr.add,hz]using this
       · simpa[Addr.add,hz]using this
      · simpa[Addr.add,hj0,O4,BL]using this
     · cases hj
   grind
  ·
   rename_i T l' ho;split at hx
   ·
    rename_i hc;obtain⟨hn,hlo,hhi,hall⟩:=hc;cases hx;obtain⟨b,cs,hρ,hb,hcs⟩:=h.box ho;simp only[RepH,RepC]at hcs;have hr:=dQ (h.ev x (by grind)) (by rw[he];rfl);rw[he]at hr;simp only[RepH]at hr;obtain⟨⟨y,hy,hy1,_,hy2⟩,_⟩:=hr;simp only[G4,L8]at hy;have hev:a.eval x=_:=hy.trans (hy2 b hρ);have hcl: ∀v∈l',v.cells=sz:=fun v hv=>by grind
    have hlen':((l'.drop lo).take (hi-lo)).length=hi-lo:=by simp;omega
    refine⟨_,_,_,(cs.drop (lo*sz)).take ((hi-lo)*sz),hev,hlen'.symm,gF _ (iL _ hcs hcl) (fun v hv=>hcl v (G1 hv)),fun hb=>(by grind),fun b' hb'=>?_,by omega,fun hb=>(by grind)⟩;cases hb';intro j u hj;by_cases hce:n=lo
    ·
     have:hi-lo=0:=by omega
     rw[this]at hj;simp at hj
    ·
     rw[A7 hce];rw[O2]at hj;split at hj
     ·
      rw[X0]at hj;by_cases hj0:j=0
      · subst hj0;simpa[World.cell?,Addr.add,hb]using hj
      · simpa[World.cell?,Addr.add,hb,hj0]using hj
     · cases hj
   grind
  grind
 grind
def happend (P:Program)(t:TypeId)(s x:HV)(nid:Nat)(ob:Ob)(K:HV→Ob→Prop):Prop:=
 hlift (aT P t) fun ti=>match ti.d with
  | .slice e=>hlift (aT P e) fun te=>hlift (hread x ob) fun l2=>(∀v∈l2,v.cells=te.size)∧
   match s with
   | .own id n=>match ob id with
    |some (.row e' sz l)=>(n=l.length∧e'=e∧sz=te.size)∧(l.length+l2.length)*te.bytes≤140737488355328∧l.length+l2.length≤maxLen∧K (.own id (l++l2).length) (upd ob id (some (.row e sz (l++l2))))
    |_=>False
   | .c .nils=>l2.length*te.bytes≤140737488355328∧l2.length≤maxLen∧K (.own nid l2.length) (upd ob nid (some (.row e te.size l2)))
   |_=>False
  |_=>False
theorem ownsRow_size {base:Nat}{e:TypeId}{sz n:Nat}{v:Value}{xs:List Value}(h:w.ownsRow base e sz v n xs):hlen v=n:=by
 rcases h.2 with⟨rfl,hz⟩|⟨g,cap,cur,rfl,_⟩
 all_goals grind[hlen]
theorem kH {t ty e:TypeId}{i:TypeInfo}{z:Value}(ht:P.underlying t=some (.slice e))(hi:P.info? e=some i)(hz:i.zero=some z)(hzs:z.cells.size=i.size)
  (v:Value) (n:Nat) (xs:List Value) (hown:w.ownsRow 0 e i.size v n xs) (ad:Option Addr) (m cp:Nat) (news:List Value) (hl:news.length=m*i.size) (hnone:ad=none→m=0)
  (hnews: ∀b,ad=some b→ ∀j u,news[j]? =some u→w.cell? (b.add j)=some u) (h1: ∀u∈news,u.oneCell'=true)
  (h63:n+m≤maxLen) (hbytes:(n+m)*i.bytes≤140737488355328):
  ∃v' w',(Builtin.append_ #[t,t] ty #[v,.slice ad m cp]).run P w= .ok v' w'∧w'.ownsRow 0 e i.size v' (n+m) (xs++news)∧w.grownBy w' v.ownBlock∧
   (v'.ownBlock=v.ownBlock∨v'.ownBlock=some w.heap.size)∧(m=0→v'=v∧w'=w):=by
 by_cases hm:m=0
 ·
  subst hm;have hn0:news=[]:=D5 (by grind);subst hn0;have hfc: ∀w:World,(Builtin.firstCells i.size 0 (.slice ad 0 cp)).run P w= .ok #[] w:=by
   intro w;cases ad<;>simp[Builtin.firstCells,loadCells,loadCellsFrom]
  refine⟨v,w,?_,by grind,⟨rfl,rfl,rfl,Nat.le_refl _,fun _ _ _=>rfl⟩,.inl rfl,fun _=>⟨rfl,rfl⟩⟩;rcases hown.2 with⟨rfl,rfl⟩|⟨g,cap,cur,rfl,_,hg,hnc,_⟩
  · simp[Builtin.append_,D3 ht,sizeOf,typeInfo,hi,Builtin.lenOf,hfc]
  · simp[Builtin.append_,D3 ht,sizeOf,typeInfo,hi,Builtin.lenOf,hfc,hnc,storeCells]
 ·
  cases ad with
  |none=>grind
  |some b=>
   have hnews:=hnews b rfl;have hlen:(xs++news).length=(n+m)*i.size:=by rw[A3,hown.1,hl,K0]
   have hsmall:n+m≤9223372036854775807:=by simp only[maxLen]at h63;omega
   have grown: ∀(old:Nat),old<n+m→ ∀(row:Option Nat),
     (w.drew.alloc (.cells (xs.toArray++news.toArray++Builtin.zeroCells z.cells (grownCap w (n+m) old e-(n+m))) e)).ownsRow 0 e i.size
      (.slice (some ⟨w.heap.size,0,none⟩) (n+m) (grownCap w (n+m) old e)) (n+m) (xs++news)∧
     w.grownBy (w.drew.alloc (.cells (xs.toArray++news.toArray++Builtin.zeroCells z.cells (grownCap w (n+m) old e-(n+m))) e)) row:=by
    intro old _ row;have hge:=CE w (n+m) old e;have hcm:grownCap w (n+m) old e≤maxLen:=X1 w (n+m) old e h63;refine⟨⟨hlen,.inr ⟨w.heap.size,_,_,rfl,F9 _,O5 w.drew _,hge,hcm,?_,?_⟩⟩,⟨rfl,rfl,rfl,by simp,fun k hk _=>Y2 w.drew _ hk⟩⟩
    · simp only[Y3,I6,AH,hzs,hown.1,hl,←Nat.add_mul];grind
    · grind
   rcases hown.2 with⟨rfl,rfl⟩|⟨g,cap,cur,rfl,hbg,hg,hnc,hcm,hcs,htake⟩
   · have hx:xs=[]:=D5 (by grind);subst hx;have hr:=run_append_nil (P:=P) w t ty e i z ht hi hz b m cp news hl hnews (by omega) (by omega) (by grind);have hgr:=grown 0 (by omega) (Value.ownBlock (.slice none 0 0));simp only[F3,I9,Array.empty_append]at hgr⊢;grind[Value.ownBlock,absurd]
   ·
    by_cases hroom:n+m≤cap
    ·
     have hfit:n*i.size+news.length≤cur.size:=by rw[hl,hcs,←Nat.add_mul];exact I8 _ hroom
     have hr:=run_append_room (P:=P) w t ty e i ht hi g n cap cur hg b m cp news hl hnews h1 hroom hfit;refine⟨_,_,hr,⟨hlen,.inr ⟨g,cap,_,rfl,hbg,R7 w g cur _ e _ hg,hroom,hcm,?_,?_⟩⟩,⟨rfl,rfl,rfl,by simp,fun k _ hk=>Q6 w g k _ (fun e=>hk (by simp[Value.ownBlock,e]))⟩,.inl (by simp[Value.ownBlock]),fun h=>absurd h hm⟩
     · simp only[I6,A3,D9,B8,N6];omega
     · rw[htake,←hlen];exact X2
    · have holds: ∀j u,xs[j]? =some u→w.cell? ((⟨g,0,none⟩:Addr).add j)=some u:=hown.cells (g:=g) rfl;have hr:=run_append_grow (P:=P) w t ty e i z ht hi hz ⟨g,0,none⟩ n cap xs hown.1 holds b m cp news hl hnews (by omega) (by omega) (growslice_fits (by omega) hbytes);have hgr:=grown cap (by omega) (Value.ownBlock (.slice (some ⟨g,0,none⟩) n cap));exact⟨_,_,hr,hgr.1,hgr.2,.inr (by simp[Value.ownBlock]),fun h=>absurd h hm⟩
theorem eN {O:Nat→Prop}{sz:Nat}: ∀{l:List CV} {xs:List Value},RepL w O l xs→(∀v∈l,v.cells=sz)→xs.length=l.length*sz
 |[],xs,h,_=>by grind[RepL]
 |v::vs,xs,h,hc=>by
  simp only[RepL]at h;obtain⟨c1,c2,rfl,h1,h2⟩:=h;rw[A3,bS h1,hc v (by simp),eN h2 (fun u hu=>hc u (by grind)),List.length_cons,Nat.add_mul];omega
theorem aJ1 (h:RepA' c M fr ob a w ρ){nid:Nat}(hn: ¬M nid)(hM: ∀i,M i→M' i)(hM':M' nid){t ty:TypeId}{s x:Operand}{K:HV→Ob→Prop}
  (hl:happend P t (ev fr s) (ev fr x) nid ob K) (d:Option Nat) (hd: ∀k,d=some k→k<c.n):
  ∃v ob' y w' ρ',K v ob'∧(Builtin.append_ #[t,t] ty #[a.eval s,a.eval x]).run P w= .ok y w'∧RepA' c M' (updo fr d v) ob' (a.put d y) w' ρ':=by
 unfold happend at hl;rw[aD]at hl;obtain⟨ti,ht,hl⟩:=hl;obtain⟨i0,d0,zv0,hty⟩:=bM ht;split at hl
 ·
  rename_i e hde;rw[aD]at hl;obtain⟨te,hte,hl⟩:=hl;obtain⟨ie,de,zve,htye⟩:=bM hte;rw[aD]at hl;obtain⟨l2,hx,hc2,hl⟩:=hl;have hdd:=hty.d_;rw[hde]at hdd;have hu:P.underlying t=some (.slice e):=by
   rw[hty.under];congr 1;cases d0<;>simp[tyd]at hdd;rw[hdd]
  obtain⟨ad,m,cp,news,he,hm,hrl,hnone,hcells,_,_⟩:=jI h hx;have hnl:news.length=m*ie.size:=by rw[eN hrl hc2,hm,htye.size]
  have hzs:zve.cells.size=ie.size:=by rw[htye.zsize,htye.size]
  split at hl
  ·
   rename_i id n hs;split at hl
   ·
    rename_i e' sz l ho;obtain⟨⟨rfl,rfl,rfl⟩,hb,hmx,hK⟩:=hl;obtain⟨hdv,xs,hρ,hse,hlen,hl1,hcs,how⟩:=mM h hs ho rfl;rw[←htye.size]at how;obtain⟨v',w',hrun,how',hgr,hblk,hm0⟩:=kH (P:=P) (ty:=ty) hu htye.info htye.zero hzs hdv l.length xs how ad m cp news hnl hnone hcells (jS hrl) (by rw[hm];exact hmx) (by rw[hm,htye.bytes];exact hb);by_cases hmz:m=0
    ·
     obtain⟨hv',hw'⟩:=hm0 hmz;rw[hv',hw']at hrun;have hl2:l2=[]:=D5 (by rw[←hm];exact hmz);subst hl2;refine⟨_,_,_,_,ρ,hK,by rw[hse,he];exact hrun,?_⟩;have hob:upd ob id (some (.row e' te.size (l++[])))=ob:=by
      funext k;by_cases hk:k=id
      · subst hk;rw[aU,ho];simp
      · rw[bJ _ _ hk]
     rw[hob];have hmen:HV.men M (.own id (l++[]).length):=by simpa[HV.men]using(h.mo id _ ho).1
     have hv2:RepV w ρ (Owned ρ c.X) (.own id (l++[]).length) hdv:=by
      refine dR ?_ rfl ?_
      ·
       simp only[RepH];refine⟨_,rfl,?_,fun hd' h1=>?_⟩
       · rcases how.2 with⟨rfl,_⟩|⟨g,cap,cur,rfl,_⟩<;>simp[Value.oneCell']
       · rw[hρ]at h1;cases h1;exact⟨by simp[hlen],fun _=>rfl⟩
      · rcases how.2 with⟨rfl,_⟩|⟨g,cap,cur,rfl,_⟩<;>simp[Value.isAgg']
     have:=h.value (d:=d) (.inr hv2) hmen hd;exact⟨this.s,this.f,fun t=>HV.men_mono hM (this.mf t),fun id o ho=>⟨hM _ (this.mo id o ho).1,by
      have h2:=(this.mo id o ho).2;cases o with
      |box t v=>exact HV.men_mono hM h2
      |row _ _ _=>trivial
      |mp _ _ _=>trivial
      |dead=>trivial
      |tab _=>trivial
      |hrow _ _ _=>exact HV.menL_mono hM h2
      |raw _ _=>trivial
      |it _ _ _ _=>exact hM _ h2⟩,fun id hid=>hM _ (this.m0 id hid),this.base,this.moves,this.defers,this.size,this.xlt⟩
    ·
     have hlv:Hl.hlen v'=l.length+m:=ownsRow_size how';refine⟨_,_,_,_,upd ρ id (some (.hdr v')),hK,by rw[hse,he];exact hrun,?_⟩;refine h.rehdr hM (hM _ (h.mo id _ ho).1) (.inr ⟨hdv,hρ,by omega⟩) hgr.os hgr.tape hgr.output hgr.size (fun b hb' hne=>hgr.block b hb' (fun e=>hne _ hρ (by simpa[Loc.has]using e.symm)))
      (fun g hg=>?_) ?_ (by rw[hlv,A3,hm]) (fun hst=>?_) hd
     ·
      rcases hblk with hb2|hb2
      · exact .inr ⟨_,hρ,by simpa[Loc.has]using hb2.symm.trans hg⟩
      · rw[hb2]at hg;cases hg;exact .inl (F2 _)
     · rcases how'.2 with⟨rfl,_⟩|⟨g,cap,cur,rfl,_⟩<;>simp[Value.oneCell']
     ·
      refine⟨v',xs++news,aU _ _ _,eQ.2 ⟨xs,news,rfl,hl1.stay hst,hrl.stay hst⟩,fun v hv=>?_,?_⟩
      ·
       rcases F4.1 hv with hv|hv
       · exact hcs v hv
       · exact hc2 v hv
      · rw[A3,←hm,←htye.size];exact how'
   · exact hl.elim
  ·
   rename_i hs;obtain⟨hb,hmx,hK⟩:=hl;obtain⟨v',w',hrun,how',hgr,hblk,hm0⟩:=kH (P:=P) (ty:=ty) hu htye.info htye.zero hzs (.slice none 0 0) 0 [] (Y4 w 0 e ie.size) ad m cp news hnl hnone hcells (jS hrl)
    (by rw[hm];simpa using hmx) (by rw[hm,htye.bytes];simpa using hb)
   have hlv:Hl.hlen v'=m:=by have:=ownsRow_size how';simpa using this
   obtain⟨hob0,hρ0⟩:=h.nid_none hn;refine⟨_,_,_,_,upd ρ nid (some (.hdr v')),hK,by rw[xB h hs,he];exact hrun,?_⟩;refine h.rehdr hM hM' (.inl hn) hgr.os hgr.tape hgr.output hgr.size (fun b hb' _=>hgr.block b hb' (by simp[Value.ownBlock]))
    (fun g hg=>?_) ?_ (by rw[hlv,hm]) (fun hst=>?_) hd
   ·
    rcases hblk with hb2|hb2
    · rw[hb2]at hg;simp[Value.ownBlock]at hg
    · rw[hb2]at hg;cases hg;exact .inl (F2 _)
   · rcases how'.2 with⟨rfl,_⟩|⟨g,cap,cur,rfl,_⟩<;>simp[Value.oneCell']
   · refine⟨v',news,aU _ _ _,hrl.stay hst,hc2,?_⟩;rw[←hm,←htye.size];simpa using how'
  · exact hl.elim
 grind
end
def hint (op:BinOp)(k:IntKind)(a b:Int)(K:CV→Prop):Prop:=
 match op with
 | .add=>K (.int k (k.wrap (a+b)))
 | .sub=>K (.int k (k.wrap (a-b)))
 | .mul=>K (.int k (k.wrap (a*b)))
 | .quo=>b≠0∧K (.int k (k.wrap (a.tdiv b)))
 | .rem=>b≠0∧K (.int k (a.tmod b))
 | .and=>K (.int k (k.wrap (BitVec.ofInt k.bits a&&&BitVec.ofInt k.bits b).toNat))
 | .or=>K (.int k (k.wrap (BitVec.ofInt k.bits a|||BitVec.ofInt k.bits b).toNat))
 | .xor=>K (.int k (k.wrap (BitVec.ofInt k.bits a^^^BitVec.ofInt k.bits b).toNat))
 | .andNot=>K (.int k (k.wrap (BitVec.ofInt k.bits a&&& ~~~BitVec.ofInt k.bits b).toNat))
 | .eql=>K (.bool (a==b))
 | .neq=>K (.bool (a !=b))
 | .lss=>K (.bool (decide (a<b)))
 | .leq=>K (.bool (decide (a≤b)))
 | .gtr=>K (.bool (decide (b<a)))
 | .geq=>K (.bool (decide (b≤a)))
 |_=>False
def hshift (op:BinOp)(k:IntKind)(a b:Int)(K:CV→Prop):Prop:=
 match op with
 | .shl=>0≤b∧K (.int k (k.wrap (a*2^(min b.toNat k.bits))))
 | .shr=>0≤b∧K (.int k (a.fdiv (2^(min b.toNat k.bits))))
 |_=>False
def slt (a b:List UInt8):Bool:=Op.bytesLess a b
def hstr (op:BinOp)(a b:List UInt8)(K:CV→Prop):Prop:=
 match op with
 | .add=>a.length+b.length≤9223372036854775807∧K (.str (a++b))
 | .eql=>K (.bool (a==b))
 | .neq=>K (.bool (!(a==b)))
 | .lss=>K (.bool (slt a b))
 | .leq=>K (.bool (slt a b||a==b))
 | .gtr=>K (.bool (!(slt a b||a==b)))
 | .geq=>K (.bool (!(slt a b)))
 |_=>False
def isShift :BinOp→Bool
 | .shl| .shr=>true
 |_=>false
def kI (P:Program)(op:BinOp)(t:TypeId)(x y:HV)(K:CV→Prop):Prop:=
 match x,y with
 | .c (.int k a),.c (.int k' b)=>if isShift op then hshift op k a b K else k=k'∧hint op k a b K
 | .c (.str a),.c (.str b)=>hstr op a b K
 | .c (.bool a),.c (.bool b)=>hlift (aT P t) fun ti=>ti.d= .bool∧match op with
  | .eql=>K (.bool (a==b))
  | .neq=>K (.bool (!(a==b)))
  |_=>False
 | .c (.agg a),.c (.agg b)=>(aP9 P t=true∧CV.ofTy P 8 t (.agg a)=true∧CV.ofTy P 8 t (.agg b)=true)∧match op with
  | .eql=>K (.bool (CV.eqv (.agg a) (.agg b)))
  | .neq=>K (.bool (!(CV.eqv (.agg a) (.agg b))))
  |_=>False
 |_,_=>False
def CV.val :CV→Value
 | .bool b=> .bool b
 | .int k n=> .int k n
 | .str s=> .string ⟨s.toArray⟩
 |_=>undef
def CV.sc :CV→Bool
 | .bool _| .int _ _| .str _=>true
 |_=>false
theorem CV.val_rep {w:World}{ρ:Env}{O:Nat→Prop}{u:CV}(h:u.sc=true):RepV w ρ O (.c u) u.val:=by
 cases u<;>simp[CV.sc]at h
 · exact iT _ _ _ _
 · exact eV _ _ _ _ _
 · exact sG _ _ _ _
section
variable {P:Program}
theorem aA2 {op:BinOp}{t:TypeId}{k k':IntKind}{a b:Int}{K:CV→Prop}(h:if isShift op then hshift op k a b K else k=k'∧hint op k a b K):
  ∃u,K u∧u.sc=true∧ ∀w,(binOp op t (.int k a) (.int k' b)).run P w= .ok u.val w:=by
 by_cases hs:isShift op=true
 ·
  rw[B6 hs]at h;cases op<;>simp[isShift]at hs<;>simp only[hshift]at h
  · exact⟨_,h.2,rfl,fun w=>by simp[binOp,Op.shift,Int.not_lt.2 h.1,CV.val]⟩
  · exact⟨_,h.2,rfl,fun w=>by simp[binOp,Op.shift,Int.not_lt.2 h.1,CV.val]⟩
 ·
  rw[A7 hs]at h;obtain⟨rfl,h⟩:=h;cases op<;>simp[isShift]at hs<;>simp only[hint]at h
  case quo=>exact⟨_,h.2,rfl,fun w=>by simp[binOp,Op.intDiv,h.1,CV.val]⟩
  case rem=>exact⟨_,h.2,rfl,fun w=>by simp[binOp,Op.intDiv,h.1,CV.val]⟩
  all_goals exact⟨_,h,rfl,fun w=>by simp[binOp,Op.intArith,Op.intBits,Op.intCmp,CV.val]⟩
theorem nY (op:BinOp)(t:TypeId)(a b:ByteArray)(h:isShift op=false):binOp op t (.string a) (.string b)=Op.stringOp op a b:=by
 cases op<;>simp[isShift]at h<;>rfl
theorem aA3 {op:BinOp}{t:TypeId}{a b:List UInt8}{K:CV→Prop}(h:hstr op a b K):
  ∃u,K u∧u.sc=true∧ ∀w,(binOp op t (.string ⟨a.toArray⟩) (.string ⟨b.toArray⟩)).run P w= .ok u.val w:=by
 have hb:=bG0 a b;have hlt:Op.bytesLess (⟨a.toArray⟩:ByteArray).toList (⟨b.toArray⟩:ByteArray).toList=slt a b:=by rw[S7,S7];rfl
 cases op<;>simp only[hstr]at h
 case add=>
  refine⟨_,h.2,rfl,fun w=>?_⟩;rw[nY _ _ _ _ rfl];simp only[Op.stringOp];have h1: ¬((((⟨a.toArray⟩:ByteArray).size+(⟨b.toArray⟩:ByteArray).size:Nat):Int)>IntKind.i64.max):=by
   have:(⟨a.toArray⟩:ByteArray).size=a.length:=by simp[ByteArray.size]
   have h2:(⟨b.toArray⟩:ByteArray).size=b.length:=by simp[ByteArray.size]
   rw[this,h2];simp only[IntKind.max,IntKind.signed,IntKind.bits];have:=h.1;simp only[F7];omega
  rw[A7 h1];simp only[I5,CV.val];have e:(⟨a.toArray⟩:ByteArray)++⟨b.toArray⟩=⟨(a++b).toArray⟩:=by apply ByteArray.ext;simp[ByteArray.data_append]
  rw[e]
 all_goals first
  |exact h.elim
  |exact⟨_,h,rfl,fun w=>by rw[nY _ _ _ _ rfl];simp only[Op.stringOp,hb,hlt,I5,CV.val]⟩
end
def HV.len (x:HV)(ob:Ob):Option Nat:=
 match x with
 | .c (.str s)=>some s.length
 |x=>(hread x ob).map List.length
def hslice (P:Program)(t:TypeId)(x:HV)(lo hi:Option HV)(K:HV→Prop):Prop:=
 hlift (aT P t) fun ti=>
  let bnd (n:Nat) (G:Nat→Nat→Prop):Prop:=
   hlift (match lo with|none=>some 0|some (.c (.int _ i))=>some i|_=>none) fun(l:Int)=>
   hlift (match hi with|none=>some (n:Int)|some (.c (.int _ i))=>some i|_=>none) fun(h:Int)=>
   (0≤l∧l≤h∧h≤(n:Int))∧G l.toNat h.toNat
  match ti.d,x with
  | .string,.c (.str s)=>bnd s.length fun l h=>K (.c (.str ((s.drop l).take (h-l))))
  | .slice e,.c (.slc s)=>hlift (aT P e) fun te=>(∀v∈s,v.cells=te.size)∧bnd s.length fun l h=>K (.c (.slc ((s.drop l).take (h-l))))
  | .slice e,.c .nils=>hlift (aT P e) fun _=>bnd 0 fun _ _=>K (.c .nils)
  | .array m e,.c (.rp (.agg s))=>hlift (aT P e) fun te=>((∀v∈s,v.cells=te.size)∧s.length=m)∧bnd m fun l h=>K (.c (.slc ((s.drop l).take (h-l))))
  |_,_=>False
def hslice3 (P:Program)(t:TypeId)(x:HV)(lo:Option HV)(hi mx:HV)(K:HV→Prop):Prop:=
 hlift (aT P t) fun ti=>
  match ti.d,x,hi,mx with
  | .slice e,.c (.slc s),.c (.int _ h),.c (.int _ m)=>hlift (aT P e) fun te=>(∀v∈s,v.cells=te.size)∧
   hlift (match lo with|none=>some 0|some (.c (.int _ i))=>some i|_=>none) fun(l:Int)=>(0≤l∧l≤h∧h≤m∧m≤(s.length:Int))∧K (.c (.slc ((s.drop l.toNat).take (h.toNat-l.toNat))))
  |_,_,_,_=>False
section
variable {P:Program}{c:Ctx}{M M':Nat→Prop}{fr:Fr}{ob:Ob}{a:Act}{w:World}{ρ:Env}
theorem gZ (h:RepA' c M fr ob a w ρ){lo:Option Operand}{dflt l:Int}(hl:(match lo.map (ev fr)with|none=>some dflt|some (.c (.int _ i))=>some i|_=>none)=some l):
  (lo=none∧l=dflt)∨ ∃x k,lo=some x∧a.eval x= .int k l:=by
 cases lo with
 |none=>grind
 |some x=>
  simp only[H8]at hl;split at hl
  · grind
  · rename_i k i he;cases hl;exact .inr ⟨x,k,rfl,eI h (by grind)⟩
  grind
theorem dJ (b:Bool)(n cap:Nat){lo hi:Option Operand}{l hh:Int}
  (h1:(lo=none∧l=0)∨ ∃x k,lo=some x∧a.eval x= .int k l) (h2:(hi=none∧hh=(n:Int))∨ ∃x k,hi=some x∧a.eval x= .int k hh)
  (hb:0≤l∧l≤hh∧hh≤(n:Int)) (hnc:n≤cap):
  (Instr.sliceBounds b n cap (lo.map a.eval) (hi.map a.eval) none).run P w= .ok (l.toNat,hh.toNat,cap) w:=by
 obtain⟨b0,b1,b2⟩:=hb;have c1:hh≤(cap:Int):=by omega
 have c2:0≤hh:=by omega
 have c3:l≤((hh.toNat:Nat):Int):=by omega
 rcases h1 with⟨rfl,rfl⟩|⟨x,k,rfl,e1⟩<;>rcases h2 with⟨rfl,rfl⟩|⟨x',k',rfl,e2⟩
 all_goals simp_all[Instr.sliceBounds,Instr.sliceBound,asIntOf,W5]
theorem pR {O:Nat→Prop}{sz:Nat}: ∀{l:List CV} {cs:List Value} (k:Nat),RepL w O l cs→(∀v∈l,v.cells=sz)→k≤l.length→ ∃c1 c2,cs=c1++c2∧c1.length=k*sz∧RepL w O (l.drop k) c2
 |l,cs,0,h,_,_=>⟨[],cs,by simp,by simp,by grind⟩
 |[],cs,k+1,_,_,hk=>by grind
 |v::vs,cs,k+1,h,hc,hk=>by
  simp only[RepL]at h;obtain⟨c1,c2,rfl,h1,h2⟩:=h;obtain⟨d1,d2,rfl,e1,e2⟩:=pR k h2 (fun u hu=>hc u (by grind)) (by grind);exact⟨c1++d1,d2,by simp,by rw[A3,bS h1,hc v (by simp),e1,K0];omega,by grind⟩
theorem pS {O:Nat→Prop}: ∀{l:List CV} {cs:List Value} (k:Nat),RepL w O l cs→ ∃c1 c2,cs=c1++c2∧RepL w O (l.take k) c1
 |l,cs,0,_=>⟨[],cs,by simp,by simp[RepL]⟩
 |[],cs,k+1,h=>⟨cs,[],by simp,by grind⟩
 |v::vs,cs,k+1,h=>by
  simp only[RepL]at h;obtain⟨c1,c2,rfl,h1,h2⟩:=h;obtain⟨d1,d2,rfl,e2⟩:=pS k h2;exact⟨c1++d1,d2,by simp,by simp only[P9,RepL];grind⟩
theorem aQ0 (h:RepA' c M fr ob a w ρ){t:TypeId}{x:Operand}{lo hi:Option Operand}{K:HV→Prop}(hl:hslice P t (ev fr x) (lo.map (ev fr)) (hi.map (ev fr)) K):
  ∃u y,K u∧(Instr.sliceAt t (a.eval x) (lo.map a.eval) (hi.map a.eval) none).run P w= .ok y w∧RepV w ρ (Owned ρ c.X) u y∧u.men M:=by
 unfold hslice at hl;rw[aD]at hl;obtain⟨ti,ht,hl⟩:=hl;obtain⟨i0,d0,zv0,hty⟩:=bM ht;have hdd:=hty.d_;simp only at hl;split at hl
 ·
  rename_i s hd0 hx;rw[hd0]at hdd;have hu:P.underlying t=some .string:=by rw[hty.under];congr 1;cases d0<;>simp[tyd]at hdd;rfl
  rw[aD]at hl;obtain⟨l,hlo,hl⟩:=hl;rw[aD]at hl;obtain⟨hh,hhi,hb,hK⟩:=hl;have hbr:=dJ (P:=P) (w:=w) (a:=a) false s.length s.length (gZ h hlo) (gZ h hhi) hb (F2 _);have hsz:(⟨s.toArray⟩:ByteArray).size=s.length:=by simp[ByteArray.size]
  refine⟨_,.string ((⟨s.toArray⟩:ByteArray).extract l.toNat hh.toNat),hK,?_,?_,by simp[HV.men]⟩
  · rw[nF h hx];simp only[Instr.sliceAt,F8,D3 hu,E4,Instr.slice,hsz];simp_all
  grind[ByteArray.extract_mk,sG]
 ·
  rename_i e s hd0 hx;rw[hd0]at hdd;have hu:P.underlying t=some (.slice e):=by rw[hty.under];congr 1;cases d0<;>simp[tyd]at hdd;grind
  rw[aD]at hl;obtain⟨te,hte,hcs,hl⟩:=hl;obtain⟨ie,de,zve,htye⟩:=bM hte;rw[aD]at hl;obtain⟨l,hlo,hl⟩:=hl;rw[aD]at hl;obtain⟨hh,hhi,hb,hK⟩:=hl;obtain⟨ad,cap,xs,sz,he,hl2,hcs2,hcap,hn,hrd⟩:=aI8 h hx;have hbr:=dJ (P:=P) (w:=w) (a:=a) true s.length cap (gZ h hlo) (gZ h hhi) hb hcap;have hsz:(sizeOf e).run P w= .ok te.size w:=by rw[cD htye.info,htye.size]
  obtain⟨b0,b1,b2⟩:=hb;have hlen:((s.drop l.toNat).take (hh.toNat-l.toNat)).length=hh.toNat-l.toNat:=by
   rw[D9,B8];omega
  obtain⟨c1,c2,rfl,e1,e2⟩:=pR l.toNat hl2 hcs (by omega);obtain⟨f1,f2,rfl,e3⟩:=pS (hh.toNat-l.toNat) e2;refine⟨_,.slice (if cap=l.toNat then ad else ad.map (·.add (l.toNat*te.size))) (hh.toNat-l.toNat) (cap-l.toNat),hK,?_,?_,by simp[HV.men]⟩
  · rw[he];simp only[Instr.sliceAt,F8,D3 hu,E4,Instr.slice,hbr,hsz,I5]
  ·
   refine dD ?_ rfl rfl;simp only[RepC];refine⟨_,cap-l.toNat,f1,te.size,by rw[hlen],e3,fun v hv=>hcs v (G1 (H5 hv)),by rw[hlen];omega,?_,?_⟩
   ·
    intro hnone;split at hnone
    · omega
    ·
     cases ad with
     |none=>have:=hn rfl;omega
     |some b=>simp at hnone
   ·
    intro b hb2;split at hb2
    ·
     rename_i hc;have hz:f1=[]:=D5 (by
      rw[eN e3 (fun v hv=>hcs v (G1 (H5 hv))),hlen];have:hh.toNat-l.toNat=0:=by omega
      rw[this];simp)
     subst hz;exact⟨by simp,by simp⟩
    ·
     cases ad with
     |none=>simp at hb2
     |some b'=>
      simp only[H8,D6]at hb2;subst hb2;rw[←e1];have:=hrd b' rfl;rw[←List.append_assoc]at this;exact this.part
 ·
  rename_i e hd0 hx;rw[hd0]at hdd;have hu:P.underlying t=some (.slice e):=by rw[hty.under];congr 1;cases d0<;>simp[tyd]at hdd;grind
  rw[aD]at hl;obtain⟨te,hte,hl⟩:=hl;obtain⟨ie,de,zve,htye⟩:=bM hte;rw[aD]at hl;obtain⟨l,hlo,hl⟩:=hl;rw[aD]at hl;obtain⟨hh,hhi,hb,hK⟩:=hl;have hbr:=dJ (P:=P) (w:=w) (a:=a) true 0 0 (gZ h hlo) (gZ h hhi) hb (F2 _);have hl0:l.toNat=0:=by omega
  have hh0:hh.toNat=0:=by omega
  refine⟨_,.slice none 0 0,hK,?_,dD (by simp[RepC]) rfl rfl,by simp[HV.men]⟩;rw[xB h hx];simp only[Instr.sliceAt,F8,D3 hu,E4,Instr.slice,hbr,cD htye.info,I5,hl0,hh0];simp
 ·
  rename_i m e s hd0 hx;rw[hd0]at hdd;have hu:P.underlying t=some (.array m e):=by rw[hty.under];congr 1;cases d0<;>simp[tyd]at hdd;grind
  rw[aD]at hl;obtain⟨te,hte,⟨hcs,hsm⟩,hl⟩:=hl;obtain⟨ie,de,zve,htye⟩:=bM hte;rw[aD]at hl;obtain⟨l,hlo,hl⟩:=hl;rw[aD]at hl;obtain⟨hh,hhi,hb,hK⟩:=hl;obtain⟨ad,xs,he,hl2,hrd⟩:=bF9 h hx;simp only[RepC]at hl2;have hbr:=dJ (P:=P) (w:=w) (a:=a) false m m (gZ h hlo) (gZ h hhi) hb (F2 _);have hsz:(sizeOf e).run P w= .ok te.size w:=by rw[cD htye.info,htye.size]
  obtain⟨b0,b1,b2⟩:=hb;have hlen:((s.drop l.toNat).take (hh.toNat-l.toNat)).length=hh.toNat-l.toNat:=by
   rw[D9,B8];omega
  obtain⟨c1,c2,rfl,e1,e2⟩:=pR l.toNat hl2 hcs (by omega);obtain⟨f1,f2,rfl,e3⟩:=pS (hh.toNat-l.toNat) e2;refine⟨_,.slice (some (if m=l.toNat then ad else ad.add (l.toNat*te.size))) (hh.toNat-l.toNat) (m-l.toNat),hK,?_,?_,by simp[HV.men]⟩
  · rw[he];simp only[Instr.sliceAt,F8,D3 hu,E4,Instr.sureAddr,I5,hbr,hsz]
  ·
   refine dD ?_ rfl rfl;simp only[RepC];refine⟨_,m-l.toNat,f1,te.size,by rw[hlen],e3,fun v hv=>hcs v (G1 (H5 hv)),by rw[hlen];omega,fun hn=>(by cases hn),fun b hb2=>?_⟩;simp only[D6]at hb2;subst hb2;split
   ·
    have hz:f1=[]:=D5 (by
     rw[eN e3 (fun v hv=>hcs v (G1 (H5 hv))),hlen];have:hh.toNat-l.toNat=0:=by omega
     rw[this];simp)
    subst hz;exact⟨by simp,by simp⟩
   · rw[←e1];have:=hrd;rw[←List.append_assoc]at this;exact this.part
 grind
theorem aJ2 (h:RepA' c M fr ob a w ρ){t:TypeId}{x hi mx:Operand}{lo:Option Operand}{K:HV→Prop}(hl:hslice3 P t (ev fr x) (lo.map (ev fr)) (ev fr hi) (ev fr mx) K):
  ∃u y,K u∧(Instr.sliceAt t (a.eval x) (lo.map a.eval) (some (a.eval hi)) (some (a.eval mx))).run P w= .ok y w∧RepV w ρ (Owned ρ c.X) u y∧u.men M:=by
 unfold hslice3 at hl;rw[aD]at hl;obtain⟨ti,ht,hl⟩:=hl;obtain⟨i0,d0,zv0,hty⟩:=bM ht;have hdd:=hty.d_;split at hl
 ·
  rename_i e s kh hh km m hd0 hx hhi hmx;rw[hd0]at hdd;have hu:P.underlying t=some (.slice e):=by rw[hty.under];congr 1;cases d0<;>simp[tyd]at hdd;rw[hdd]
  rw[aD]at hl;obtain⟨te,hte,hcs,hl⟩:=hl;obtain⟨ie,de,zve,htye⟩:=bM hte;rw[aD]at hl;obtain⟨l,hlo,hb,hK⟩:=hl;obtain⟨ad,cap,xs,sz,he,hl2,hcs2,hcap,hn,hrd⟩:=aI8 h hx;obtain⟨b0,b1,b2,b3⟩:=hb;have hbr:(Instr.sliceBounds true s.length cap (lo.map a.eval) (some (a.eval hi)) (some (a.eval mx))).run P w= .ok (l.toNat,hh.toNat,m.toNat) w:=by
   have c1:m≤(cap:Int):=by omega
   have c2:0≤m:=by omega
   have c3:0≤hh:=by omega
   have c4:hh≤((m.toNat:Nat):Int):=by omega
   have c5:l≤((hh.toNat:Nat):Int):=by omega
   have e1:=eI h hmx;have e2:=eI h hhi;rcases gZ h hlo with⟨rfl,rfl⟩|⟨x',k',rfl,e3⟩
   · simp[Instr.sliceBounds,Instr.sliceBound,e1,e2,asIntOf,c1,c2,c3,b2,W5 c2]
   · simp[Instr.sliceBounds,Instr.sliceBound,e1,e2,e3,asIntOf,c1,c2,c3,b0,b1,b2,W5 c2,W5 c3]
  have hsz:(sizeOf e).run P w= .ok te.size w:=by rw[cD htye.info,htye.size]
  have hlen:((s.drop l.toNat).take (hh.toNat-l.toNat)).length=hh.toNat-l.toNat:=by
   rw[D9,B8];omega
  obtain⟨c1,c2,rfl,e1,e2⟩:=pR l.toNat hl2 hcs (by omega);obtain⟨f1,f2,rfl,e3⟩:=pS (hh.toNat-l.toNat) e2;refine⟨_,.slice (if m.toNat=l.toNat then ad else ad.map (·.add (l.toNat*te.size))) (hh.toNat-l.toNat) (m.toNat-l.toNat),hK,?_,?_,by simp[HV.men]⟩
  · rw[he];simp only[Instr.sliceAt,F8,D3 hu,E4,Instr.slice,hbr,hsz,I5]
  ·
   refine dD ?_ rfl rfl;simp only[RepC];refine⟨_,m.toNat-l.toNat,f1,te.size,by rw[hlen],e3,fun v hv=>hcs v (G1 (H5 hv)),by rw[hlen];omega,?_,?_⟩
   ·
    intro hnone;split at hnone
    · omega
    ·
     cases ad with
     |none=>have:=hn rfl;omega
     |some b=>simp at hnone
   ·
    intro b hb2;split at hb2
    ·
     rename_i hc;have hz:f1=[]:=D5 (by
      rw[eN e3 (fun v hv=>hcs v (G1 (H5 hv))),hlen];have:hh.toNat-l.toNat=0:=by omega
      rw[this];simp)
     subst hz;exact⟨by simp,by simp⟩
    ·
     cases ad with
     |none=>simp at hb2
     |some b'=>
      simp only[H8,D6]at hb2;subst hb2;rw[←e1];have:=hrd b' rfl;rw[←List.append_assoc]at this;exact this.part
 grind
end
end Go.Hl
