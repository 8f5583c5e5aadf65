/- HL, part I: append. By an AI agent. -/
import Derived.Test.YthedbjfipmkpiaaGreatDoorHlF
set_option linter.unusedSimpArgs false
set_option linter.unusedVariables false
set_option linter.defProp false
namespace Go.Hl
open Go
theorem aM6 : ∀(l:List Value) (k off:Nat) (cells:Array Value),off+k+l.length≤cells.size→
  ((l.zipIdx k).foldl (fun cs (p:Value×Nat)=>cs.setIfInBounds (off+p.2) p.1) cells).toList=cells.toList.take (off+k)++l++cells.toList.drop (off+k+l.length)
 |[],k,off,cells,_=>by simp
 |v::vs,k,off,cells,h=>by
  simp only[List.length_cons]at h;have ih:=aM6 vs (k+1) off (cells.setIfInBounds (off+k) v) (by grind);simp only[List.zipIdx_cons,List.foldl_cons,ih,Array.toList_setIfInBounds];have hk:off+k<cells.toList.length:=by simp;omega
  rw[show off+(k+1)=(off+k)+1 from by omega,List.take_add_one];simp only[List.take_set,List.drop_set,List.length_cons];rw[if_pos (by omega)];grind[List.set_eq_of_length_le,List.getElem?_set_self,Option.toList_some]
theorem nR (v:Array Value)(off:Nat)(cells:Array Value)(h:off+v.size≤cells.size):
  (v.zipIdx.foldl (fun cs (p:Value×Nat)=>cs.setIfInBounds (off+p.2) p.1) cells).toList=cells.toList.take off++v.toList++cells.toList.drop (off+v.size):=by
 have:=aM6 v.toList 0 off cells (by grind);grind[Array.toList_zipIdx]
def tZ (l:List Nat):Nat:=l.foldr (· +·) 0
theorem xH : ∀(l:List HV),HV.cellsL l=tZ (l.map HV.cells)
 |[]=>rfl
 |v::vs=>by simp[HV.cellsL,tZ,xH vs]
theorem aM7 {w:World}{ρ:Env}{O:Nat→Prop}: ∀{l:List HV} {cs:List Value} {i:Nat} {v:HV},RepHL w ρ O l cs→l[i]? =some v→
  ∃c1 c2 c3,cs=c1++c2++c3∧c1.length=tZ ((l.map HV.cells).take i)∧c2.length=v.cells∧ ∀u c2',RepH w ρ O u c2'→RepHL w ρ O (l.set i u) (c1++c2'++c3)
 |[],cs,i,v,h,hi=>by grind
 |x::xs,cs,0,v,h,hi=>by
  simp only[RepHL]at h;obtain⟨c1,c2,rfl,h1,h2⟩:=h;simp only[List.getElem?_cons_zero,Option.some.injEq]at hi;subst hi;exact⟨[],c1,c2,by simp,by simp[tZ],bX h1,fun u c2' h'=>by grind[RepHL]⟩
 |x::xs,cs,i+1,v,h,hi=>by
  simp only[RepHL]at h;obtain⟨c1,c2,rfl,h1,h2⟩:=h;simp only[List.getElem?_cons_succ]at hi;obtain⟨d1,d2,d3,rfl,e1,e2,e3⟩:=aM7 h2 hi;grind[List.length_append,bX,tZ,RepHL]
def hfill (e:Operand→HV):List (Nat×Operand)→List HV→Option (List HV)
 |[],hs=>some hs
 |(i,x)::ps,hs=>match hs[i]? with
  |some old=>if(e x).sto=true∧(e x).cells=old.cells then hfill e ps (hs.set i (e x))else none
  |none=>none
theorem aM8 : ∀{l:List HV} {i:Nat} {u:HV},HV.stoL l=true→u.sto=true→HV.stoL (l.set i u)=true
 |[],_,_,_,_=>rfl
 |x::xs,0,u,h,hu=>by simp_all[List.set_cons_zero,HV.stoL,Bool.and_eq_true]
 |x::xs,i+1,u,h,hu=>by simp only[List.set_cons_succ,HV.stoL,Bool.and_eq_true]at h⊢;exact⟨h.1,aM8 h.2 hu⟩
theorem aM9 {M:Nat→Prop}: ∀{l:List HV} {i:Nat} {u:HV},HV.menL M l→u.men M→HV.menL M (l.set i u)
 |[],_,_,_,_=>by grind
 |x::xs,0,u,h,hu=>by grind[HV.menL]
 |x::xs,i+1,u,h,hu=>by simp only[List.set_cons_succ,HV.menL]at h⊢;exact⟨h.1,aM9 h.2 hu⟩
section
variable {P:Program}{c:Ctx}{M:Nat→Prop}{fr:Fr}{ob:Ob}{a:Act}{w:World}{ρ:Env}
theorem qJ (h:RepA' c M fr ob a w ρ)(place:Nat→Option (Nat×Nat)): ∀(ps:List (Nat×Operand)) (hs hs':List HV) (cells:Array Value),
  (∀i k,(hs.map HV.cells)[i]? =some k→place i=some (tZ ((hs.map HV.cells).take i),k))→RepHL w ρ (Owned ρ c.X) hs cells.toList→HV.stoL hs=true→HV.menL M hs→hfill (ev fr) ps hs=some hs'→
  ∃cells',Instr.fill place cells (ps.map fun p=>(p.1,a.eval p.2))=some cells'∧RepHL w ρ (Owned ρ c.X) hs' cells'.toList∧HV.stoL hs'=true∧HV.menL M hs'
 |[],hs,hs',cells,_,hr,h1,h2,hf=>by simp only[hfill,Option.some.injEq]at hf;subst hf;exact⟨cells,rfl,hr,h1,h2⟩
 |(i,x)::ps,hs,hs',cells,hpl,hr,h1,h2,hf=>by
  simp only[hfill]at hf;split at hf
  ·
   rename_i old ho;split at hf
   ·
    rename_i hc;obtain⟨c1,c2,c3,hcs,e1,e2,e3⟩:=aM7 hr ho;have hv:=h.ev x (by grind[HV.sto]);have hlen:(a.eval x).cells.size=c2.length:=by
     have:=bX hv.1;rw[hc.2,←e2]at this;simpa using this
    have hp:place i=some (c1.length,old.cells):=by grind
    have hmap:(hs.set i (ev fr x)).map HV.cells=hs.map HV.cells:=by
     rw[List.map_set,hc.2];apply List.ext_getElem?;intro j;rw[List.getElem?_set];by_cases hij:i=j
     · grind
     · grind
    have hsize:cells.size=c1.length+c2.length+c3.length:=by
     have:=congrArg List.length hcs;simpa[Nat.add_assoc]using this
    obtain⟨cells',f1,f2⟩:=qJ h place ps (hs.set i (ev fr x)) hs' ((a.eval x).cells.zipIdx.foldl (fun cs (p:Value×Nat)=>cs.setIfInBounds (c1.length+p.2) p.1) cells)
     (by grind) (by
      rw[nR _ _ _ (by omega),hcs,hlen];have:=lC (l1:=c1) (l2:=c2) (l3:=c3) (x:=(a.eval x).cells.toList) (by grind);simp only[Array.length_toList,hlen]at this;rw[this];exact e3 _ _ hv.1) (aM8 h1 hc.1) (aM9 h2 (h.evm x)) hf
    simp_all[List.map_cons,Instr.fill,if_neg,ne_eq,Bool.or_eq_true,decide_eq_true_eq,not_or,Decidable.not_not]
   grind
  grind
def gP (ti:TyI)(parts:List (Nat×Operand))(e:Operand→HV)(K:HV→Prop):Prop:=
 match ti.z with
 | .agg zs=>hlift (hfill e parts (zs.map .c)) fun hs=>K (HV.norm (.agg hs))
 |_=>False
theorem xI : ∀{fs:List (Nat×TypeId)} {zs:List CV} {k:Nat},aH5 P fs zs k=true→fs.length=zs.length∧ ∀i o t,fs[i]? =some (o,t)→ ∃z info,zs[i]? =some z∧P.info? t=some info∧info.size=z.cells∧o=k+tZ ((zs.map CV.cells).take i)
 |[],[],_,_=>⟨rfl,by simp⟩
 |[],_::_,_,h=>by simp[aH5]at h
 |_::_,[],_,h=>by simp[aH5]at h
 |(o,t)::fs,z::zs,k,h=>by
  simp only[aH5,Bool.and_eq_true,beq_iff_eq]at h;obtain⟨⟨⟨h1,h2⟩,h3⟩,h4⟩:=h;obtain⟨e1,e2⟩:=xI h4;refine⟨by simp[e1],fun i o' t' hi=>?_⟩;cases i with
  |zero=>
   simp only[List.getElem?_cons_zero,Option.some.injEq,Prod.mk.injEq]at hi;obtain⟨rfl,rfl⟩:=hi;cases hq:P.info? t with
   |none=>rw[hq]at h2;cases h2
   |some info=>
    simp only[Program.cellsOf,hq,Option.map_some,Option.getD_some]at h3;exact⟨z,info,rfl,rfl,h3,by simp[tZ,h1]⟩
  |succ i=>
   simp only[List.getElem?_cons_succ]at hi;obtain⟨z',info,f1,f2,f3,f4⟩:=e2 i o' t' hi;exact⟨z',info,by simpa using f1,f2,f3,by rw[f4];simp[tZ];omega⟩
theorem xJ {α:Type}(g:Field→Sem α)(v:Field→α)(w:World): ∀(fs:List Field),(∀f∈fs,(g f).run P w= .ok (v f) w)→(fs.mapM g).run P w= .ok (fs.map v) w
 |[],_=>by simp
 |f::fs,h=>by
  have ih:=xJ g v w fs (fun x hx=>h x (by grind));simp_all
theorem cellsHV_c (l:List CV):(l.map HV.c).map HV.cells=l.map CV.cells:=by grind[List.map_map,List.map_congr_left,HV.cells]
theorem aN0 (h:RepA' c M fr ob a w ρ){t:TypeId}{ti:TyI}(ht:aP P t=some ti){parts:Array (Nat×Operand)}{K:HV→Prop}(hl:gP ti parts.toList (ev fr) K):
  ∃u y,K u∧(Instr.build t (parts.map fun p=>(p.1,a.eval p.2))).run P w= .ok y w∧RepV w ρ (Owned ρ c.X) u y∧u.men M:=by
 obtain⟨i,d,zv,hty⟩:=bB ht;unfold gP at hl;split at hl
 ·
  rename_i zs hz;rw[aC]at hl;obtain⟨hs,hf,hK⟩:=hl;have hrep:RepHL w ρ (Owned ρ c.X) (zs.map .c) zv.cells.toList:=by
   rw[rQ];have:=hty.rep w (Owned ρ c.X);rw[hz]at this;simpa only[RepC]using this
  have hzero:(zeroValue t).run P w= .ok zv w:=by simp[zeroValue,typeInfo,hty.info,hty.zero]
  have hag:=hty.dagg;rw[hz]at hag;have hlay:=hty.lay_;rw[hz]at hlay;have hd:=hty.d_;have hm:HV.menL M (zs.map .c):=HV.menL_c;cases hd2:ti.d with
  |struct fs=>
   rw[hd2]at hd hlay;cases d<;>simp[tyd]at hd;rename_i gs;simp only[lay]at hlay;obtain⟨hlen,hpl⟩:=xI hlay;have hplace: ∀f∈gs.toList,((do pure (f.offset,←sizeOf f.type)):Sem (Nat×Nat)).run P w= .ok (f.offset,P.cellsOf f.type) w:=by
    intro f hf';obtain⟨j,hj⟩:=List.getElem?_of_mem hf';obtain⟨z,info,_,h2,_,_⟩:=hpl j f.offset f.type (by rw[←hd,List.getElem?_map,hj];rfl);simp[bZ h2,Program.cellsOf,h2]
   have hrun:=xJ (P:=P) (fun f=>(do pure (f.offset,←sizeOf f.type):Sem (Nat×Nat))) (fun f=>(f.offset,P.cellsOf f.type)) w gs.toList hplace;obtain⟨cells',f1,f2,f3,f4⟩:=qJ h ((gs.toList.map fun f=>(f.offset,P.cellsOf f.type)).toArray[·]?) parts.toList (zs.map .c) hs zv.cells
    (fun j k hj=>by
     rw[cellsHV_c]at hj⊢;simp only[List.getElem?_map,Option.map_eq_some_iff]at hj;obtain⟨z,hz',rfl⟩:=hj;have hjl:j<gs.toList.length:=by
      have h1:j<zs.length:=(List.getElem?_eq_some_iff.1 hz').1;rw[←hlen,←hd]at h1;simpa using h1
     have hg:gs.toList[j]? =some gs.toList[j]:=List.getElem?_eq_getElem hjl;obtain⟨z2,info,g1,g2,g3,g4⟩:=hpl j (gs.toList[j]).offset (gs.toList[j]).type (by rw[←hd,List.getElem?_map,hg];rfl);rw[hz']at g1;cases g1;simp only[List.getElem?_toArray,List.getElem?_map,hg,Option.map_some,Program.cellsOf,g2,Option.getD_some,g3,g4,Nat.zero_add]) hrep HV.stoL_c hm hf
   refine⟨_,.agg cells',hK,?_,⟨HV.norm_rep (by simpa only[RepH,Value.cells]using f2),by rw[HV.norm_agg];rfl⟩,HV.norm_men (by simpa only[HV.men]using f4)⟩;unfold Instr.build;simp only[Sem.run_bind,hzero,Result.andThen_ok,run_underlying (P:=P) (by rw[hty.under]) w,Array.mapM_eq_mapM_toList,Sem.run_map,hrun,Array.toList_map];rw[show(parts.toList.map fun p=>(p.1,a.eval p.2))=(parts.toList.map fun p=>(p.1,a.eval p.2))from rfl,f1];rfl
  |array n e=>
   rw[hd2]at hd hlay;cases d<;>simp[tyd]at hd;rename_i n' e';obtain⟨rfl,rfl⟩:=hd;simp only[lay,Bool.and_eq_true,beq_iff_eq,List.all_eq_true]at hlay;obtain⟨hl1,hl2⟩:=hlay;have hsum: ∀(l:List CV) (j:Nat),(∀z∈l,z.cells=P.cellsOf e')→j≤l.length→tZ ((l.map CV.cells).take j)=j*P.cellsOf e':=by
    intro l;induction l with
    |nil=>intro j _ hj;simp at hj;subst hj;simp[tZ]
    |cons z zs ih=>
     intro j hz hj;cases j with
     |zero=>simp[tZ]
     |succ j=>
      have:=ih j (fun z hz'=>hz z (by simp[hz'])) (by simpa using hj);simp only[List.map_cons,List.take_succ_cons,tZ,List.foldr_cons]at this⊢;rw[this,hz z (by simp),Nat.add_mul];omega
   by_cases hinfo:(P.info? e').isSome=true
   ·
    cases hq:P.info? e' with
    |none=>rw[hq]at hinfo;cases hinfo
    |some info=>
     have hco:P.cellsOf e'=info.size:=by simp[Program.cellsOf,hq]
     obtain⟨cells',f1,f2,f3,f4⟩:=qJ h (fun j=>some (j*info.size,info.size)) parts.toList (zs.map .c) hs zv.cells
      (fun j k hj=>by
       rw[cellsHV_c]at hj⊢;simp only[List.getElem?_map,Option.map_eq_some_iff]at hj;obtain⟨z,hz',rfl⟩:=hj;have h1:j<zs.length:=(List.getElem?_eq_some_iff.1 hz').1;rw[hsum zs j hl2 (by omega),hco,hl2 z (List.mem_of_getElem? hz'),hco]) hrep HV.stoL_c hm hf
     refine⟨_,.agg cells',hK,?_,⟨HV.norm_rep (by simpa only[RepH,Value.cells]using f2),by rw[HV.norm_agg];rfl⟩,HV.norm_men (by simpa only[HV.men]using f4)⟩;unfold Instr.build;simp only[Sem.run_bind,hzero,Result.andThen_ok,run_underlying (P:=P) (by rw[hty.under]) w,bZ hq,Array.toList_map];rw[f1];rfl
   ·
    exfalso;have hco:P.cellsOf e'=0:=by
     cases hq:P.info? e' with
     |none=>simp[Program.cellsOf,hq]
     |some _=>rw[hq]at hinfo;exact absurd rfl hinfo
    have h1:=lY hrep;rw[xH,cellsHV_c]at h1;have h2:=hsum zs zs.length hl2 (Nat.le_refl _);rw[List.take_of_length_le (by simp)]at h2;rw[h2,hco]at h1;have h3:=hty.zsize;have h4:=hty.pos;simp at h1;rw[h1]at h3;simp at h3;omega
  |_=>rw[hd2]at hag;simp[TyD.isAgg,CV.isAgg]at hag
 · exact hl.elim
theorem xK (sz:Nat): ∀(vs:List Value) (k:Nat) (cells:Array Value),cells.size=(k+vs.length)*sz→(∀v∈vs,v.cells.size=sz)→
  ∃cells',Instr.fill (fun i=>some (i*sz,sz)) cells ((vs.zipIdx k).map fun p=>(p.2,p.1))=some cells'∧cells'.toList=cells.toList.take (k*sz)++(vs.map fun v=>v.cells.toList).flatten
 |[],k,cells,hs,_=>⟨cells,rfl,by simp at hs;rw[List.take_of_length_le (by simp[hs])];simp⟩
 |v::vs,k,cells,hs,hv=>by
  have hv0:=hv v (by simp);have hle:k*sz+v.cells.size≤cells.size:=by
   rw[hs,hv0,List.length_cons];have:(k+(vs.length+1))*sz=k*sz+(vs.length*sz+sz):=by rw[Nat.add_mul,Nat.add_mul];omega
   omega
  have hl:=nR v.cells (k*sz) cells hle;have hsz:(v.cells.zipIdx.foldl (fun cs (p:Value×Nat)=>cs.setIfInBounds (k*sz+p.2) p.1) cells).size=cells.size:=by
   have:=congrArg List.length hl;simp only[Array.length_toList,List.length_append,List.length_take,List.length_drop]at this;rw[this];omega
  obtain⟨cells',h1,h2⟩:=xK sz vs (k+1) _ (by rw[hsz,hs];congr 1;simp;omega) (fun u hu=>hv u (by simp[hu]));refine⟨cells',?_,?_⟩
  · simp only[List.zipIdx_cons,List.map_cons,Instr.fill];rw[if_neg (by simp only[ne_eq,Bool.or_eq_true,decide_eq_true_eq,not_or,Decidable.not_not];exact⟨hv0,by omega⟩)];exact h1
  ·
   rw[h2,hl];have e1:(k+1)*sz=(cells.toList.take (k*sz)++v.cells.toList).length:=by
    simp only[List.length_append,List.length_take,Array.length_toList];rw[Nat.add_mul];omega
   rw[e1,List.take_left' rfl];simp
def hclosed (e:Operand→HV):List (Nat×Operand)→Nat→Nat→Option (List CV)
 |[],_,_=>some []
 |(i,x)::ps,k,sz=>match(e x).toC with
  |some v=>if i=k∧v.cells=sz then(hclosed e ps (k+1) sz).map (v.denil::·)else none
  |_=>none
theorem rT (h:RepA' c M fr ob a w ρ){sz:Nat}: ∀(ps:List (Nat×Operand)) (k:Nat) (l:List CV),hclosed (ev fr) ps k sz=some l→
  ∃vs:List Value,(ps.map fun p=>(p.1,a.eval p.2))=(vs.zipIdx k).map (fun p=>(p.2,p.1))∧vs.length=l.length∧ps.length=l.length∧(∀v∈vs,v.cells.size=sz)∧(∀v∈l,v.cells=sz)∧RepL w (Owned ρ c.X) l (vs.map fun v=>v.cells.toList).flatten
 |[],k,l,hl=>by simp only[hclosed,Option.some.injEq]at hl;subst hl;exact⟨[],by simp,rfl,rfl,by simp,by simp,by simp[RepL]⟩
 |(i,x)::ps,k,l,hl=>by
  simp only[hclosed]at hl;split at hl
  ·
   rename_i v hx;split at hl
   ·
    rename_i hc;obtain⟨rfl,hcs⟩:=hc;rw[Option.map_eq_some_iff]at hl;obtain⟨l',hl,rfl⟩:=hl;obtain⟨vs,e1,e2,e3,e4,e5,e6⟩:=rT h ps (i+1) l' hl;have hv:=h.ev x (by intro e;rw[e]at hx;simp[HV.toC]at hx);have hv1:=HV.toC_spec hx hv.1;have hcs':v.denil.cells=sz:=by rw[CV.denil_cells];exact hcs
    refine⟨a.eval x::vs,by simp[e1],by simp[e2],by simp[e3],fun u hu=>?_,fun u hu=>?_,?_⟩
    ·
     rcases List.mem_cons.1 hu with rfl|hu
     · have:=bG hv1;rw[hcs]at this;simpa using this
     · exact e4 u hu
    ·
     rcases List.mem_cons.1 hu with rfl|hu
     · exact hcs'
     · exact e5 u hu
    · simp only[List.map_cons,List.flatten_cons,RepL];exact⟨_,_,rfl,CV.denil_rep hv1,e6⟩
   · cases hl
  · cases hl
theorem uA {M':Nat→Prop}(h:RepA' c M fr ob a w ρ){nid:Nat}(hn: ¬M nid)(hM: ∀i,M i→M' i)(hM':M' nid){t e:TypeId}{ti te:TyI}(ht:aP P t=some ti)(hd0:ti.d= .slice e)
  (hte:aP P e=some te) {parts:Array (Nat×Operand)} {len:Nat} {l:List CV} (hl:hclosed (ev fr) parts.toList 0 te.size=some l) (hlen:len=l.length) (hmax:len*te.size≤2^24)
  (d:Option Nat) (hd: ∀k,d=some k→k<c.n):
  ∃y w' ρ',(Instr.buildSlice t len (parts.map fun p=>(p.1,a.eval p.2))).run P w= .ok y w'∧RepA' c M' (updo fr d (.own nid len)) (upd ob nid (some (.row e te.size l))) (a.put d y) w' ρ':=by
 obtain⟨i,d',zv,hty⟩:=bB ht;obtain⟨ie,de,zve,htye⟩:=bB hte;have hdd:=hty.d_;rw[hd0]at hdd;have hu:P.underlying t=some (.slice e):=by
  rw[hty.under];congr 1;cases d'<;>simp[tyd]at hdd;grind
 obtain⟨vs,e1,e2,e3,e4,e5,e6⟩:=rT h _ _ _ hl;have hpos:=htye.pos;have key: ∀cells0:Array Value,cells0.size=len*te.size→ ∃cells',Instr.fill (fun i=>some (i*te.size,te.size)) cells0 (parts.map fun p=>(p.1,a.eval p.2)).toList=some cells'∧cells'.toList=(vs.map fun v=>v.cells.toList).flatten:=by
  intro cells0 hc;obtain⟨cells',h1,h2⟩:=xK te.size vs 0 cells0 (by rw[hc,e2,hlen];simp) e4;exact⟨cells',by rw[Array.toList_map,e1];exact h1,by rw[h2];simp⟩
 have hsz:(sizeOf e).run P w= .ok te.size w:=by rw[bZ htye.info,htye.size]
 have hzero:(zeroValue e).run P w= .ok zve w:=by simp[zeroValue,typeInfo,htye.info,htye.zero]
 have hmk: ∃cells',(Instr.buildSlice t len (parts.map fun p=>(p.1,a.eval p.2))).run P w= .ok (.slice (some ⟨w.heap.size,0,none⟩) len len) (w.alloc (.cells cells' e))∧cells'.toList=(vs.map fun v=>v.cells.toList).flatten:=by
  by_cases h0:len*te.size=0
  · obtain⟨cells',h1,h2⟩:=key ((Array.range (len*te.size)).map ((#[]:Array Value)[· %(#[]:Array Value).size]!)) (by simp);refine⟨cells',?_,h2⟩;unfold Instr.buildSlice;simp only[Sem.run_bind,run_underlying hu,Result.andThen_ok,hsz];rw[if_neg (by omega)];simp only[h0,if_true,Sem.run_bind,Sem.run_pure,Result.andThen_ok];rw[h0]at h1;rw[h1];simp[newRow]
  · obtain⟨cells',h1,h2⟩:=key ((Array.range (len*te.size)).map (zve.cells[· %zve.cells.size]!)) (by simp);refine⟨cells',?_,h2⟩;unfold Instr.buildSlice;simp only[Sem.run_bind,run_underlying hu,Result.andThen_ok,hsz];rw[if_neg (by omega)];simp only[if_neg h0,Sem.run_bind,hzero,Sem.run_pure,Result.andThen_ok];rw[h1];simp[newRow]
 obtain⟨cells',hrun,hcells⟩:=hmk;have hxl:=nO e6;refine⟨_,_,_,hrun,h.newObj (w1:=w) (L:= .hdr (.slice (some ⟨w.heap.size,0,none⟩) len len)) hn hM hM' rfl rfl rfl rfl (fun b hb=>by simpa[Loc.has,Value.ownBlock]using hb.symm) (fun hst=>?_) trivial (.inr ?_) (by simpa[HV.men]using hM') hd⟩
 ·
  have hcl:cells'.toList.length=len*te.size:=by
   rw[hcells];have: ∀(vs:List Value),(∀v∈vs,v.cells.size=te.size)→((vs.map fun v=>v.cells.toList).flatten).length=vs.length*te.size:=by
    intro vs;induction vs with
    |nil=>simp
    |cons v vs ih=>
     intro hv;simp only[List.map_cons,List.flatten_cons,List.length_append,List.length_cons,ih (fun u hu=>hv u (by simp[hu])),Array.length_toList,hv v (by simp),Nat.add_mul];omega
   rw[this vs e4,e2,hlen]
  refine⟨_,_,aT _ _ _,e6.stay hst,e5,?_,.inr ⟨w.heap.size,len,cells',by rw[hlen],Nat.zero_le _,heap_alloc_new w _,by omega,?_,by simpa using hcl,?_⟩⟩
  · rw[←hcells,hcl,hlen]
  · have:len≤len*te.size:=Nat.le_mul_of_pos_right _ hpos;unfold maxLen;omega
  · rw[List.take_of_length_le (by rw[hcl,hlen];exact Nat.le_refl _),hcells]
 · refine dC ?_ rfl rfl;simp only[RepH];refine⟨_,rfl,by simp[Value.oneCell'],fun hd' hρ=>?_⟩;rw[aT]at hρ;cases hρ;exact⟨Nat.le_refl _,fun _=>rfl⟩
end
section
variable {P:Program}{w:World}
theorem jZ {t:TypeId}{ti:TyI}{i:TypeInfo}{d:TypeDesc}{zv:Value}(ht:TyOk P t ti i d zv)(c1 c2 c3:List Value)(h2:c2.length=ti.size):
  (part t (c1++c2++c3).toArray c1.length).run P w= .ok (dX ti.d.isAgg c2) w:=by
 have ha:(Go.isAgg t).run P w= .ok ti.d.isAgg w:=by rw[xE ht.under,ht.d_]
 simp only[part,Sem.run_bind,ha,Result.andThen_ok];cases hag:ti.d.isAgg with
 |true=>
  simp only[if_true,Sem.run_bind,bZ ht.info,Result.andThen_ok,Sem.run_pure,dX];rw[ht.size,←h2];congr 2;simp[List.extract_eq_take_drop]
 |false=>
  have hz:ti.z.isAgg=false:=by rw[←ht.dagg,hag]
  have h1:ti.size=1:=by
   have:=ht.zsize;have hzv:Value.isAgg' zv=false:=by rw[ht.agg,hz]
   rw[cells_single hzv]at this;simpa using this.symm
  match c2,h2 with
  |[u],_=>simp[dX]
  |[],h2=>simp at h2;omega
  |_::_::_,h2=>simp at h2;omega
end
mutual
def CV.eqv :CV→CV→Bool
 | .bool a,.bool b=>a==b
 | .int _ a,.int _ b=>a==b
 | .str a,.str b=>a==b
 | .agg l,.agg l'=>CV.eqvL l l'
 |_,_=>false
def CV.eqvL :List CV→List CV→Bool
 |[],[]=>true
 |a::as,b::bs=>a.eqv b&&CV.eqvL as bs
 |_,_=>false
end
def xL (P:Program):Nat→TypeId→Bool
 |0,_=>false
 |n+1,t=>
  match P.underlying t with
  |some .bool|some (.int _)|some .string=>true
  |some (.array _ e)=>xL P n e
  |some (.struct fs)=>(fs.toList.all fun f=>f.name != "_" &&xL P n f.type)&&!P.stoodInHeld t
  |_=>false
def aB7 (P:Program)(t:TypeId):Bool:=xL P 8 t&&!P.eqGuardType P.depth t
mutual
def CV.ofTy (P:Program):Nat→TypeId→CV→Bool
 |0,_,_=>false
 |n+1,t,v=>
  match aP P t with
  |none=>false
  |some ti=>match ti.d,v with
   | .bool,.bool _=>true
   | .int q,.int q' _=>q'==q
   | .string,.str _=>true
   | .array m e,.agg l=>l.length==m&&l.all (fun v=>v.cells==P.cellsOf e)&&CV.ofTyA P n e l
   | .struct fs,.agg l=>CV.ofTyF P n fs l
   |_,_=>false
def CV.ofTyA (P:Program):Nat→TypeId→List CV→Bool
 |_,_,[]=>true
 |n,e,v::vs=>CV.ofTy P n e v&&CV.ofTyA P n e vs
def CV.ofTyF (P:Program):Nat→List (Nat×TypeId)→List CV→Bool
 |_,[],[]=>true
 |n,f::fs,v::vs=>CV.ofTy P n f.2 v&&v.cells==P.cellsOf f.2&&CV.ofTyF P n fs vs
 |_,_,_=>false
end
section
variable {P:Program}{w:World}{O:Nat→Prop}
def EqC (P:Program)(d n:Nat)(t:TypeId):Prop:=
 ∀(w:World) (O O':Nat→Prop) (x y:CV) (xs ys:List Value),CV.ofTy P n t x=true→CV.ofTy P n t y=true→RepC w O x xs→RepC w O' y ys→
  (Op.equalIn (d+n) t (dX x.isAgg xs) (dX y.isAgg ys)).run P w= .ok (x.eqv y) w∧x.isAgg=y.isAgg
theorem rU {n:Nat}{t:TypeId}{v:CV}{ti:TyI}{i:TypeInfo}{d:TypeDesc}{zv:Value}(ht:aP P t=some ti)(_:TyOk P t ti i d zv)(h:CV.ofTy P n t v=true):v.isAgg=ti.d.isAgg:=by
 cases n with
 |zero=>simp[CV.ofTy]at h
 |succ n=>
  grind[CV.ofTy,TyD.isAgg,CV.isAgg]
theorem aB8 (d n:Nat){e:TypeId}(hE:EqC P d n e){te:TyI}{ie:TypeInfo}{de:TypeDesc}{zve:Value}(hte:aP P e=some te)(htye:TyOk P e te ie de zve)
  (w:World) (O O':Nat→Prop): ∀(l l':List CV) (k:Nat) (px sx py sy:List Value),CV.ofTyA P n e l=true→CV.ofTyA P n e l'=true→(∀v∈l,v.cells=te.size)→(∀v∈l',v.cells=te.size)→l.length=l'.length→
   px.length=k*te.size→py.length=k*te.size→RepL w O l sx→RepL w O' l' sy→
   (Op.eqItems (d+n) e te.size (px++sx).toArray (py++sy).toArray (List.range' k l.length)).run P w= .ok (CV.eqvL l l') w
 |[],[],k,px,sx,py,sy,_,_,_,_,_,_,_,_,_=>by simp[Op.eqItems,CV.eqvL]
 |v::vs,u::us,k,px,sx,py,sy,h1,h2,c1,c2,hl,e1,e2,r1,r2=>by
  simp only[CV.ofTyA,Bool.and_eq_true]at h1 h2;simp only[RepL]at r1 r2;obtain⟨a1,a2,rfl,r1,r1'⟩:=r1;obtain⟨b1,b2,rfl,r2,r2'⟩:=r2;have la:a1.length=te.size:=by rw[bG r1];exact c1 v (by simp)
  have lb:b1.length=te.size:=by rw[bG r2];exact c2 u (by simp)
  have ga:=rU hte htye h1.1;have gb:=rU hte htye h2.1;obtain⟨hr,_⟩:=hE w O O' v u a1 b1 h1.1 h2.1 r1 r2;have pa:=jZ (w:=w) htye px a1 a2 la;have pb:=jZ (w:=w) htye py b1 b2 lb;rw[List.append_assoc]at pa pb;rw[e1]at pa;rw[e2]at pb;have ih:=aB8 d n hE hte htye w O O' vs us (k+1) (px++a1) a2 (py++b1) b2 h1.2 h2.2 (fun x hx=>c1 x (by simp[hx])) (fun x hx=>c2 x (by simp[hx])) (by grind)
   (by grind) (by grind) r1' r2'
  simp only[List.append_assoc]at ih;rw[ga,gb]at hr;simp only[List.length_cons,List.range'_succ,Op.eqItems,Sem.run_bind,pa,pb,hr,Result.andThen_ok,CV.eqvL];cases v.eqv u with
  |true=>simpa using ih
  |false=>simp
 |[],_::_,_,_,_,_,_,_,_,_,_,hl,_,_,_,_=>by grind
 |_::_,[],_,_,_,_,_,_,_,_,_,hl,_,_,_,_=>by grind
theorem xM (d n:Nat)(w:World)(O O':Nat→Prop): ∀(gs:List Field) (l l':List CV) (px sx py sy:List Value) (zs:List CV),(∀f∈gs,f.name≠ "_" ∧EqC P d n f.type∧(aP P f.type).isSome=true)→
   CV.ofTyF P n (gs.map fun f=>(f.offset,f.type)) l=true→CV.ofTyF P n (gs.map fun f=>(f.offset,f.type)) l'=true→
   aH5 P (gs.map fun f=>(f.offset,f.type)) zs px.length=true→px.length=py.length→RepL w O l sx→RepL w O' l' sy→
   (Op.eqFields (d+n) (px++sx).toArray (py++sy).toArray gs).run P w= .ok (CV.eqvL l l') w
 |[],[],[],px,sx,py,sy,zs,_,_,_,_,_,_,_=>by simp[Op.eqFields,CV.eqvL]
 |f::gs,v::vs,u::us,px,sx,py,sy,zs,hE,h1,h2,hlay,hp,r1,r2=>by
  simp only[List.map_cons,CV.ofTyF,Bool.and_eq_true,beq_iff_eq]at h1 h2;cases zs with
  |nil=>simp[aH5]at hlay
  |cons z zs=>
   simp only[List.map_cons,aH5,Bool.and_eq_true,beq_iff_eq]at hlay;obtain⟨⟨⟨o1,o2⟩,o3⟩,o4⟩:=hlay;obtain⟨hname,hEf,hsome⟩:=hE f (by simp);obtain⟨te,hte⟩:=Option.isSome_iff_exists.1 hsome;obtain⟨ie,de,zve,htye⟩:=bB hte;have hco:P.cellsOf f.type=te.size:=by simp[Program.cellsOf,htye.info,htye.size]
   simp only[RepL]at r1 r2;obtain⟨a1,a2,rfl,r1,r1'⟩:=r1;obtain⟨b1,b2,rfl,r2,r2'⟩:=r2;have la:a1.length=te.size:=by rw[bG r1,h1.1.2,hco]
   have lb:b1.length=te.size:=by rw[bG r2,h2.1.2,hco]
   have ga:=rU hte htye h1.1.1;have gb:=rU hte htye h2.1.1;obtain⟨hr,_⟩:=hEf w O O' v u a1 b1 h1.1.1 h2.1.1 r1 r2;have pa:=jZ (w:=w) htye px a1 a2 la;have pb:=jZ (w:=w) htye py b1 b2 lb;rw[List.append_assoc,←o1]at pa;rw[List.append_assoc,←hp,←o1]at pb;have ih:=xM d n w O O' gs vs us (px++a1) a2 (py++b1) b2 zs (fun x hx=>hE x (by simp[hx])) h1.2 h2.2 (by rw[List.length_append,la,←hco,o3];exact o4) (by simp[hp,la,lb]) r1' r2';simp only[List.append_assoc]at ih;rw[ga,gb]at hr;simp only[Op.eqFields,hname,ne_eq,not_false_eq_true,if_true,Sem.run_bind,pa,pb,hr,Result.andThen_ok,CV.eqvL];cases v.eqv u with
   |true=>simpa using ih
   |false=>simp
 |[],_::_,_,_,_,_,_,_,_,h1,_,_,_,_,_=>by simp[CV.ofTyF]at h1
 |[],[],_::_,_,_,_,_,_,_,_,h2,_,_,_,_=>by simp[CV.ofTyF]at h2
 |_::_,[],_,_,_,_,_,_,_,h1,_,_,_,_,_=>by simp[CV.ofTyF]at h1
 |_::_,_::_,[],_,_,_,_,_,_,_,h2,_,_,_,_=>by simp[CV.ofTyF]at h2
theorem bC5 (a b:List UInt8):((⟨a.toArray⟩:ByteArray).toList==(⟨b.toArray⟩:ByteArray).toList)=(a==b):=by rw[ByteArray.toList_mk,ByteArray.toList_mk]
theorem xN {n:Nat}: ∀{fs:List (Nat×TypeId)} {l:List CV},CV.ofTyF P n fs l=true→ ∀f∈fs,(aP P f.2).isSome=true
 |[],_,_,f,hf=>by grind
 |g::fs,[],h,f,hf=>by simp[CV.ofTyF]at h
 |g::fs,v::vs,h,f,hf=>by
  simp only[CV.ofTyF,Bool.and_eq_true]at h;rcases List.mem_cons.1 hf with rfl|hf
  ·
   cases n with
   |zero=>grind[CV.ofTy]
   |succ n=>
    grind[CV.ofTy]
  · exact xN h.2 f hf
theorem aH8 (d:Nat): ∀(n:Nat) (t:TypeId),xL P n t=true→EqC P d n t
 |0,_,h=>by simp[xL]at h
 |n+1,t,hk=>by
  intro w O O' x y xs ys hx hy rx ry;unfold CV.ofTy at hx hy;cases ht:aP P t with
  |none=>rw[ht]at hx;cases hx
  |some ti=>
   rw[ht]at hx hy;simp only at hx hy;obtain⟨i,de,zv,hty⟩:=bB ht;have hdd:=hty.d_;have hu:=hty.under;have hlay:=hty.lay_;split at hx
   ·
    rename_i b h1;rw[h1]at hy hdd;cases y<;>simp at hy;rename_i b';simp only[RepC]at rx ry;subst rx;subst ry;have hu':P.underlying t=some .bool:=by rw[hu];congr 1;cases de<;>simp[tyd]at hdd;rfl
    exact⟨by simp[dX,CV.isAgg,CV.eqv];exact run_equalIn_bool w (d+n) t b b' hu',rfl⟩
   ·
    rename_i q q' k h1;rw[h1]at hy hdd;cases y<;>simp at hy;rename_i q2 k2;simp only[RepC]at rx ry;simp only[beq_iff_eq]at hx;subst rx;subst ry;subst hx;subst hy;have hu':P.underlying t=some (.int q2):=by rw[hu];congr 1;cases de<;>simp[tyd]at hdd;rw[hdd]
    exact⟨by simp[dX,CV.isAgg,CV.eqv,Op.equalIn,run_underlying hu'],rfl⟩
   ·
    rename_i s h1;rw[h1]at hy hdd;cases y<;>simp at hy;rename_i s';simp only[RepC]at rx ry;subst rx;subst ry;have hu':P.underlying t=some .string:=by rw[hu];congr 1;cases de<;>simp[tyd]at hdd;rfl
    have:=run_equalIn_string (P:=P) w (d+n) t ⟨s.toArray⟩ ⟨s'.toArray⟩ hu';rw[bC5]at this;exact⟨by rw[←Nat.add_assoc];simpa[dX,CV.isAgg,CV.eqv]using this,rfl⟩
   ·
    rename_i m e l h1;rw[h1]at hy hdd hlay;cases y<;>simp at hy;rename_i l';simp only[Bool.and_eq_true,beq_iff_eq,List.all_eq_true]at hx;have hu':P.underlying t=some (.array m e):=by rw[hu];congr 1;cases de<;>simp[tyd]at hdd;rw[hdd.1,hdd.2]
    simp only[xL,hu']at hk;simp only[RepC]at rx ry;by_cases hm:m=0
    ·
     subst hm;have hl0:l=[]:=List.eq_nil_of_length_eq_zero hx.1.1;have hl0':l'=[]:=List.eq_nil_of_length_eq_zero hy.1.1;subst hl0;subst hl0';exfalso;have hz:=hty.zsize;cases hzz:ti.z with
     |agg zs=>
      rw[hzz]at hlay;simp only[lay,Bool.and_eq_true,beq_iff_eq]at hlay;have:zs=[]:=List.eq_nil_of_length_eq_zero hlay.1;subst this;have hr:=hty.rep w O;rw[hzz]at hr;simp only[RepC,RepL]at hr;have hp:=hty.pos;have:zv.cells.size=0:=by simpa using congrArg List.length hr
      omega
     |_=>rw[hzz]at hlay;simp[lay]at hlay
    ·
     have hne:l≠[]:=fun e=>by rw[e]at hx;simp at hx;omega
     have hsome:(aP P e).isSome=true:=by
      cases l with
      |nil=>exact absurd rfl hne
      |cons v vs=>
       have:=hx.2;simp only[CV.ofTyA,Bool.and_eq_true]at this;cases n with
       |zero=>have:=this.1;simp[CV.ofTy]at this
       |succ n=>
        have:=this.1;unfold CV.ofTy at this;split at this
        · cases this
        · rename_i h1;rw[h1];rfl
     obtain⟨te,hte⟩:=Option.isSome_iff_exists.1 hsome;obtain⟨ie,de',zve,htye⟩:=bB hte;have hco:P.cellsOf e=te.size:=by simp[Program.cellsOf,htye.info,htye.size]
     have:=aB8 d n (aH8 d n e hk) hte htye w O O' l l' 0 [] xs [] ys hx.2 hy.2 (fun v hv=>by rw[hx.1.2 v hv,hco]) (fun v hv=>by rw[hy.1.2 v hv,hco]) (by rw[hx.1.1,hy.1.1]) (by simp) (by simp) rx ry;refine⟨?_,rfl⟩;rw[←Nat.add_assoc];simp only[dX,CV.isAgg,if_true,CV.eqv];rw[run_equalIn_array w (d+n) xs.toArray ys.toArray hu' htye.info,hco,List.range_eq_range',←hx.1.1];simpa using this
   ·
    rename_i fs l h1;rw[h1]at hy hdd hlay;cases y<;>simp at hy;rename_i l';have hgs: ∃gs,P.underlying t=some (.struct gs)∧fs=gs.toList.map fun f=>(f.offset,f.type):=by
     cases de<;>simp[tyd]at hdd;exact⟨_,hu,hdd.symm⟩
    obtain⟨gs,hu',rfl⟩:=hgs;simp only[xL,hu',Bool.and_eq_true,List.all_eq_true,bne_iff_ne,Bool.not_eq_true']at hk;simp only[RepC]at rx ry;have hfo:P.fieldsOf t=gs:=by simp[Program.fieldsOf,hu']
    cases hzz:ti.z with
    |agg zs=>
     rw[hzz]at hlay;simp only[lay]at hlay;have:=xM d n w O O' gs.toList l l' [] xs [] ys zs (fun f hf=>⟨(hk.1 f hf).1,aH8 d n f.type (hk.1 f hf).2,xN hx (f.offset,f.type) (by exact List.mem_map.2 ⟨f,hf,rfl⟩)⟩) hx hy (by simpa using hlay) rfl rx ry;refine⟨?_,rfl⟩;rw[←Nat.add_assoc];simp only[dX,CV.isAgg,if_true,CV.eqv];rw[run_equalIn_struct w (d+n) t xs.toArray ys.toArray (by rw[hfo];exact hu') hk.2,hfo];simpa using this
    |_=>rw[hzz]at hlay;simp[lay]at hlay
   · cases hx
end
theorem fM {w:World}{O:Nat→Prop}{sz:Nat}: ∀{l:List CV} {xs:List Value} (k:Nat),RepL w O l xs→(∀v∈l,v.cells=sz)→RepL w O (l.take k) (xs.take (k*sz))
 |l,xs,0,_,_=>by simp[RepL]
 |[],xs,k+1,h,_=>by grind[RepL]
 |v::l,xs,k+1,h,hc=>by
  simp only[RepL]at h;obtain⟨c1,c2,rfl,h1,h2⟩:=h;have e1:c1.length=sz:=by rw[bG h1];exact hc v (by simp)
  simp only[List.take_succ_cons,RepL];refine⟨c1,c2.take (k*sz),?_,h1,fM k h2 (fun u hu=>hc u (by grind))⟩;grind[List.take_append,List.take_of_length_le,Nat.succ_mul]
theorem iF {w:World}{O:Nat→Prop}{sz:Nat}: ∀{l:List CV} {xs:List Value} (k:Nat),RepL w O l xs→(∀v∈l,v.cells=sz)→RepL w O (l.drop k) (xs.drop (k*sz))
 |l,xs,0,h,_=>by grind
 |[],xs,k+1,h,_=>by grind[RepL]
 |v::l,xs,k+1,h,hc=>by
  simp only[RepL]at h;obtain⟨c1,c2,rfl,h1,h2⟩:=h;have e1:c1.length=sz:=by rw[bG h1];exact hc v (by simp)
  simp only[List.drop_succ_cons];have:=iF k h2 (fun u hu=>hc u (by grind));simp_all[List.drop,List.drop_append,List.drop_of_length_le,Nat.succ_mul,List.nil_append]
section
variable {P:Program}{c:Ctx}{M M':Nat→Prop}{fr:Fr}{ob:Ob}{a:Act}{w w':World}{ρ:Env}
theorem RepA'.rehdrO {d:Option Nat}{id0 n':Nat}{o:HO}{v':Value}
  (h:RepA' c M fr ob a w ρ) (hM: ∀i,M i→M' i) (hM':M' id0) (hold:(¬M id0)∨ ∃h0,ρ id0=some (.hdr h0)∧hlen h0<hlen v')
  (e1:w'.os=w.os) (e2:w'.tape=w.tape) (e3:w'.output=w.output) (e4:w.heap.size≤w'.heap.size)
  (hb: ∀b,b<w.heap.size→(∀L,ρ id0=some L→ ¬L.has b)→w'.heap[b]? =w.heap[b]?)
  (hv: ∀g,v'.ownBlock=some g→w.heap.size≤g∨ ∃L,ρ id0=some L∧L.has g)
  (hv1:v'.oneCell'=true) (hn:hlen v'=n')
  (hO:Stay w (Owned ρ c.X) w' (Owned (upd ρ id0 (some (.hdr v'))) c.X)→RepO w' (upd ρ id0 (some (.hdr v'))) (Owned (upd ρ id0 (some (.hdr v'))) c.X) id0 o) (hom:o.men M')
  (hd: ∀k,d=some k→k<c.n):
  RepA' c M' (updo fr d (.own id0 n')) (upd ob id0 (some o)) (a.put d v') w' (upd ρ id0 (some (.hdr v'))):=by
 have hown: ∀b,Own (upd ρ id0 (some (.hdr v'))) b→Own ρ b∨w.heap.size≤b:=by
  rintro b ⟨id,L',h1,h2⟩;by_cases e:id=id0
  ·
   subst e;rw[aT]at h1;cases h1;rcases hv b h2 with h|⟨L,h3,h4⟩
   · exact .inr h
   · exact .inl ⟨id,L,h3,h4⟩
  · rw[aY _ _ e]at h1;exact .inl ⟨id,L',h1,h2⟩
 have hs:Stay2 w (Own ρ) w' (Own (upd ρ id0 (some (.hdr v')))):=
  ⟨fun b hb' hO=>hb b hb' (fun L h1 h2=>hO ⟨id0,L,h1,h2⟩),hown,e4,e1,e2,e3⟩
 have hmv:Moves M ρ (upd ρ id0 (some (.hdr v'))):=by
  intro id L' hm h1;by_cases e:id=id0
  ·
   subst e;rw[aT]at h1;cases h1;rcases hold with h2|⟨h0,h2,h3⟩
   · exact absurd hm h2
   · exact⟨_,h2,.inr (.inl ⟨h0,v',rfl,rfl,h3⟩)⟩
  · rw[aY _ _ e]at h1;exact⟨L',h1,.inl rfl⟩
 refine h.step hM hs hmv ⟨fun id o' ho'=>?_,fun id hid=>?_,?_,?_⟩ (.inr ?_) (by simpa[HV.men]using hM') (fun id o' ho'=>?_) hd
 ·
  by_cases e:id=id0
  · subst e;rw[aT]at ho';cases ho';exact hO (hs.stay c.X)
  · rw[aY _ _ e]at ho';refine RepO.stay (hs.stay c.X) hmv (h.mo id o' ho').2 (aY _ _ e) (fun L b h1 h2=>hb b (Owned.lt h.s h1 h2) (fun L' h3 h4=>?_)) (h.s.objs id o' ho');exact e (h.s.apart id id0 L L' b h1 h3 h2 h4)
 ·
  by_cases e:id=id0
  · subst e;rw[aT]at hid;cases hid
  · rw[aY _ _ e]at hid⊢;exact h.s.none id hid
 ·
  have key: ∀id' L2 b,id'≠id0→ρ id'=some L2→L2.has b→v'.ownBlock=some b→False:=by
   intro id' L2 b hne h2 h4 h3;have hlt':=Owned.lt h.s h2 h4;rcases hv b h3 with h5|⟨L,h5,h6⟩
   · omega
   · exact hne (h.s.apart id' id0 L2 L b h2 h5 h4 h6)
  intro id id' L1 L2 b h1 h2 h3 h4;by_cases e:id=id0<;>by_cases e':id'=id0
  · rw[e,e']
  · subst e;rw[aT]at h1;rw[aY _ _ e']at h2;cases h1;exact(key id' L2 b e' h2 h4 h3).elim
  · subst e';rw[aT]at h2;rw[aY _ _ e]at h1;cases h2;exact(key id L1 b e h1 h3 h4).elim
  · rw[aY _ _ e]at h1;rw[aY _ _ e']at h2;exact h.s.apart id id' L1 L2 b h1 h2 h3 h4
 ·
  intro id L' b h1 h2;by_cases e:id=id0
  ·
   subst e;rw[aT]at h1;cases h1;rcases hv b h2 with h5|⟨L,h5,h6⟩
   · exact fun hx=>absurd (Nat.lt_of_lt_of_le (h.xlt _ hx) h.base.size) (by omega)
   · exact h.s.xb id L b h5 h6
  · rw[aY _ _ e]at h1;exact h.s.xb id L' b h1 h2
 · refine dC ?_ rfl (gT hv1);simp only[RepH];refine⟨_,rfl,hv1,fun hd' hρ=>?_⟩;rw[aT]at hρ;cases hρ;exact⟨Nat.le_of_eq hn.symm,fun _=>rfl⟩
 ·
  by_cases e:id=id0
  · subst e;rw[aT]at ho';cases ho';exact⟨hM',hom⟩
  ·
   rw[aY _ _ e]at ho';obtain⟨h1,h2⟩:=h.mo id o' ho';refine⟨hM _ h1,?_⟩;cases o' with
   |box t v=>exact HV.men_mono hM h2
   |row _ _ _=>trivial
   |mp _ _ _=>trivial
   |dead=>trivial
   |tab _=>trivial
   |hrow _ _ _=>exact HV.menL_mono hM h2
   |raw _ _=>trivial
   |it _ _ _ _=>exact hM _ h2
theorem RepA'.rehdr {d:Option Nat}{id0 n' sz:Nat}{e:TypeId}{l':List CV}{v':Value}
  (h:RepA' c M fr ob a w ρ) (hM: ∀i,M i→M' i) (hM':M' id0) (hold:(¬M id0)∨ ∃h0,ρ id0=some (.hdr h0)∧hlen h0<hlen v')
  (e1:w'.os=w.os) (e2:w'.tape=w.tape) (e3:w'.output=w.output) (e4:w.heap.size≤w'.heap.size)
  (hb: ∀b,b<w.heap.size→(∀L,ρ id0=some L→ ¬L.has b)→w'.heap[b]? =w.heap[b]?)
  (hv: ∀g,v'.ownBlock=some g→w.heap.size≤g∨ ∃L,ρ id0=some L∧L.has g)
  (hv1:v'.oneCell'=true) (hn:hlen v'=n')
  (hO:Stay w (Owned ρ c.X) w' (Owned (upd ρ id0 (some (.hdr v'))) c.X)→RepO w' (upd ρ id0 (some (.hdr v'))) (Owned (upd ρ id0 (some (.hdr v'))) c.X) id0 (.row e sz l'))
  (hd: ∀k,d=some k→k<c.n):
  RepA' c M' (updo fr d (.own id0 n')) (upd ob id0 (some (.row e sz l'))) (a.put d v') w' (upd ρ id0 (some (.hdr v'))):=
 h.rehdrO hM hM' hold e1 e2 e3 e4 hb hv hv1 hn hO trivial hd
def hread (x:HV)(ob:Ob):Option (List CV):=
 match x with
 | .c (.slc l)=>some l
 | .c .nils=>some []
 | .own id n=>match ob id with
  |some (.row _ _ l)=>if n=l.length then some l else none
  |_=>none
 | .osl id n lo sz hi=>match ob id with
  |some (.row _ sz' l)=>if n=l.length∧0<n∧sz=sz'∧lo≤hi∧hi≤n then some ((l.drop lo).take (hi-lo))else none
  |some (.box _ (.c (.agg l)))=>if n=l.length∧lo≤hi∧hi≤n∧l.all (fun v=>v.cells==sz)=true then some ((l.drop lo).take (hi-lo))else none
  |_=>none
 |_=>none
theorem jE (h:RepA' c M fr ob a w ρ){x:Operand}{l:List CV}(hx:hread (ev fr x) ob=some l):
  ∃ad m cap xs,a.eval x= .slice ad m cap∧m=l.length∧RepL w (Owned ρ c.X) l xs∧(ad=none→m=0)∧(∀b,ad=some b→ ∀j u,xs[j]? =some u→w.cell? (b.add j)=some u)∧m≤cap∧(ad=none→cap=0):=by
 unfold hread at hx;split at hx
 · rename_i l' he;cases hx;obtain⟨ad,cap,xs,sz,h1,h2,h3,h4,h5,h6⟩:=aH6 h he;exact⟨ad,_,cap,xs,h1,rfl,h2,fun hn=>by grind,fun b hb=>(h6 b hb).1,h4,h5⟩
 · rename_i he;cases hx;exact⟨none,0,0,[],wV h he,rfl,by simp[RepL],fun _=>rfl,fun b hb=>(by grind),Nat.le_refl _,fun _=>rfl⟩
 ·
  rename_i id n he;split at hx
  ·
   rename_i t sz l' ho;split at hx
   ·
    rename_i hn;cases hx;obtain⟨hd,xs,h1,h2,h3,h4,h5,h6⟩:=mA h he ho hn;rcases h6.2 with⟨rfl,hz⟩|⟨g,cap,cur,rfl,hg0,hg,hcap,_⟩
    · have hxs:xs=[]:=List.eq_nil_of_length_eq_zero (by rw[h6.1,hz];simp);exact⟨none,0,0,xs,h2,by rw[←hn,hz],h4,fun _=>rfl,fun b hb=>(by grind),Nat.le_refl _,fun _=>rfl⟩
    · refine⟨some ⟨g,0,none⟩,n,cap,xs,h2,hn,h4,fun hb=>(by grind),fun b hb=>?_,hcap,fun hb=>(by grind)⟩;cases hb;exact h6.cells (g:=g) rfl
   grind
  grind
 ·
  rename_i id n lo sz hi he;split at hx
  ·
   rename_i t sz' l' ho;split at hx
   ·
    rename_i hc;obtain⟨hn,hn0,rfl,hlo,hhi⟩:=hc;cases hx;obtain⟨g,cap,xs,hρ,hev,hcap,hl2,hcs,how⟩:=rS h he ho hn hn0;have hlen':((l'.drop lo).take (hi-lo)).length=hi-lo:=by simp;omega
    have hcell:=how.cells (g:=g) rfl;refine⟨_,_,_,(xs.drop (lo*sz)).take ((hi-lo)*sz),hev,hlen'.symm,fM _ (iF _ hl2 hcs) (fun v hv=>hcs v (List.mem_of_mem_drop hv)),fun hb=>(by grind),fun b hb=>?_,by omega,fun hb=>(by grind)⟩;cases hb;intro j u hj;by_cases hce:cap=lo
    ·
     have:hi-lo=0:=by omega
     rw[this]at hj;simp at hj
    ·
     rw[if_neg hce];rw[List.getElem?_take]at hj;split at hj
     ·
      rw[List.getElem?_drop]at hj;have:=hcell _ _ hj;by_cases hj0:j=0
      ·
       subst hj0;by_cases hz:lo*sz=0
       · simpa[Addr.add,hz]using this
       · simpa[Addr.add,hz]using this
      · simpa[Addr.add,hj0,Nat.add_comm,Nat.add_left_comm]using this
     · cases hj
   grind
  ·
   rename_i T l' ho;split at hx
   ·
    rename_i hc;obtain⟨hn,hlo,hhi,hall⟩:=hc;cases hx;obtain⟨b,cs,hρ,hb,hcs⟩:=h.box ho;simp only[RepH,RepC]at hcs;have hr:=dI (h.ev x (by grind)) (by rw[he];rfl);rw[he]at hr;simp only[RepH]at hr;obtain⟨⟨y,hy,hy1,_,hy2⟩,_⟩:=hr;simp only[List.cons.injEq,and_true]at hy;have hev:a.eval x=_:=hy.trans (hy2 b hρ);have hcl: ∀v∈l',v.cells=sz:=fun v hv=>by grind
    have hlen':((l'.drop lo).take (hi-lo)).length=hi-lo:=by simp;omega
    refine⟨_,_,_,(cs.drop (lo*sz)).take ((hi-lo)*sz),hev,hlen'.symm,fM _ (iF _ hcs hcl) (fun v hv=>hcl v (List.mem_of_mem_drop hv)),fun hb=>(by grind),fun b' hb'=>?_,by omega,fun hb=>(by grind)⟩;cases hb';intro j u hj;by_cases hce:n=lo
    ·
     have:hi-lo=0:=by omega
     rw[this]at hj;simp at hj
    ·
     rw[if_neg hce];rw[List.getElem?_take]at hj;split at hj
     ·
      rw[List.getElem?_drop]at hj;by_cases hj0:j=0
      · subst hj0;simpa[World.cell?,Addr.add,hb]using hj
      · simpa[World.cell?,Addr.add,hb,hj0]using hj
     · cases hj
   grind
  grind
 grind
def happend (P:Program)(t:TypeId)(s x:HV)(nid:Nat)(ob:Ob)(K:HV→Ob→Prop):Prop:=
 hlift (aP P t) fun ti=>match ti.d with
  | .slice e=>hlift (aP P e) fun te=>hlift (hread x ob) fun l2=>(∀v∈l2,v.cells=te.size)∧
   match s with
   | .own id n=>match ob id with
    |some (.row e' sz l)=>(n=l.length∧e'=e∧sz=te.size)∧(l.length+l2.length)*te.bytes≤140737488355328∧l.length+l2.length≤maxLen∧K (.own id (l++l2).length) (upd ob id (some (.row e sz (l++l2))))
    |_=>False
   | .c .nils=>l2.length*te.bytes≤140737488355328∧l2.length≤maxLen∧K (.own nid l2.length) (upd ob nid (some (.row e te.size l2)))
   |_=>False
  |_=>False
theorem ownsRow_size {base:Nat}{e:TypeId}{sz n:Nat}{v:Value}{xs:List Value}(h:w.ownsRow base e sz v n xs):hlen v=n:=by
 rcases h.2 with⟨rfl,hz⟩|⟨g,cap,cur,rfl,_⟩
 all_goals grind[hlen]
theorem jT {t ty e:TypeId}{i:TypeInfo}{z:Value}(ht:P.underlying t=some (.slice e))(hi:P.info? e=some i)(hz:i.zero=some z)(hzs:z.cells.size=i.size)
  (v:Value) (n:Nat) (xs:List Value) (hown:w.ownsRow 0 e i.size v n xs) (ad:Option Addr) (m cp:Nat) (news:List Value) (hl:news.length=m*i.size) (hnone:ad=none→m=0)
  (hnews: ∀b,ad=some b→ ∀j u,news[j]? =some u→w.cell? (b.add j)=some u) (h1: ∀u∈news,u.oneCell'=true)
  (h63:n+m≤maxLen) (hbytes:(n+m)*i.bytes≤140737488355328):
  ∃v' w',(Builtin.append_ #[t,t] ty #[v,.slice ad m cp]).run P w= .ok v' w'∧w'.ownsRow 0 e i.size v' (n+m) (xs++news)∧w.grownBy w' v.ownBlock∧
   (v'.ownBlock=v.ownBlock∨v'.ownBlock=some w.heap.size)∧(m=0→v'=v∧w'=w):=by
 by_cases hm:m=0
 ·
  subst hm;have hn0:news=[]:=List.eq_nil_of_length_eq_zero (by grind);subst hn0;have hfc: ∀w:World,(Builtin.firstCells i.size 0 (.slice ad 0 cp)).run P w= .ok #[] w:=by
   intro w;cases ad<;>simp[Builtin.firstCells,loadCells,loadCellsFrom]
  refine⟨v,w,?_,by grind,⟨rfl,rfl,rfl,Nat.le_refl _,fun _ _ _=>rfl⟩,.inl rfl,fun _=>⟨rfl,rfl⟩⟩;rcases hown.2 with⟨rfl,rfl⟩|⟨g,cap,cur,rfl,_,hg,hnc,_⟩
  · simp[Builtin.append_,run_underlying ht,sizeOf,typeInfo,hi,Builtin.lenOf,hfc]
  · simp[Builtin.append_,run_underlying ht,sizeOf,typeInfo,hi,Builtin.lenOf,hfc,hnc,storeCells]
 ·
  cases ad with
  |none=>grind
  |some b=>
   have hnews:=hnews b rfl;have hlen:(xs++news).length=(n+m)*i.size:=by rw[List.length_append,hown.1,hl,Nat.add_mul]
   have hsmall:n+m≤9223372036854775807:=by simp only[maxLen]at h63;omega
   have grown: ∀(old:Nat),old<n+m→ ∀(row:Option Nat),
     (w.drew.alloc (.cells (xs.toArray++news.toArray++Builtin.zeroCells z.cells (grownCap w (n+m) old e-(n+m))) e)).ownsRow 0 e i.size
      (.slice (some ⟨w.heap.size,0,none⟩) (n+m) (grownCap w (n+m) old e)) (n+m) (xs++news)∧
     w.grownBy (w.drew.alloc (.cells (xs.toArray++news.toArray++Builtin.zeroCells z.cells (grownCap w (n+m) old e-(n+m))) e)) row:=by
    intro old _ row;have hge:=grownCap_ge w (n+m) old e;have hcm:grownCap w (n+m) old e≤maxLen:=grownCap_le_maxLen w (n+m) old e h63;refine⟨⟨hlen,.inr ⟨w.heap.size,_,_,rfl,Nat.zero_le _,heap_alloc_new w.drew _,hge,hcm,?_,?_⟩⟩,⟨rfl,rfl,rfl,by simp,fun k hk _=>Go.heap_alloc_old w.drew _ hk⟩⟩
    · simp only[Array.size_append,List.size_toArray,size_zeroCells,hzs,hown.1,hl,←Nat.add_mul];grind
    · grind
   rcases hown.2 with⟨rfl,rfl⟩|⟨g,cap,cur,rfl,hbg,hg,hnc,hcm,hcs,htake⟩
   · have hx:xs=[]:=List.eq_nil_of_length_eq_zero (by grind);subst hx;have hr:=run_append_nil (P:=P) w t ty e i z ht hi hz b m cp news hl hnews (by omega) (by omega) (by grind);have hgr:=grown 0 (by omega) (Value.ownBlock (.slice none 0 0));simp only[Nat.zero_add,List.nil_append,Array.empty_append]at hgr⊢;grind[Value.ownBlock,absurd]
   ·
    by_cases hroom:n+m≤cap
    ·
     have hfit:n*i.size+news.length≤cur.size:=by rw[hl,hcs,←Nat.add_mul];exact Nat.mul_le_mul_right _ hroom
     have hr:=run_append_room (P:=P) w t ty e i ht hi g n cap cur hg b m cp news hl hnews h1 hroom hfit;refine⟨_,_,hr,⟨hlen,.inr ⟨g,cap,_,rfl,hbg,setRow_heap w g cur _ e _ hg,hroom,hcm,?_,?_⟩⟩,⟨rfl,rfl,rfl,by simp,fun k _ hk=>setRow_other w g k _ (fun e=>hk (by simp[Value.ownBlock,e]))⟩,.inl (by simp[Value.ownBlock]),fun h=>absurd h hm⟩
     · simp only[List.size_toArray,List.length_append,List.length_take,List.length_drop,Array.length_toList];omega
     · rw[htake,←hlen];exact List.take_left
    · have holds: ∀j u,xs[j]? =some u→w.cell? ((⟨g,0,none⟩:Addr).add j)=some u:=hown.cells (g:=g) rfl;have hr:=run_append_grow (P:=P) w t ty e i z ht hi hz ⟨g,0,none⟩ n cap xs hown.1 holds b m cp news hl hnews (by omega) (by omega) (growslice_fits (by omega) hbytes);have hgr:=grown cap (by omega) (Value.ownBlock (.slice (some ⟨g,0,none⟩) n cap));exact⟨_,_,hr,hgr.1,hgr.2,.inr (by simp[Value.ownBlock]),fun h=>absurd h hm⟩
theorem dU {O:Nat→Prop}{sz:Nat}: ∀{l:List CV} {xs:List Value},RepL w O l xs→(∀v∈l,v.cells=sz)→xs.length=l.length*sz
 |[],xs,h,_=>by grind[RepL]
 |v::vs,xs,h,hc=>by
  simp only[RepL]at h;obtain⟨c1,c2,rfl,h1,h2⟩:=h;rw[List.length_append,bG h1,hc v (by simp),dU h2 (fun u hu=>hc u (by grind)),List.length_cons,Nat.add_mul];omega
theorem aH9 (h:RepA' c M fr ob a w ρ){nid:Nat}(hn: ¬M nid)(hM: ∀i,M i→M' i)(hM':M' nid){t ty:TypeId}{s x:Operand}{K:HV→Ob→Prop}
  (hl:happend P t (ev fr s) (ev fr x) nid ob K) (d:Option Nat) (hd: ∀k,d=some k→k<c.n):
  ∃v ob' y w' ρ',K v ob'∧(Builtin.append_ #[t,t] ty #[a.eval s,a.eval x]).run P w= .ok y w'∧RepA' c M' (updo fr d v) ob' (a.put d y) w' ρ':=by
 unfold happend at hl;rw[aC]at hl;obtain⟨ti,ht,hl⟩:=hl;obtain⟨i0,d0,zv0,hty⟩:=bB ht;split at hl
 ·
  rename_i e hde;rw[aC]at hl;obtain⟨te,hte,hl⟩:=hl;obtain⟨ie,de,zve,htye⟩:=bB hte;rw[aC]at hl;obtain⟨l2,hx,hc2,hl⟩:=hl;have hdd:=hty.d_;rw[hde]at hdd;have hu:P.underlying t=some (.slice e):=by
   rw[hty.under];congr 1;cases d0<;>simp[tyd]at hdd;rw[hdd]
  obtain⟨ad,m,cp,news,he,hm,hrl,hnone,hcells,_,_⟩:=jE h hx;have hnl:news.length=m*ie.size:=by rw[dU hrl hc2,hm,htye.size]
  have hzs:zve.cells.size=ie.size:=by rw[htye.zsize,htye.size]
  split at hl
  ·
   rename_i id n hs;split at hl
   ·
    rename_i e' sz l ho;obtain⟨⟨rfl,rfl,rfl⟩,hb,hmx,hK⟩:=hl;obtain⟨hdv,xs,hρ,hse,hlen,hl1,hcs,how⟩:=mA h hs ho rfl;rw[←htye.size]at how;obtain⟨v',w',hrun,how',hgr,hblk,hm0⟩:=jT (P:=P) (ty:=ty) hu htye.info htye.zero hzs hdv l.length xs how ad m cp news hnl hnone hcells (jK hrl) (by rw[hm];exact hmx) (by rw[hm,htye.bytes];exact hb);by_cases hmz:m=0
    ·
     obtain⟨hv',hw'⟩:=hm0 hmz;rw[hv',hw']at hrun;have hl2:l2=[]:=List.eq_nil_of_length_eq_zero (by rw[←hm];exact hmz);subst hl2;refine⟨_,_,_,_,ρ,hK,by rw[hse,he];exact hrun,?_⟩;have hob:upd ob id (some (.row e' te.size (l++[])))=ob:=by
      funext k;by_cases hk:k=id
      · subst hk;rw[aT,ho];simp
      · rw[aY _ _ hk]
     rw[hob];have hmen:HV.men M (.own id (l++[]).length):=by simpa[HV.men]using(h.mo id _ ho).1
     have hv2:RepV w ρ (Owned ρ c.X) (.own id (l++[]).length) hdv:=by
      refine dC ?_ rfl ?_
      ·
       simp only[RepH];refine⟨_,rfl,?_,fun hd' h1=>?_⟩
       · rcases how.2 with⟨rfl,_⟩|⟨g,cap,cur,rfl,_⟩<;>simp[Value.oneCell']
       · rw[hρ]at h1;cases h1;exact⟨by simp[hlen],fun _=>rfl⟩
      · rcases how.2 with⟨rfl,_⟩|⟨g,cap,cur,rfl,_⟩<;>simp[Value.isAgg']
     have:=h.value (d:=d) (.inr hv2) hmen hd;exact⟨this.s,this.f,fun t=>HV.men_mono hM (this.mf t),fun id o ho=>⟨hM _ (this.mo id o ho).1,by
      have h2:=(this.mo id o ho).2;cases o with
      |box t v=>exact HV.men_mono hM h2
      |row _ _ _=>trivial
      |mp _ _ _=>trivial
      |dead=>trivial
      |tab _=>trivial
      |hrow _ _ _=>exact HV.menL_mono hM h2
      |raw _ _=>trivial
      |it _ _ _ _=>exact hM _ h2⟩,fun id hid=>hM _ (this.m0 id hid),this.base,this.moves,this.defers,this.size,this.xlt⟩
    ·
     have hlv:Hl.hlen v'=l.length+m:=ownsRow_size how';refine⟨_,_,_,_,upd ρ id (some (.hdr v')),hK,by rw[hse,he];exact hrun,?_⟩;refine h.rehdr hM (hM _ (h.mo id _ ho).1) (.inr ⟨hdv,hρ,by omega⟩) hgr.os hgr.tape hgr.output hgr.size (fun b hb' hne=>hgr.block b hb' (fun e=>hne _ hρ (by simpa[Loc.has]using e.symm)))
      (fun g hg=>?_) ?_ (by rw[hlv,List.length_append,hm]) (fun hst=>?_) hd
     ·
      rcases hblk with hb2|hb2
      · exact .inr ⟨_,hρ,by simpa[Loc.has]using hb2.symm.trans hg⟩
      · rw[hb2]at hg;cases hg;exact .inl (Nat.le_refl _)
     · rcases how'.2 with⟨rfl,_⟩|⟨g,cap,cur,rfl,_⟩<;>simp[Value.oneCell']
     ·
      refine⟨v',xs++news,aT _ _ _,dY.2 ⟨xs,news,rfl,hl1.stay hst,hrl.stay hst⟩,fun v hv=>?_,?_⟩
      ·
       rcases List.mem_append.1 hv with hv|hv
       · exact hcs v hv
       · exact hc2 v hv
      · rw[List.length_append,←hm,←htye.size];exact how'
   · exact hl.elim
  ·
   rename_i hs;obtain⟨hb,hmx,hK⟩:=hl;obtain⟨v',w',hrun,how',hgr,hblk,hm0⟩:=jT (P:=P) (ty:=ty) hu htye.info htye.zero hzs (.slice none 0 0) 0 [] (World.ownsRow_nil w 0 e ie.size) ad m cp news hnl hnone hcells (jK hrl)
    (by rw[hm];simpa using hmx) (by rw[hm,htye.bytes];simpa using hb)
   have hlv:Hl.hlen v'=m:=by have:=ownsRow_size how';simpa using this
   obtain⟨hob0,hρ0⟩:=h.nid_none hn;refine⟨_,_,_,_,upd ρ nid (some (.hdr v')),hK,by rw[wV h hs,he];exact hrun,?_⟩;refine h.rehdr hM hM' (.inl hn) hgr.os hgr.tape hgr.output hgr.size (fun b hb' _=>hgr.block b hb' (by simp[Value.ownBlock]))
    (fun g hg=>?_) ?_ (by rw[hlv,hm]) (fun hst=>?_) hd
   ·
    rcases hblk with hb2|hb2
    · rw[hb2]at hg;simp[Value.ownBlock]at hg
    · rw[hb2]at hg;cases hg;exact .inl (Nat.le_refl _)
   · rcases how'.2 with⟨rfl,_⟩|⟨g,cap,cur,rfl,_⟩<;>simp[Value.oneCell']
   · refine⟨v',news,aT _ _ _,hrl.stay hst,hc2,?_⟩;rw[←hm,←htye.size];simpa using how'
  · exact hl.elim
 grind
end
end Go.Hl
