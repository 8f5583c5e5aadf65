/- HL, part J: numbers, strings, tests, slices of slices, tuples; the operations in one. By an AI agent. -/
import Derived.Lib.Strings
import Derived.Test.YthedbjfipmkpiaaGreatDoorHlF
set_option linter.unusedSimpArgs false
set_option linter.unusedVariables false
set_option linter.defProp false
namespace Go.Hl
open Go
theorem aW3 : ∀(l:List Value) (k off:Nat) (cells:Array Value),off+k+l.length≤cells.size→
  ((l.zipIdx k).foldl (fun cs (p:Value×Nat)=>cs.setIfInBounds (off+p.2) p.1) cells).toList=cells.toList.take (off+k)++l++cells.toList.drop (off+k+l.length)
 |[],k,off,cells,_=>by simp
 |v::vs,k,off,cells,h=>by
  simp only[A8]at h;have I:=aW3 vs (k+1) off (cells.setIfInBounds (off+k) v) (by grind);simp only[List.zipIdx_cons,AQ,I,Array.toList_setIfInBounds];have J:off+k<cells.toList.length:=by simp;omega
  rw[show off+(k+1)=(off+k)+1 from by omega,List.take_add_one];simp only[List.take_set,List.drop_set,A8];rw[B1 (by omega)];grind[List.set_eq_of_length_le,List.getElem?_set_self,Option.toList_some]
theorem pN (v:Array Value)(off:Nat)(cells:Array Value)(h:off+v.size≤cells.size):
  (v.zipIdx.foldl (fun cs (p:Value×Nat)=>cs.setIfInBounds (off+p.2) p.1) cells).toList=cells.toList.take off++v.toList++cells.toList.drop (off+v.size):=by
 have:=aW3 v.toList 0 off cells (by grind);grind[Array.toList_zipIdx]
def wM (l:List Nat):Nat:=l.foldr (· +·) 0
theorem zZ : ∀(l:List HV),HV.cellsL l=wM (l.map HV.cells)
 |[]=>rfl
 |v::vs=>by simp[HV.cellsL,wM,zZ vs]
theorem aW4 {w:World}{ρ:Env}{O:Nat→Prop}: ∀{l:List HV} {cs:List Value} {i:Nat} {v:HV},RepHL w ρ O l cs→l[i]? =some v→
  ∃J U c3,cs=J++U++c3∧J.length=wM ((l.map HV.cells).take i)∧U.length=v.cells∧ ∀u I,RepH w ρ O u I→RepHL w ρ O (l.set i u) (J++I++c3)
 |[],cs,i,v,h,hi=>by grind
 |x::xs,cs,0,v,h,hi=>by
  simp only[RepHL]at h;obtain⟨J,U,rfl,h1,h2⟩:=h;simp only[M1,E8]at hi;subst hi;exact⟨[],J,U,by simp,by simp[wM],bR h1,fun u I h'=>by grind[RepHL]⟩
 |x::xs,cs,i+1,v,h,hi=>by
  simp only[RepHL]at h;obtain⟨J,U,rfl,h1,h2⟩:=h;simp only[M2]at hi;obtain⟨d1,d2,d3,rfl,e1,e2,e3⟩:=aW4 h2 hi;grind[List.length_append,bR,wM,RepHL]
def hfill (e:Operand→HV):List (Nat×Operand)→List HV→Option (List HV)
 |[],hs=>some hs
 |(i,x)::ps,hs=>match hs[i]? with
  |some old=>if(e x).sto=true∧(e x).cells=old.cells then hfill e ps (hs.set i (e x))else none
  |none=>none
theorem aW5 : ∀{l:List HV} {i:Nat} {u:HV},HV.stoL l=true→u.sto=true→HV.stoL (l.set i u)=true
 |[],_,_,_,_=>rfl
 |x::xs,0,u,h,hu=>by simp_all[V1,HV.stoL,B3]
 |x::xs,i+1,u,h,hu=>by simp only[N8,HV.stoL,B3]at h⊢;exact⟨h.1,aW5 h.2 hu⟩
theorem aW6 {M:Nat→Prop}: ∀{l:List HV} {i:Nat} {u:HV},HV.menL M l→u.men M→HV.menL M (l.set i u)
 |[],_,_,_,_=>by grind
 |x::xs,0,u,h,hu=>by grind[HV.menL]
 |x::xs,i+1,u,h,hu=>by simp only[N8,HV.menL]at h⊢;exact⟨h.1,aW6 h.2 hu⟩
section
variable {P:Program}{c:Ctx}{M:Nat→Prop}{fr:Fr}{ob:Ob}{a:Act}{w:World}{ρ:Env}
theorem sS (h:RepA' c M fr ob a w ρ)(place:Nat→Option (Nat×Nat)): ∀(ps:List (Nat×Operand)) (hs J:List HV) (cells:Array Value),
  (∀i k,(hs.map HV.cells)[i]? =some k→place i=some (wM ((hs.map HV.cells).take i),k))→RepHL w ρ (Owned ρ c.X) hs cells.toList→HV.stoL hs=true→HV.menL M hs→hfill (ev fr) ps hs=some J→
  ∃I,Instr.fill place cells (ps.map fun p=>(p.1,a.eval p.2))=some I∧RepHL w ρ (Owned ρ c.X) J I.toList∧HV.stoL J=true∧HV.menL M J
 |[],hs,J,cells,_,hr,h1,h2,hf=>by simp only[hfill,E8]at hf;subst hf;exact⟨cells,rfl,hr,h1,h2⟩
 |(i,x)::ps,hs,J,cells,hpl,hr,h1,h2,hf=>by
  simp only[hfill]at hf;split at hf
  ·
   rename_i ab ho;split at hf
   ·
    rename_i hc;obtain⟨c1,c2,c3,U,e1,e2,e3⟩:=aW4 hr ho;have hv:=h.ev x (by grind[HV.sto]);have hlen:(a.eval x).cells.size=c2.length:=by
     have:=bR hv.1;rw[hc.2,←e2]at this;simpa using this
    have hp:place i=some (c1.length,ab.cells):=by grind
    have ad:(hs.set i (ev fr x)).map HV.cells=hs.map HV.cells:=by
     rw[R8,hc.2];apply V5;intro j;rw[CK];by_cases ae:i=j
     · grind
     · grind
    have aa:cells.size=c1.length+c2.length+c3.length:=by
     have:=congrArg List.length U;simpa[BV]using this
    obtain⟨I,f1,f2⟩:=sS h place ps (hs.set i (ev fr x)) J ((a.eval x).cells.zipIdx.foldl (fun cs (p:Value×Nat)=>cs.setIfInBounds (c1.length+p.2) p.1) cells)
     (by grind) (by
      rw[pN _ _ _ (by omega),U,hlen];have:=mR (l1:=c1) (l2:=c2) (l3:=c3) (x:=(a.eval x).cells.toList) (by grind);simp only[O5,hlen]at this;rw[this];exact e3 _ _ hv.1) (aW5 h1 hc.1) (aW6 h2 (h.evm x)) hf
    simp_all[B8,Instr.fill,A7,AD,N7,C4,not_or,CL]
   grind
  grind
def iU (ti:TyI)(parts:List (Nat×Operand))(e:Operand→HV)(K:HV→Prop):Prop:=
 match ti.z with
 | .agg zs=>hlift (hfill e parts (zs.map .c)) fun hs=>K (HV.norm (.agg hs))
 |_=>False
theorem aA0 : ∀{fs:List (Nat×TypeId)} {zs:List CV} {k:Nat},aQ4 P fs zs k=true→fs.length=zs.length∧ ∀i o t,fs[i]? =some (o,t)→ ∃z info,zs[i]? =some z∧P.info? t=some info∧info.size=z.cells∧o=k+wM ((zs.map CV.cells).take i)
 |[],[],_,_=>⟨rfl,by simp⟩
 |[],_::_,_,h=>by simp[aQ4]at h
 |_::_,[],_,h=>by simp[aQ4]at h
 |(o,t)::fs,z::zs,k,h=>by
  simp only[aQ4,B3,I6]at h;obtain⟨⟨⟨h1,I⟩,U⟩,h4⟩:=h;obtain⟨e1,e2⟩:=aA0 h4;refine⟨by simp[e1],fun i o' t' hi=>?_⟩;cases i with
  |zero=>
   simp only[M1,E8,Z7]at hi;obtain⟨rfl,rfl⟩:=hi;cases J:P.info? t with
   |none=>rw[J]at I;cases I
   |some info=>
    simp only[Program.cellsOf,J,I2,E9]at U;exact⟨z,info,rfl,rfl,U,by simp[wM,h1]⟩
  |succ i=>
   simp only[M2]at hi;obtain⟨z',info,f1,f2,f3,f4⟩:=e2 i o' t' hi;exact⟨z',info,by simpa using f1,f2,f3,by rw[f4];simp[wM];omega⟩
theorem aA1 {α:Type}(g:Field→Sem α)(v:Field→α)(w:World): ∀(fs:List Field),(∀f∈fs,(g f).run P w= .ok (v f) w)→(fs.mapM g).run P w= .ok (fs.map v) w
 |[],_=>by simp
 |f::fs,h=>by
  have I:=aA1 g v w fs (fun x hx=>h x (by grind));simp_all
theorem cellsHV_c (l:List CV):(l.map HV.c).map HV.cells=l.map CV.cells:=by grind[List.map_map,List.map_congr_left,HV.cells]
theorem aW7 (h:RepA' c M fr ob a w ρ){t:TypeId}{ti:TyI}(ht:aP P t=some ti){parts:Array (Nat×Operand)}{K:HV→Prop}(hl:iU ti parts.toList (ev fr) K):
  ∃u y,K u∧(Instr.build t (parts.map fun p=>(p.1,a.eval p.2))).run P w= .ok y w∧RepV w ρ (Owned ρ c.X) u y∧u.men M:=by
 obtain⟨i,d,zv,J⟩:=bF ht;unfold iU at hl;split at hl
 ·
  rename_i zs hz;rw[aD]at hl;obtain⟨hs,hf,hK⟩:=hl;have ad:RepHL w ρ (Owned ρ c.X) (zs.map .c) zv.cells.toList:=by
   rw[tV];have:=J.rep w (Owned ρ c.X);rw[hz]at this;simpa only[RepC]using this
  have hzero:(zeroValue t).run P w= .ok zv w:=by simp[zeroValue,typeInfo,J.info,J.zero]
  have ai:=J.dagg;rw[hz]at ai;have I:=J.lay_;rw[hz]at I;have hd:=J.d_;have hm:HV.menL M (zs.map .c):=HV.menL_c;cases aj:ti.d with
  |struct fs=>
   rw[aj]at hd I;cases d<;>simp[tyd]at hd;rename_i gs;simp only[lay]at I;obtain⟨hlen,an⟩:=aA0 I;have af: ∀f∈gs.toList,((do pure (f.offset,←sizeOf f.type)):Sem (Nat×Nat)).run P w= .ok (f.offset,P.cellsOf f.type) w:=by
    intro f aq;obtain⟨j,hj⟩:=List.getElem?_of_mem aq;obtain⟨z,info,_,h2,_,_⟩:=an j f.offset f.type (by rw[←hd,O1,hj];rfl);simp[bS h2,Program.cellsOf,h2]
   have ak:=aA1 (P:=P) (fun f=>(do pure (f.offset,←sizeOf f.type):Sem (Nat×Nat))) (fun f=>(f.offset,P.cellsOf f.type)) w gs.toList af;obtain⟨aa,f1,f2,f3,f4⟩:=sS h ((gs.toList.map fun f=>(f.offset,P.cellsOf f.type)).toArray[·]?) parts.toList (zs.map .c) hs zv.cells
    (fun j k hj=>by
     rw[cellsHV_c]at hj⊢;simp only[O1,C9]at hj;obtain⟨z,ab,rfl⟩:=hj;have ao:j<gs.toList.length:=by
      have h1:j<zs.length:=(H3.1 ab).1;rw[←hlen,←hd]at h1;simpa using h1
     have hg:gs.toList[j]? =some gs.toList[j]:=A9 ao;obtain⟨z2,info,g1,g2,g3,g4⟩:=an j (gs.toList[j]).offset (gs.toList[j]).type (by rw[←hd,O1,hg];rfl);rw[ab]at g1;cases g1;simp only[P1,O1,hg,I2,Program.cellsOf,g2,E9,g3,g4,F0]) ad HV.stoL_c hm hf
   refine⟨_,.agg aa,hK,?_,⟨HV.norm_rep (by simpa only[RepH,Value.cells]using f2),by rw[HV.norm_agg];rfl⟩,HV.norm_men (by simpa only[HV.men]using f4)⟩;unfold Instr.build;simp only[G6,hzero,E6,D4 (P:=P) (by rw[J.under]) w,U5,Sem.run_map,ak,U1];rw[show(parts.toList.map fun p=>(p.1,a.eval p.2))=(parts.toList.map fun p=>(p.1,a.eval p.2))from rfl,f1];rfl
  |array n e=>
   rw[aj]at hd I;cases d<;>simp[tyd]at hd;rename_i n' e';obtain⟨rfl,rfl⟩:=hd;simp only[lay,B3,I6,G5]at I;obtain⟨ar,ah⟩:=I;have ag: ∀(l:List CV) (j:Nat),(∀z∈l,z.cells=P.cellsOf e')→j≤l.length→wM ((l.map CV.cells).take j)=j*P.cellsOf e':=by
    intro l;induction l with
    |nil=>intro j _ hj;simp at hj;subst hj;simp[wM]
    |cons z zs ih=>
     intro j hz hj;cases j with
     |zero=>simp[wM]
     |succ j=>
      have:=ih j (fun z ab=>hz z (by simp[ab])) (by simpa using hj);simp only[B8,P8,wM,List.foldr_cons]at this⊢;rw[this,hz z (by simp),N0];omega
   by_cases U:(P.info? e').isSome=true
   ·
    cases hq:P.info? e' with
    |none=>rw[hq]at U;cases U
    |some info=>
     have ae:P.cellsOf e'=info.size:=by simp[Program.cellsOf,hq]
     obtain⟨aa,f1,f2,f3,f4⟩:=sS h (fun j=>some (j*info.size,info.size)) parts.toList (zs.map .c) hs zv.cells
      (fun j k hj=>by
       rw[cellsHV_c]at hj⊢;simp only[O1,C9]at hj;obtain⟨z,ab,rfl⟩:=hj;have h1:j<zs.length:=(H3.1 ab).1;rw[ag zs j ah (by omega),ae,ah z (T8 ab),ae]) ad HV.stoL_c hm hf
     refine⟨_,.agg aa,hK,?_,⟨HV.norm_rep (by simpa only[RepH,Value.cells]using f2),by rw[HV.norm_agg];rfl⟩,HV.norm_men (by simpa only[HV.men]using f4)⟩;unfold Instr.build;simp only[G6,hzero,E6,D4 (P:=P) (by rw[J.under]) w,bS hq,U1];rw[f1];rfl
   ·
    exfalso;have ae:P.cellsOf e'=0:=by
     cases hq:P.info? e' with
     |none=>simp[Program.cellsOf,hq]
     |some _=>rw[hq]at U;exact absurd rfl U
    have h1:=nK ad;rw[zZ,cellsHV_c]at h1;have h2:=ag zs zs.length ah (E3 _);rw[C8 (by simp)]at h2;rw[h2,ae]at h1;have h3:=J.zsize;have h4:=J.pos;simp at h1;rw[h1]at h3;simp at h3;omega
  |_=>rw[aj]at ai;simp[TyD.isAgg,CV.isAgg]at ai
 · exact hl.elim
theorem aA2 (sz:Nat): ∀(J:List Value) (k:Nat) (cells:Array Value),cells.size=(k+J.length)*sz→(∀v∈J,v.cells.size=sz)→
  ∃I,Instr.fill (fun i=>some (i*sz,sz)) cells ((J.zipIdx k).map fun p=>(p.2,p.1))=some I∧I.toList=cells.toList.take (k*sz)++(J.map fun v=>v.cells.toList).flatten
 |[],k,cells,hs,_=>⟨cells,rfl,by simp at hs;rw[C8 (by simp[hs])];simp⟩
 |v::J,k,cells,hs,hv=>by
  have U:=hv v (by simp);have hle:k*sz+v.cells.size≤cells.size:=by
   rw[hs,U,A8];have:(k+(J.length+1))*sz=k*sz+(J.length*sz+sz):=by rw[N0,N0];omega
   omega
  have hl:=pN v.cells (k*sz) cells hle;have aa:(v.cells.zipIdx.foldl (fun cs (p:Value×Nat)=>cs.setIfInBounds (k*sz+p.2) p.1) cells).size=cells.size:=by
   have:=congrArg List.length hl;simp only[O5,A3,E1,G8]at this;rw[this];omega
  obtain⟨I,h1,h2⟩:=aA2 sz J (k+1) _ (by rw[aa,hs];congr 1;simp;omega) (fun u hu=>hv u (by simp[hu]));refine⟨I,?_,?_⟩
  · simp only[List.zipIdx_cons,B8,Instr.fill];rw[A7 (by simp only[AD,N7,C4,not_or,CL];exact⟨U,by omega⟩)];exact h1
  ·
   rw[h2,hl];have e1:(k+1)*sz=(cells.toList.take (k*sz)++v.cells.toList).length:=by
    simp only[A3,E1,O5];rw[N0];omega
   rw[e1,X6 rfl];simp
def hclosed (e:Operand→HV):List (Nat×Operand)→Nat→Nat→Option (List CV)
 |[],_,_=>some []
 |(i,x)::ps,k,sz=>match(e x).toC with
  |some v=>if i=k∧v.cells=sz then(hclosed e ps (k+1) sz).map (v.denil::·)else none
  |_=>none
theorem tY (h:RepA' c M fr ob a w ρ){sz:Nat}: ∀(ps:List (Nat×Operand)) (k:Nat) (l:List CV),hclosed (ev fr) ps k sz=some l→
  ∃I:List Value,(ps.map fun p=>(p.1,a.eval p.2))=(I.zipIdx k).map (fun p=>(p.2,p.1))∧I.length=l.length∧ps.length=l.length∧(∀v∈I,v.cells.size=sz)∧(∀v∈l,v.cells=sz)∧RepL w (Owned ρ c.X) l (I.map fun v=>v.cells.toList).flatten
 |[],k,l,hl=>by simp only[hclosed,E8]at hl;subst hl;exact⟨[],by simp,rfl,rfl,by simp,by simp,by simp[RepL]⟩
 |(i,x)::ps,k,l,hl=>by
  simp only[hclosed]at hl;split at hl
  ·
   rename_i v hx;split at hl
   ·
    rename_i hc;obtain⟨rfl,U⟩:=hc;rw[C9]at hl;obtain⟨l',hl,rfl⟩:=hl;obtain⟨I,e1,e2,e3,e4,e5,e6⟩:=tY h ps (i+1) l' hl;have hv:=h.ev x (by intro e;rw[e]at hx;simp[HV.toC]at hx);have aa:=HV.toC_spec hx hv.1;have J:v.denil.cells=sz:=by rw[CV.denil_cells];exact U
    refine⟨a.eval x::I,by simp[e1],by simp[e2],by simp[e3],fun u hu=>?_,fun u hu=>?_,?_⟩
    ·
     rcases E0.1 hu with rfl|hu
     · have:=bK aa;rw[U]at this;simpa using this
     · exact e4 u hu
    ·
     rcases E0.1 hu with rfl|hu
     · exact J
     · exact e5 u hu
    · simp only[B8,S9,RepL];exact⟨_,_,rfl,CV.denil_rep aa,e6⟩
   · cases hl
  · cases hl
theorem wN {M':Nat→Prop}(h:RepA' c M fr ob a w ρ){nid:Nat}(hn: ¬M nid)(hM: ∀i,M i→M' i)(af:M' nid){t e:TypeId}{ti te:TyI}(ht:aP P t=some ti)(an:ti.d= .slice e)
  (ak:aP P e=some te) {parts:Array (Nat×Operand)} {len:Nat} {l:List CV} (hl:hclosed (ev fr) parts.toList 0 te.size=some l) (hlen:len=l.length) (hmax:len*te.size≤2^24)
  (d:Option Nat) (hd: ∀k,d=some k→k<c.n):
  ∃y w' ρ',(Instr.buildSlice t len (parts.map fun p=>(p.1,a.eval p.2))).run P w= .ok y w'∧RepA' c M' (updo fr d (.own nid len)) (upd ob nid (some (.row e te.size l))) (a.put d y) w' ρ':=by
 obtain⟨i,d',zv,ai⟩:=bF ht;obtain⟨ie,de,ad,aa⟩:=bF ak;have ah:=ai.d_;rw[an]at ah;have hu:P.underlying t=some (.slice e):=by
  rw[ai.under];congr 1;cases d'<;>simp[tyd]at ah;grind
 obtain⟨vs,e1,e2,e3,e4,e5,e6⟩:=tY h _ _ _ hl;have aj:=aa.pos;have key: ∀J:Array Value,J.size=len*te.size→ ∃I,Instr.fill (fun i=>some (i*te.size,te.size)) J (parts.map fun p=>(p.1,a.eval p.2)).toList=some I∧I.toList=(vs.map fun v=>v.cells.toList).flatten:=by
  intro J hc;obtain⟨I,h1,h2⟩:=aA2 te.size vs 0 J (by rw[hc,e2,hlen];simp) e4;exact⟨I,by rw[U1,e1];exact h1,by rw[h2];simp⟩
 have ag:(sizeOf e).run P w= .ok te.size w:=by rw[bS aa.info,aa.size]
 have hzero:(zeroValue e).run P w= .ok ad w:=by simp[zeroValue,typeInfo,aa.info,aa.zero]
 have aq: ∃I,(Instr.buildSlice t len (parts.map fun p=>(p.1,a.eval p.2))).run P w= .ok (.slice (some ⟨w.heap.size,0,none⟩) len len) (w.alloc (.cells I e))∧I.toList=(vs.map fun v=>v.cells.toList).flatten:=by
  by_cases h0:len*te.size=0
  · obtain⟨I,h1,h2⟩:=key ((Array.range (len*te.size)).map ((#[]:Array Value)[· %(#[]:Array Value).size]!)) (by simp);refine⟨I,?_,h2⟩;unfold Instr.buildSlice;simp only[G6,D4 hu,E6,ag];rw[A7 (by omega)];simp only[h0,G4,G6,I7,E6];rw[h0]at h1;rw[h1];simp[newRow]
  · obtain⟨I,h1,h2⟩:=key ((Array.range (len*te.size)).map (ad.cells[· %ad.cells.size]!)) (by simp);refine⟨I,?_,h2⟩;unfold Instr.buildSlice;simp only[G6,D4 hu,E6,ag];rw[A7 (by omega)];simp only[A7 h0,G6,hzero,I7,E6];rw[h1];simp[newRow]
 obtain⟨I,ae,U⟩:=aq;have au:=pK e6;refine⟨_,_,_,ae,h.newObj (w1:=w) (L:= .hdr (.slice (some ⟨w.heap.size,0,none⟩) len len)) hn hM af rfl rfl rfl rfl (fun b hb=>by simpa[Loc.has,Value.ownBlock]using hb.symm) (fun ao=>?_) trivial (.inr ?_) (by simpa[HV.men]using af) hd⟩
 ·
  have ab:I.toList.length=len*te.size:=by
   rw[U];have: ∀(vs:List Value),(∀v∈vs,v.cells.size=te.size)→((vs.map fun v=>v.cells.toList).flatten).length=vs.length*te.size:=by
    intro vs;induction vs with
    |nil=>simp
    |cons v vs ih=>
     intro hv;simp only[B8,S9,A3,A8,ih (fun u hu=>hv u (by simp[hu])),O5,hv v (by simp),N0];omega
   rw[this vs e4,e2,hlen]
  refine⟨_,_,aR _ _ _,e6.stay ao,e5,?_,.inr ⟨w.heap.size,len,I,by rw[hlen],I1 _,N4 w _,by omega,?_,by simpa using ab,?_⟩⟩
  · rw[←U,ab,hlen]
  · have:len≤len*te.size:=AF _ aj;unfold maxLen;omega
  · rw[C8 (by rw[ab,hlen];exact E3 _),U]
 · refine dD ?_ rfl rfl;simp only[RepH];refine⟨_,rfl,by simp[Value.oneCell'],fun ar hρ=>?_⟩;rw[aR]at hρ;cases hρ;exact⟨E3 _,fun _=>rfl⟩
end
section
variable {P:Program}{w:World}
theorem lJ {t:TypeId}{ti:TyI}{i:TypeInfo}{d:TypeDesc}{zv:Value}(I:TyOk P t ti i d zv)(c1 U c3:List Value)(J:U.length=ti.size):
  (part t (c1++U++c3).toArray c1.length).run P w= .ok (eN ti.d.isAgg U) w:=by
 have ha:(Go.isAgg t).run P w= .ok ti.d.isAgg w:=by rw[zW I.under,I.d_]
 simp only[part,G6,ha,E6];cases aa:ti.d.isAgg with
 |true=>
  simp only[G4,G6,bS I.info,E6,I7,eN];rw[I.size,←J];congr 2;simp[List.extract_eq_take_drop]
 |false=>
  have hz:ti.z.isAgg=false:=by rw[←I.dagg,aa]
  have h1:ti.size=1:=by
   have:=I.zsize;have ab:Value.isAgg' zv=false:=by rw[I.agg,hz]
   rw[cells_single ab]at this;simpa using this.symm
  match U,J with
  |[u],_=>simp[eN]
  |[],J=>simp at J;omega
  |_::_::_,J=>simp at J;omega
end
mutual
def CV.eqv :CV→CV→Bool
 | .bool a,.bool b=>a==b
 | .int _ a,.int _ b=>a==b
 | .str a,.str b=>a==b
 | .agg l,.agg l'=>CV.eqvL l l'
 |_,_=>false
def CV.eqvL :List CV→List CV→Bool
 |[],[]=>true
 |a::as,b::bs=>a.eqv b&&CV.eqvL as bs
 |_,_=>false
end
def aA3 (P:Program):Nat→TypeId→Bool
 |0,_=>false
 |n+1,t=>
  match P.underlying t with
  |some .bool|some (.int _)|some .string=>true
  |some (.array _ e)=>aA3 P n e
  |some (.struct fs)=>(fs.toList.all fun f=>f.name != "_" &&aA3 P n f.type)&&!P.stoodInHeld t
  |_=>false
def aJ9 (P:Program)(t:TypeId):Bool:=aA3 P 8 t&&!P.eqGuardType P.depth t
mutual
def CV.ofTy (P:Program):Nat→TypeId→CV→Bool
 |0,_,_=>false
 |n+1,t,v=>
  match aP P t with
  |none=>false
  |some ti=>match ti.d,v with
   | .bool,.bool _=>true
   | .int q,.int q' _=>q'==q
   | .string,.str _=>true
   | .array m e,.agg l=>l.length==m&&l.all (fun v=>v.cells==P.cellsOf e)&&CV.ofTyA P n e l
   | .struct fs,.agg l=>CV.ofTyF P n fs l
   |_,_=>false
def CV.ofTyA (P:Program):Nat→TypeId→List CV→Bool
 |_,_,[]=>true
 |n,e,v::vs=>CV.ofTy P n e v&&CV.ofTyA P n e vs
def CV.ofTyF (P:Program):Nat→List (Nat×TypeId)→List CV→Bool
 |_,[],[]=>true
 |n,f::fs,v::vs=>CV.ofTy P n f.2 v&&v.cells==P.cellsOf f.2&&CV.ofTyF P n fs vs
 |_,_,_=>false
end
section
variable {P:Program}{w:World}{O:Nat→Prop}
def EqC (P:Program)(d n:Nat)(t:TypeId):Prop:=
 ∀(w:World) (O O':Nat→Prop) (x y:CV) (xs ys:List Value),CV.ofTy P n t x=true→CV.ofTy P n t y=true→RepC w O x xs→RepC w O' y ys→
  (Op.equalIn (d+n) t (eN x.isAgg xs) (eN y.isAgg ys)).run P w= .ok (x.eqv y) w∧x.isAgg=y.isAgg
theorem tZ {n:Nat}{t:TypeId}{v:CV}{ti:TyI}{i:TypeInfo}{d:TypeDesc}{zv:Value}(I:aP P t=some ti)(_:TyOk P t ti i d zv)(h:CV.ofTy P n t v=true):v.isAgg=ti.d.isAgg:=by
 cases n with
 |zero=>simp[CV.ofTy]at h
 |succ n=>
  grind[CV.ofTy,TyD.isAgg,CV.isAgg]
theorem aK0 (d n:Nat){e:TypeId}(hE:EqC P d n e){J:TyI}{ie:TypeInfo}{de:TypeDesc}{aa:Value}(U:aP P e=some J)(I:TyOk P e J ie de aa)
  (w:World) (O O':Nat→Prop): ∀(l l':List CV) (k:Nat) (px sx py sy:List Value),CV.ofTyA P n e l=true→CV.ofTyA P n e l'=true→(∀v∈l,v.cells=J.size)→(∀v∈l',v.cells=J.size)→l.length=l'.length→
   px.length=k*J.size→py.length=k*J.size→RepL w O l sx→RepL w O' l' sy→
   (Op.eqItems (d+n) e J.size (px++sx).toArray (py++sy).toArray (List.range' k l.length)).run P w= .ok (CV.eqvL l l') w
 |[],[],k,px,sx,py,sy,_,_,_,_,_,_,_,_,_=>by simp[Op.eqItems,CV.eqvL]
 |v::vs,u::us,k,px,sx,py,sy,h1,h2,c1,c2,hl,e1,e2,r1,r2=>by
  simp only[CV.ofTyA,B3]at h1 h2;simp only[RepL]at r1 r2;obtain⟨a1,a2,rfl,r1,ad⟩:=r1;obtain⟨b1,b2,rfl,r2,ab⟩:=r2;have la:a1.length=J.size:=by rw[bK r1];exact c1 v (by simp)
  have lb:b1.length=J.size:=by rw[bK r2];exact c2 u (by simp)
  have ga:=tZ U I h1.1;have gb:=tZ U I h2.1;obtain⟨hr,_⟩:=hE w O O' v u a1 b1 h1.1 h2.1 r1 r2;have pa:=lJ (w:=w) I px a1 a2 la;have pb:=lJ (w:=w) I py b1 b2 lb;rw[H5]at pa pb;rw[e1]at pa;rw[e2]at pb;have ih:=aK0 d n hE U I w O O' vs us (k+1) (px++a1) a2 (py++b1) b2 h1.2 h2.2 (fun x hx=>c1 x (by simp[hx])) (fun x hx=>c2 x (by simp[hx])) (by grind)
   (by grind) (by grind) ad ab
  simp only[H5]at ih;rw[ga,gb]at hr;simp only[A8,U2,Op.eqItems,G6,pa,pb,hr,E6,CV.eqvL];cases v.eqv u with
  |true=>simpa using ih
  |false=>simp
 |[],_::_,_,_,_,_,_,_,_,_,_,hl,_,_,_,_=>by grind
 |_::_,[],_,_,_,_,_,_,_,_,_,hl,_,_,_,_=>by grind
theorem aA4 (d n:Nat)(w:World)(O O':Nat→Prop): ∀(gs:List Field) (l l':List CV) (px sx py sy:List Value) (zs:List CV),(∀f∈gs,f.name≠ "_" ∧EqC P d n f.type∧(aP P f.type).isSome=true)→
   CV.ofTyF P n (gs.map fun f=>(f.offset,f.type)) l=true→CV.ofTyF P n (gs.map fun f=>(f.offset,f.type)) l'=true→
   aQ4 P (gs.map fun f=>(f.offset,f.type)) zs px.length=true→px.length=py.length→RepL w O l sx→RepL w O' l' sy→
   (Op.eqFields (d+n) (px++sx).toArray (py++sy).toArray gs).run P w= .ok (CV.eqvL l l') w
 |[],[],[],px,sx,py,sy,zs,_,_,_,_,_,_,_=>by simp[Op.eqFields,CV.eqvL]
 |f::gs,v::vs,u::us,px,sx,py,sy,zs,hE,h1,h2,hlay,hp,r1,r2=>by
  simp only[B8,CV.ofTyF,B3,I6]at h1 h2;cases zs with
  |nil=>simp[aQ4]at hlay
  |cons z zs=>
   simp only[B8,aQ4,B3,I6]at hlay;obtain⟨⟨⟨o1,o2⟩,o3⟩,o4⟩:=hlay;obtain⟨hname,hEf,hsome⟩:=hE f (by simp);obtain⟨te,hte⟩:=G0.1 hsome;obtain⟨ie,de,zve,htye⟩:=bF hte;have hco:P.cellsOf f.type=te.size:=by simp[Program.cellsOf,htye.info,htye.size]
   simp only[RepL]at r1 r2;obtain⟨a1,a2,rfl,r1,r1'⟩:=r1;obtain⟨b1,b2,rfl,r2,r2'⟩:=r2;have la:a1.length=te.size:=by rw[bK r1,h1.1.2,hco]
   have lb:b1.length=te.size:=by rw[bK r2,h2.1.2,hco]
   have ga:=tZ hte htye h1.1.1;have gb:=tZ hte htye h2.1.1;obtain⟨hr,_⟩:=hEf w O O' v u a1 b1 h1.1.1 h2.1.1 r1 r2;have pa:=lJ (w:=w) htye px a1 a2 la;have pb:=lJ (w:=w) htye py b1 b2 lb;rw[H5,←o1]at pa;rw[H5,←hp,←o1]at pb;have ih:=aA4 d n w O O' gs vs us (px++a1) a2 (py++b1) b2 zs (fun x hx=>hE x (by simp[hx])) h1.2 h2.2 (by rw[A3,la,←hco,o3];exact o4) (by simp[hp,la,lb]) r1' r2';simp only[H5]at ih;rw[ga,gb]at hr;simp only[Op.eqFields,hname,AD,CM,G4,G6,pa,pb,hr,E6,CV.eqvL];cases v.eqv u with
   |true=>simpa using ih
   |false=>simp
 |[],_::_,_,_,_,_,_,_,_,h1,_,_,_,_,_=>by simp[CV.ofTyF]at h1
 |[],[],_::_,_,_,_,_,_,_,_,h2,_,_,_,_=>by simp[CV.ofTyF]at h2
 |_::_,[],_,_,_,_,_,_,_,h1,_,_,_,_,_=>by simp[CV.ofTyF]at h1
 |_::_,_::_,[],_,_,_,_,_,_,_,h2,_,_,_,_=>by simp[CV.ofTyF]at h2
theorem bN2 (a b:List UInt8):((⟨a.toArray⟩:ByteArray).toList==(⟨b.toArray⟩:ByteArray).toList)=(a==b):=by rw[U7,U7]
theorem aA5 {n:Nat}: ∀{fs:List (Nat×TypeId)} {l:List CV},CV.ofTyF P n fs l=true→ ∀f∈fs,(aP P f.2).isSome=true
 |[],_,_,f,hf=>by grind
 |g::fs,[],h,f,hf=>by simp[CV.ofTyF]at h
 |g::fs,v::vs,h,f,hf=>by
  simp only[CV.ofTyF,B3]at h;rcases E0.1 hf with rfl|hf
  ·
   cases n with
   |zero=>grind[CV.ofTy]
   |succ n=>
    grind[CV.ofTy]
  · exact aA5 h.2 f hf
theorem aQ7 (d:Nat): ∀(n:Nat) (t:TypeId),aA3 P n t=true→EqC P d n t
 |0,_,h=>by simp[aA3]at h
 |n+1,t,hk=>by
  intro w O O' x y xs ys hx hy rx ry;unfold CV.ofTy at hx hy;cases ht:aP P t with
  |none=>rw[ht]at hx;cases hx
  |some ti=>
   rw[ht]at hx hy;simp only at hx hy;obtain⟨i,de,zv,ad⟩:=bF ht;have J:=ad.d_;have hu:=ad.under;have I:=ad.lay_;split at hx
   ·
    rename_i b h1;rw[h1]at hy J;cases y<;>simp at hy;rename_i b';simp only[RepC]at rx ry;subst rx;subst ry;have U:P.underlying t=some .bool:=by rw[hu];congr 1;cases de<;>simp[tyd]at J;rfl
    exact⟨by simp[eN,CV.isAgg,CV.eqv];exact run_equalIn_bool w (d+n) t b b' U,rfl⟩
   ·
    rename_i q q' k h1;rw[h1]at hy J;cases y<;>simp at hy;rename_i q2 k2;simp only[RepC]at rx ry;simp only[I6]at hx;subst rx;subst ry;subst hx;subst hy;have U:P.underlying t=some (.int q2):=by rw[hu];congr 1;cases de<;>simp[tyd]at J;rw[J]
    exact⟨by simp[eN,CV.isAgg,CV.eqv,Op.equalIn,D4 U],rfl⟩
   ·
    rename_i s h1;rw[h1]at hy J;cases y<;>simp at hy;rename_i s';simp only[RepC]at rx ry;subst rx;subst ry;have U:P.underlying t=some .string:=by rw[hu];congr 1;cases de<;>simp[tyd]at J;rfl
    have:=run_equalIn_string (P:=P) w (d+n) t ⟨s.toArray⟩ ⟨s'.toArray⟩ U;rw[bN2]at this;exact⟨by rw[←Nat.add_assoc];simpa[eN,CV.isAgg,CV.eqv]using this,rfl⟩
   ·
    rename_i m e l h1;rw[h1]at hy J I;cases y<;>simp at hy;rename_i l';simp only[B3,I6,G5]at hx;have U:P.underlying t=some (.array m e):=by rw[hu];congr 1;cases de<;>simp[tyd]at J;rw[J.1,J.2]
    simp only[aA3,U]at hk;simp only[RepC]at rx ry;by_cases hm:m=0
    ·
     subst hm;have aj:l=[]:=D3 hx.1.1;have ai:l'=[]:=D3 hy.1.1;subst aj;subst ai;exfalso;have hz:=ad.zsize;cases ab:ti.z with
     |agg zs=>
      rw[ab]at I;simp only[lay,B3,I6]at I;have:zs=[]:=D3 I.1;subst this;have hr:=ad.rep w O;rw[ab]at hr;simp only[RepC,RepL]at hr;have hp:=ad.pos;have:zv.cells.size=0:=by simpa using congrArg List.length hr
      omega
     |_=>rw[ab]at I;simp[lay]at I
    ·
     have ak:l≠[]:=fun e=>by rw[e]at hx;simp at hx;omega
     have af:(aP P e).isSome=true:=by
      cases l with
      |nil=>exact absurd rfl ak
      |cons v vs=>
       have:=hx.2;simp only[CV.ofTyA,B3]at this;cases n with
       |zero=>have:=this.1;simp[CV.ofTy]at this
       |succ n=>
        have:=this.1;unfold CV.ofTy at this;split at this
        · cases this
        · rename_i h1;rw[h1];rfl
     obtain⟨te,ag⟩:=G0.1 af;obtain⟨ie,aq,ao,aa⟩:=bF ag;have ae:P.cellsOf e=te.size:=by simp[Program.cellsOf,aa.info,aa.size]
     have:=aK0 d n (aQ7 d n e hk) ag aa w O O' l l' 0 [] xs [] ys hx.2 hy.2 (fun v hv=>by rw[hx.1.2 v hv,ae]) (fun v hv=>by rw[hy.1.2 v hv,ae]) (by rw[hx.1.1,hy.1.1]) (by simp) (by simp) rx ry;refine⟨?_,rfl⟩;rw[←Nat.add_assoc];simp only[eN,CV.isAgg,G4,CV.eqv];rw[run_equalIn_array w (d+n) xs.toArray ys.toArray U aa.info,ae,Q3,←hx.1.1];simpa using this
   ·
    rename_i fs l h1;rw[h1]at hy J I;cases y<;>simp at hy;rename_i l';have an: ∃gs,P.underlying t=some (.struct gs)∧fs=gs.toList.map fun f=>(f.offset,f.type):=by
     cases de<;>simp[tyd]at J;exact⟨_,hu,J.symm⟩
    obtain⟨gs,U,rfl⟩:=an;simp only[aA3,U,B3,G5,R9,N1]at hk;simp only[RepC]at rx ry;have ah:P.fieldsOf t=gs:=by simp[Program.fieldsOf,U]
    cases ab:ti.z with
    |agg zs=>
     rw[ab]at I;simp only[lay]at I;have:=aA4 d n w O O' gs.toList l l' [] xs [] ys zs (fun f hf=>⟨(hk.1 f hf).1,aQ7 d n f.type (hk.1 f hf).2,aA5 hx (f.offset,f.type) (by exact H0.2 ⟨f,hf,rfl⟩)⟩) hx hy (by simpa using I) rfl rx ry;refine⟨?_,rfl⟩;rw[←Nat.add_assoc];simp only[eN,CV.isAgg,G4,CV.eqv];rw[run_equalIn_struct w (d+n) t xs.toArray ys.toArray (by rw[ah];exact U) hk.2,ah];simpa using this
    |_=>rw[ab]at I;simp[lay]at I
   · cases hx
end
theorem gK {w:World}{O:Nat→Prop}{sz:Nat}: ∀{l:List CV} {xs:List Value} (k:Nat),RepL w O l xs→(∀v∈l,v.cells=sz)→RepL w O (l.take k) (xs.take (k*sz))
 |l,xs,0,_,_=>by simp[RepL]
 |[],xs,k+1,h,_=>by grind[RepL]
 |v::l,xs,k+1,h,hc=>by
  simp only[RepL]at h;obtain⟨J,c2,rfl,I,U⟩:=h;have e1:J.length=sz:=by rw[bK I];exact hc v (by simp)
  simp only[P8,RepL];refine⟨J,c2.take (k*sz),?_,I,gK k U (fun u hu=>hc u (by grind))⟩;grind[List.take_append,List.take_of_length_le,Nat.succ_mul]
theorem jI {w:World}{O:Nat→Prop}{sz:Nat}: ∀{l:List CV} {xs:List Value} (k:Nat),RepL w O l xs→(∀v∈l,v.cells=sz)→RepL w O (l.drop k) (xs.drop (k*sz))
 |l,xs,0,h,_=>by grind
 |[],xs,k+1,h,_=>by grind[RepL]
 |v::l,xs,k+1,h,hc=>by
  simp only[RepL]at h;obtain⟨U,c2,rfl,I,J⟩:=h;have e1:U.length=sz:=by rw[bK I];exact hc v (by simp)
  simp only[Q7];have:=jI k J (fun u hu=>hc u (by grind));simp_all[List.drop,List.drop_append,List.drop_of_length_le,AN,J1]
section
variable {P:Program}{c:Ctx}{M M':Nat→Prop}{fr:Fr}{ob:Ob}{a:Act}{w w':World}{ρ:Env}
theorem RepA'.rehdrO {d:Option Nat}{I n':Nat}{o:HO}{v':Value}
  (h:RepA' c M fr ob a w ρ) (hM: ∀i,M i→M' i) (ab:M' I) (hold:(¬M I)∨ ∃h0,ρ I=some (.hdr h0)∧hlen h0<hlen v')
  (e1:w'.os=w.os) (e2:w'.tape=w.tape) (e3:w'.output=w.output) (e4:w.heap.size≤w'.heap.size)
  (hb: ∀b,b<w.heap.size→(∀L,ρ I=some L→ ¬L.has b)→w'.heap[b]? =w.heap[b]?)
  (hv: ∀g,v'.ownBlock=some g→w.heap.size≤g∨ ∃L,ρ I=some L∧L.has g)
  (ad:v'.oneCell'=true) (hn:hlen v'=n')
  (hO:Stay w (Owned ρ c.X) w' (Owned (upd ρ I (some (.hdr v'))) c.X)→RepO w' (upd ρ I (some (.hdr v'))) (Owned (upd ρ I (some (.hdr v'))) c.X) I o) (ah:o.men M')
  (hd: ∀k,d=some k→k<c.n):
  RepA' c M' (updo fr d (.own I n')) (upd ob I (some o)) (a.put d v') w' (upd ρ I (some (.hdr v'))):=by
 have af: ∀b,Own (upd ρ I (some (.hdr v'))) b→Own ρ b∨w.heap.size≤b:=by
  rintro b ⟨id,L',U,J⟩;by_cases e:id=I
  ·
   subst e;rw[aR]at U;cases U;rcases hv b J with h|⟨L,h3,h4⟩
   · exact .inr h
   · exact .inl ⟨id,L,h3,h4⟩
  · rw[bE _ _ e]at U;exact .inl ⟨id,L',U,J⟩
 have hs:Stay2 w (Own ρ) w' (Own (upd ρ I (some (.hdr v')))):=
  ⟨fun b ai hO=>hb b ai (fun L U J=>hO ⟨I,L,U,J⟩),af,e4,e1,e2,e3⟩
 have ae:Moves M ρ (upd ρ I (some (.hdr v'))):=by
  intro id L' hm U;by_cases e:id=I
  ·
   subst e;rw[aR]at U;cases U;rcases hold with J|⟨h0,J,h3⟩
   · exact absurd hm J
   · exact⟨_,J,.inr (.inl ⟨h0,v',rfl,rfl,h3⟩)⟩
  · rw[bE _ _ e]at U;exact⟨L',U,.inl rfl⟩
 refine h.step hM hs ae ⟨fun id o' aa=>?_,fun id hid=>?_,?_,?_⟩ (.inr ?_) (by simpa[HV.men]using ab) (fun id o' aa=>?_) hd
 ·
  by_cases e:id=I
  · subst e;rw[aR]at aa;cases aa;exact hO (hs.stay c.X)
  · rw[bE _ _ e]at aa;refine RepO.stay (hs.stay c.X) ae (h.mo id o' aa).2 (bE _ _ e) (fun L b U J=>hb b (Owned.lt h.s U J) (fun L' h3 h4=>?_)) (h.s.objs id o' aa);exact e (h.s.apart id I L L' b U h3 J h4)
 ·
  by_cases e:id=I
  · subst e;rw[aR]at hid;cases hid
  · rw[bE _ _ e]at hid⊢;exact h.s.none id hid
 ·
  have key: ∀id' L2 b,id'≠I→ρ id'=some L2→L2.has b→v'.ownBlock=some b→False:=by
   intro id' L2 b ag J h4 h3;have aj:=Owned.lt h.s J h4;rcases hv b h3 with h5|⟨L,h5,h6⟩
   · omega
   · exact ag (h.s.apart id' I L2 L b J h5 h4 h6)
  intro id id' L1 L2 b U J h3 h4;by_cases e:id=I<;>by_cases e':id'=I
  · rw[e,e']
  · subst e;rw[aR]at U;rw[bE _ _ e']at J;cases U;exact(key id' L2 b e' J h4 h3).elim
  · subst e';rw[aR]at J;rw[bE _ _ e]at U;cases J;exact(key id L1 b e U h3 h4).elim
  · rw[bE _ _ e]at U;rw[bE _ _ e']at J;exact h.s.apart id id' L1 L2 b U J h3 h4
 ·
  intro id L' b U J;by_cases e:id=I
  ·
   subst e;rw[aR]at U;cases U;rcases hv b J with h5|⟨L,h5,h6⟩
   · exact fun hx=>absurd (I0 (h.xlt _ hx) h.base.size) (by omega)
   · exact h.s.xb id L b h5 h6
  · rw[bE _ _ e]at U;exact h.s.xb id L' b U J
 · refine dD ?_ rfl (iX ad);simp only[RepH];refine⟨_,rfl,ad,fun ak hρ=>?_⟩;rw[aR]at hρ;cases hρ;exact⟨Nat.le_of_eq hn.symm,fun _=>rfl⟩
 ·
  by_cases e:id=I
  · subst e;rw[aR]at aa;cases aa;exact⟨ab,ah⟩
  ·
   rw[bE _ _ e]at aa;obtain⟨U,J⟩:=h.mo id o' aa;refine⟨hM _ U,?_⟩;cases o' with
   |box t v=>exact HV.men_mono hM J
   |row _ _ _=>trivial
   |mp _ _ _=>trivial
   |dead=>trivial
   |tab _=>trivial
   |hrow _ _ _=>exact HV.menL_mono hM J
   |raw _ _=>trivial
   |it _ _ _ _=>exact hM _ J
theorem RepA'.rehdr {d:Option Nat}{I n' sz:Nat}{e:TypeId}{l':List CV}{J:Value}
  (h:RepA' c M fr ob a w ρ) (hM: ∀i,M i→M' i) (U:M' I) (hold:(¬M I)∨ ∃h0,ρ I=some (.hdr h0)∧hlen h0<hlen J)
  (e1:w'.os=w.os) (e2:w'.tape=w.tape) (e3:w'.output=w.output) (e4:w.heap.size≤w'.heap.size)
  (hb: ∀b,b<w.heap.size→(∀L,ρ I=some L→ ¬L.has b)→w'.heap[b]? =w.heap[b]?)
  (hv: ∀g,J.ownBlock=some g→w.heap.size≤g∨ ∃L,ρ I=some L∧L.has g)
  (aa:J.oneCell'=true) (hn:hlen J=n')
  (hO:Stay w (Owned ρ c.X) w' (Owned (upd ρ I (some (.hdr J))) c.X)→RepO w' (upd ρ I (some (.hdr J))) (Owned (upd ρ I (some (.hdr J))) c.X) I (.row e sz l'))
  (hd: ∀k,d=some k→k<c.n):
  RepA' c M' (updo fr d (.own I n')) (upd ob I (some (.row e sz l'))) (a.put d J) w' (upd ρ I (some (.hdr J))):=
 h.rehdrO hM U hold e1 e2 e3 e4 hb hv aa hn hO trivial hd
def hread (x:HV)(ob:Ob):Option (List CV):=
 match x with
 | .c (.slc l)=>some l
 | .c .nils=>some []
 | .own id n=>match ob id with
  |some (.row _ _ l)=>if n=l.length then some l else none
  |_=>none
 | .osl id n lo sz hi=>match ob id with
  |some (.row _ sz' l)=>if n=l.length∧0<n∧sz=sz'∧lo≤hi∧hi≤n then some ((l.drop lo).take (hi-lo))else none
  |some (.box _ (.c (.agg l)))=>if n=l.length∧lo≤hi∧hi≤n∧l.all (fun v=>v.cells==sz)=true then some ((l.drop lo).take (hi-lo))else none
  |_=>none
 |_=>none
theorem kN (h:RepA' c M fr ob a w ρ){x:Operand}{l:List CV}(hx:hread (ev fr x) ob=some l):
  ∃ad m cap xs,a.eval x= .slice ad m cap∧m=l.length∧RepL w (Owned ρ c.X) l xs∧(ad=none→m=0)∧(∀b,ad=some b→ ∀j u,xs[j]? =some u→w.cell? (b.add j)=some u)∧m≤cap∧(ad=none→cap=0):=by
 unfold hread at hx;split at hx
 · rename_i l' he;cases hx;obtain⟨ad,cap,xs,sz,h1,h2,h3,h4,h5,h6⟩:=aQ5 h he;exact⟨ad,_,cap,xs,h1,rfl,h2,fun hn=>by grind,fun b I=>(h6 b I).1,h4,h5⟩
 · rename_i he;cases hx;exact⟨none,0,0,[],zI h he,rfl,by simp[RepL],fun _=>rfl,fun b I=>(by grind),Nat.le_refl _,fun _=>rfl⟩
 ·
  rename_i id n he;split at hx
  ·
   rename_i t sz l' ho;split at hx
   ·
    rename_i hn;cases hx;obtain⟨hd,xs,h1,h2,h3,h4,h5,h6⟩:=nN h he ho hn;rcases h6.2 with⟨rfl,hz⟩|⟨g,cap,cur,rfl,ay,hg,ae,_⟩
    · have aw:xs=[]:=D3 (by rw[h6.1,hz];simp);exact⟨none,0,0,xs,h2,by rw[←hn,hz],h4,fun _=>rfl,fun b I=>(by grind),Nat.le_refl _,fun _=>rfl⟩
    · refine⟨some ⟨g,0,none⟩,n,cap,xs,h2,hn,h4,fun I=>(by grind),fun b I=>?_,ae,fun I=>(by grind)⟩;cases I;exact h6.cells (g:=g) rfl
   grind
  grind
 ·
  rename_i id n lo sz hi he;split at hx
  ·
   rename_i t au l' ho;split at hx
   ·
    rename_i hc;obtain⟨hn,an,rfl,hlo,aj⟩:=hc;cases hx;obtain⟨g,cap,xs,hρ,ag,ae,ao,ab,how⟩:=tX h he ho hn an;have U:((l'.drop lo).take (hi-lo)).length=hi-lo:=by simp;omega
    have ah:=how.cells (g:=g) rfl;refine⟨_,_,_,(xs.drop (lo*sz)).take ((hi-lo)*sz),ag,U.symm,gK _ (jI _ ao ab) (fun v hv=>ab v (H8 hv)),fun I=>(by grind),fun b I=>?_,by omega,fun I=>(by grind)⟩;cases I;intro j u J;by_cases af:cap=lo
    ·
     have:hi-lo=0:=by omega
     rw[this]at J;simp at J
    ·
     rw[A7 af];rw[M3]at J;split at J
     ·
      rw[S1]at J;have:=ah _ _ J;by_cases aa:j=0
      ·
       subst aa;by_cases hz:lo*sz=0
       · simpa[Addr.add,hz]using this
       · simpa[Addr.add,hz]using this
      · simpa[Addr.add,aa,V6,CN]using this
     · cases J
   grind
  ·
   rename_i T l' ho;split at hx
   ·
    rename_i hc;obtain⟨hn,hlo,aj,ar⟩:=hc;cases hx;obtain⟨b,cs,hρ,I,ab⟩:=h.box ho;simp only[RepH,RepC]at ab;have hr:=dO (h.ev x (by grind)) (by rw[he];rfl);rw[he]at hr;simp only[RepH]at hr;obtain⟨⟨y,hy,ax,_,ak⟩,_⟩:=hr;simp only[F8,J9]at hy;have ag:a.eval x=_:=hy.trans (ak b hρ);have ai: ∀v∈l',v.cells=sz:=fun v hv=>by grind
    have U:((l'.drop lo).take (hi-lo)).length=hi-lo:=by simp;omega
    refine⟨_,_,_,(cs.drop (lo*sz)).take ((hi-lo)*sz),ag,U.symm,gK _ (jI _ ab ai) (fun v hv=>ai v (H8 hv)),fun I=>(by grind),fun b' aq=>?_,by omega,fun I=>(by grind)⟩;cases aq;intro j u J;by_cases af:n=lo
    ·
     have:hi-lo=0:=by omega
     rw[this]at J;simp at J
    ·
     rw[A7 af];rw[M3]at J;split at J
     ·
      rw[S1]at J;by_cases aa:j=0
      · subst aa;simpa[World.cell?,Addr.add,I]using J
      · simpa[World.cell?,Addr.add,I,aa]using J
     · cases J
   grind
  grind
 grind
def happend (P:Program)(t:TypeId)(s x:HV)(nid:Nat)(ob:Ob)(K:HV→Ob→Prop):Prop:=
 hlift (aP P t) fun ti=>match ti.d with
  | .slice e=>hlift (aP P e) fun te=>hlift (hread x ob) fun l2=>(∀v∈l2,v.cells=te.size)∧
   match s with
   | .own id n=>match ob id with
    |some (.row e' sz l)=>(n=l.length∧e'=e∧sz=te.size)∧(l.length+l2.length)*te.bytes≤140737488355328∧l.length+l2.length≤maxLen∧K (.own id (l++l2).length) (upd ob id (some (.row e sz (l++l2))))
    |_=>False
   | .c .nils=>l2.length*te.bytes≤140737488355328∧l2.length≤maxLen∧K (.own nid l2.length) (upd ob nid (some (.row e te.size l2)))
   |_=>False
  |_=>False
theorem ownsRow_size {base:Nat}{e:TypeId}{sz n:Nat}{v:Value}{xs:List Value}(h:w.ownsRow base e sz v n xs):hlen v=n:=by
 rcases h.2 with⟨rfl,I⟩|⟨g,cap,cur,rfl,_⟩
 all_goals grind[hlen]
theorem lG {t ty e:TypeId}{i:TypeInfo}{z:Value}(ht:P.underlying t=some (.slice e))(hi:P.info? e=some i)(hz:i.zero=some z)(au:z.cells.size=i.size)
  (v:Value) (n:Nat) (xs:List Value) (J:w.ownsRow 0 e i.size v n xs) (ad:Option Addr) (m cp:Nat) (news:List Value) (hl:news.length=m*i.size) (ar:ad=none→m=0)
  (I: ∀b,ad=some b→ ∀j u,news[j]? =some u→w.cell? (b.add j)=some u) (h1: ∀u∈news,u.oneCell'=true)
  (aj:n+m≤maxLen) (ae:(n+m)*i.bytes≤140737488355328):
  ∃v' w',(Builtin.append_ #[t,t] ty #[v,.slice ad m cp]).run P w= .ok v' w'∧w'.ownsRow 0 e i.size v' (n+m) (xs++news)∧w.grownBy w' v.ownBlock∧
   (v'.ownBlock=v.ownBlock∨v'.ownBlock=some w.heap.size)∧(m=0→v'=v∧w'=w):=by
 by_cases hm:m=0
 ·
  subst hm;have ao:news=[]:=D3 (by grind);subst ao;have ak: ∀w:World,(Builtin.firstCells i.size 0 (.slice ad 0 cp)).run P w= .ok #[] w:=by
   intro w;cases ad<;>simp[Builtin.firstCells,loadCells,loadCellsFrom]
  refine⟨v,w,?_,by grind,⟨rfl,rfl,rfl,Nat.le_refl _,fun _ _ _=>rfl⟩,.inl rfl,fun _=>⟨rfl,rfl⟩⟩;rcases J.2 with⟨rfl,rfl⟩|⟨g,cap,cur,rfl,_,hg,ah,_⟩
  · simp[Builtin.append_,D4 ht,sizeOf,typeInfo,hi,Builtin.lenOf,ak]
  · simp[Builtin.append_,D4 ht,sizeOf,typeInfo,hi,Builtin.lenOf,ak,ah,storeCells]
 ·
  cases ad with
  |none=>grind
  |some b=>
   have I:=I b rfl;have hlen:(xs++news).length=(n+m)*i.size:=by rw[A3,J.1,hl,N0]
   have an:n+m≤9223372036854775807:=by simp only[maxLen]at aj;omega
   have grown: ∀(U:Nat),U<n+m→ ∀(row:Option Nat),
     (w.drew.alloc (.cells (xs.toArray++news.toArray++Builtin.zeroCells z.cells (grownCap w (n+m) U e-(n+m))) e)).ownsRow 0 e i.size
      (.slice (some ⟨w.heap.size,0,none⟩) (n+m) (grownCap w (n+m) U e)) (n+m) (xs++news)∧
     w.grownBy (w.drew.alloc (.cells (xs.toArray++news.toArray++Builtin.zeroCells z.cells (grownCap w (n+m) U e-(n+m))) e)) row:=by
    intro U _ row;have aw:=DO w (n+m) U e;have af:grownCap w (n+m) U e≤maxLen:=Y6 w (n+m) U e aj;refine⟨⟨hlen,.inr ⟨w.heap.size,_,_,rfl,I1 _,N4 w.drew _,aw,af,?_,?_⟩⟩,⟨rfl,rfl,rfl,by simp,fun k hk _=>Z3 w.drew _ hk⟩⟩
    · simp only[Z4,I8,BA,au,J.1,hl,←Nat.add_mul];grind
    · grind
   rcases J.2 with⟨rfl,rfl⟩|⟨g,cap,cur,rfl,aq,hg,ah,af,ax,ag⟩
   · have hx:xs=[]:=D3 (by grind);subst hx;have hr:=run_append_nil (P:=P) w t ty e i z ht hi hz b m cp news hl I (by omega) (by omega) (by grind);have ab:=grown 0 (by omega) (Value.ownBlock (.slice none 0 0));simp only[F0,J1,Array.empty_append]at ab⊢;grind[Value.ownBlock,absurd]
   ·
    by_cases aa:n+m≤cap
    ·
     have ai:n*i.size+news.length≤cur.size:=by rw[hl,ax,←Nat.add_mul];exact I3 _ aa
     have hr:=run_append_room (P:=P) w t ty e i ht hi g n cap cur hg b m cp news hl I h1 aa ai;refine⟨_,_,hr,⟨hlen,.inr ⟨g,cap,_,rfl,aq,T1 w g cur _ e _ hg,aa,af,?_,?_⟩⟩,⟨rfl,rfl,rfl,by simp,fun k _ hk=>R7 w g k _ (fun e=>hk (by simp[Value.ownBlock,e]))⟩,.inl (by simp[Value.ownBlock]),fun h=>absurd h hm⟩
     · simp only[I8,A3,E1,G8,O5];omega
     · rw[ag,←hlen];exact Y7
    · have holds: ∀j u,xs[j]? =some u→w.cell? ((⟨g,0,none⟩:Addr).add j)=some u:=J.cells (g:=g) rfl;have hr:=run_append_grow (P:=P) w t ty e i z ht hi hz ⟨g,0,none⟩ n cap xs J.1 holds b m cp news hl I (by omega) (by omega) (growslice_fits (by omega) ae);have ab:=grown cap (by omega) (Value.ownBlock (.slice (some ⟨g,0,none⟩) n cap));exact⟨_,_,hr,ab.1,ab.2,.inr (by simp[Value.ownBlock]),fun h=>absurd h hm⟩
theorem eK {O:Nat→Prop}{sz:Nat}: ∀{l:List CV} {xs:List Value},RepL w O l xs→(∀v∈l,v.cells=sz)→xs.length=l.length*sz
 |[],xs,h,_=>by grind[RepL]
 |v::vs,xs,h,hc=>by
  simp only[RepL]at h;obtain⟨c1,U,rfl,I,J⟩:=h;rw[A3,bK I,hc v (by simp),eK J (fun u hu=>hc u (by grind)),List.length_cons,Nat.add_mul];omega
theorem aQ8 (h:RepA' c M fr ob a w ρ){nid:Nat}(hn: ¬M nid)(hM: ∀i,M i→M' i)(bf:M' nid){t ty:TypeId}{s x:Operand}{K:HV→Ob→Prop}
  (hl:happend P t (ev fr s) (ev fr x) nid ob K) (d:Option Nat) (hd: ∀k,d=some k→k<c.n):
  ∃v ob' y w' ρ',K v ob'∧(Builtin.append_ #[t,t] ty #[a.eval s,a.eval x]).run P w= .ok y w'∧RepA' c M' (updo fr d v) ob' (a.put d y) w' ρ':=by
 unfold happend at hl;rw[aD]at hl;obtain⟨ti,ht,hl⟩:=hl;obtain⟨i0,d0,bq,ax⟩:=bF ht;split at hl
 ·
  rename_i e bd;rw[aD]at hl;obtain⟨te,bc,hl⟩:=hl;obtain⟨ie,de,bn,I⟩:=bF bc;rw[aD]at hl;obtain⟨l2,hx,ao,hl⟩:=hl;have aj:=ax.d_;rw[bd]at aj;have hu:P.underlying t=some (.slice e):=by
   rw[ax.under];congr 1;cases d0<;>simp[tyd]at aj;rw[aj]
  obtain⟨ad,m,cp,news,he,hm,ag,af,ae,_,_⟩:=kN h hx;have au:news.length=m*ie.size:=by rw[eK ag ao,hm,I.size]
  have ay:bn.cells.size=ie.size:=by rw[I.zsize,I.size]
  split at hl
  ·
   rename_i id n hs;split at hl
   ·
    rename_i e' sz l ho;obtain⟨⟨rfl,rfl,rfl⟩,hb,aq,hK⟩:=hl;obtain⟨ai,xs,hρ,az,hlen,bl,bo,how⟩:=nN h hs ho rfl;rw[←I.size]at how;obtain⟨v',w',aa,U,J,hblk,ba⟩:=lG (P:=P) (ty:=ty) hu I.info I.zero ay ai l.length xs how ad m cp news au af ae (kW ag) (by rw[hm];exact aq) (by rw[hm,I.bytes];exact hb);by_cases aw:m=0
    ·
     obtain⟨bb,bk⟩:=ba aw;rw[bb,bk]at aa;have bg:l2=[]:=D3 (by rw[←hm];exact aw);subst bg;refine⟨_,_,_,_,ρ,hK,by rw[az,he];exact aa,?_⟩;have bh:upd ob id (some (.row e' te.size (l++[])))=ob:=by
      funext k;by_cases hk:k=id
      · subst hk;rw[aR,ho];simp
      · rw[bE _ _ hk]
     rw[bh];have ar:HV.men M (.own id (l++[]).length):=by simpa[HV.men]using(h.mo id _ ho).1
     have bj:RepV w ρ (Owned ρ c.X) (.own id (l++[]).length) ai:=by
      refine dD ?_ rfl ?_
      ·
       simp only[RepH];refine⟨_,rfl,?_,fun bt h1=>?_⟩
       · rcases how.2 with⟨rfl,_⟩|⟨g,cap,cur,rfl,_⟩<;>simp[Value.oneCell']
       · rw[hρ]at h1;cases h1;exact⟨by simp[hlen],fun _=>rfl⟩
      · rcases how.2 with⟨rfl,_⟩|⟨g,cap,cur,rfl,_⟩<;>simp[Value.isAgg']
     have:=h.value (d:=d) (.inr bj) ar hd;exact⟨this.s,this.f,fun t=>HV.men_mono hM (this.mf t),fun id o ho=>⟨hM _ (this.mo id o ho).1,by
      have h2:=(this.mo id o ho).2;cases o with
      |box t v=>exact HV.men_mono hM h2
      |row _ _ _=>trivial
      |mp _ _ _=>trivial
      |dead=>trivial
      |tab _=>trivial
      |hrow _ _ _=>exact HV.menL_mono hM h2
      |raw _ _=>trivial
      |it _ _ _ _=>exact hM _ h2⟩,fun id hid=>hM _ (this.m0 id hid),this.base,this.moves,this.defers,this.size,this.xlt⟩
    ·
     have ak:Hl.hlen v'=l.length+m:=ownsRow_size U;refine⟨_,_,_,_,upd ρ id (some (.hdr v')),hK,by rw[az,he];exact aa,?_⟩;refine h.rehdr hM (hM _ (h.mo id _ ho).1) (.inr ⟨ai,hρ,by omega⟩) J.os J.tape J.output J.size (fun b an bm=>J.block b an (fun e=>bm _ hρ (by simpa[Loc.has]using e.symm)))
      (fun g hg=>?_) ?_ (by rw[ak,A3,hm]) (fun ah=>?_) hd
     ·
      rcases hblk with ab|ab
      · exact .inr ⟨_,hρ,by simpa[Loc.has]using ab.symm.trans hg⟩
      · rw[ab]at hg;cases hg;exact .inl (E3 _)
     · rcases U.2 with⟨rfl,_⟩|⟨g,cap,cur,rfl,_⟩<;>simp[Value.oneCell']
     ·
      refine⟨v',xs++news,aR _ _ _,eO.2 ⟨xs,news,rfl,bl.stay ah,ag.stay ah⟩,fun v hv=>?_,?_⟩
      ·
       rcases D6.1 hv with hv|hv
       · exact bo v hv
       · exact ao v hv
      · rw[A3,←hm,←I.size];exact U
   · exact hl.elim
  ·
   rename_i hs;obtain⟨hb,aq,hK⟩:=hl;obtain⟨v',w',aa,U,J,hblk,ba⟩:=lG (P:=P) (ty:=ty) hu I.info I.zero ay (.slice none 0 0) 0 [] (Z5 w 0 e ie.size) ad m cp news au af ae (kW ag)
    (by rw[hm];simpa using aq) (by rw[hm,I.bytes];simpa using hb)
   have ak:Hl.hlen v'=m:=by have:=ownsRow_size U;simpa using this
   obtain⟨bp,br⟩:=h.nid_none hn;refine⟨_,_,_,_,upd ρ nid (some (.hdr v')),hK,by rw[zI h hs,he];exact aa,?_⟩;refine h.rehdr hM bf (.inl hn) J.os J.tape J.output J.size (fun b an _=>J.block b an (by simp[Value.ownBlock]))
    (fun g hg=>?_) ?_ (by rw[ak,hm]) (fun ah=>?_) hd
   ·
    rcases hblk with ab|ab
    · rw[ab]at hg;simp[Value.ownBlock]at hg
    · rw[ab]at hg;cases hg;exact .inl (E3 _)
   · rcases U.2 with⟨rfl,_⟩|⟨g,cap,cur,rfl,_⟩<;>simp[Value.oneCell']
   · refine⟨v',news,aR _ _ _,ag.stay ah,ao,?_⟩;rw[←hm,←I.size];simpa using U
  · exact hl.elim
 grind
end
def hint (op:BinOp)(k:IntKind)(a b:Int)(K:CV→Prop):Prop:=
 match op with
 | .add=>K (.int k (k.wrap (a+b)))
 | .sub=>K (.int k (k.wrap (a-b)))
 | .mul=>K (.int k (k.wrap (a*b)))
 | .quo=>b≠0∧K (.int k (k.wrap (a.tdiv b)))
 | .rem=>b≠0∧K (.int k (a.tmod b))
 | .and=>K (.int k (k.wrap (BitVec.ofInt k.bits a&&&BitVec.ofInt k.bits b).toNat))
 | .or=>K (.int k (k.wrap (BitVec.ofInt k.bits a|||BitVec.ofInt k.bits b).toNat))
 | .xor=>K (.int k (k.wrap (BitVec.ofInt k.bits a^^^BitVec.ofInt k.bits b).toNat))
 | .andNot=>K (.int k (k.wrap (BitVec.ofInt k.bits a&&& ~~~BitVec.ofInt k.bits b).toNat))
 | .eql=>K (.bool (a==b))
 | .neq=>K (.bool (a !=b))
 | .lss=>K (.bool (decide (a<b)))
 | .leq=>K (.bool (decide (a≤b)))
 | .gtr=>K (.bool (decide (b<a)))
 | .geq=>K (.bool (decide (b≤a)))
 |_=>False
def hshift (op:BinOp)(k:IntKind)(a b:Int)(K:CV→Prop):Prop:=
 match op with
 | .shl=>0≤b∧K (.int k (k.wrap (a*2^(min b.toNat k.bits))))
 | .shr=>0≤b∧K (.int k (a.fdiv (2^(min b.toNat k.bits))))
 |_=>False
def slt (a b:List UInt8):Bool:=Op.bytesLess a b
def hstr (op:BinOp)(a b:List UInt8)(K:CV→Prop):Prop:=
 match op with
 | .add=>a.length+b.length≤9223372036854775807∧K (.str (a++b))
 | .eql=>K (.bool (a==b))
 | .neq=>K (.bool (!(a==b)))
 | .lss=>K (.bool (slt a b))
 | .leq=>K (.bool (slt a b||a==b))
 | .gtr=>K (.bool (!(slt a b||a==b)))
 | .geq=>K (.bool (!(slt a b)))
 |_=>False
def isShift :BinOp→Bool
 | .shl| .shr=>true
 |_=>false
def kK (P:Program)(op:BinOp)(t:TypeId)(x y:HV)(K:CV→Prop):Prop:=
 match x,y with
 | .c (.int k a),.c (.int k' b)=>if isShift op then hshift op k a b K else k=k'∧hint op k a b K
 | .c (.str a),.c (.str b)=>hstr op a b K
 | .c (.bool a),.c (.bool b)=>hlift (aP P t) fun ti=>ti.d= .bool∧match op with
  | .eql=>K (.bool (a==b))
  | .neq=>K (.bool (!(a==b)))
  |_=>False
 | .c (.agg a),.c (.agg b)=>(aJ9 P t=true∧CV.ofTy P 8 t (.agg a)=true∧CV.ofTy P 8 t (.agg b)=true)∧match op with
  | .eql=>K (.bool (CV.eqv (.agg a) (.agg b)))
  | .neq=>K (.bool (!(CV.eqv (.agg a) (.agg b))))
  |_=>False
 |_,_=>False
def CV.val :CV→Value
 | .bool b=> .bool b
 | .int k n=> .int k n
 | .str s=> .string ⟨s.toArray⟩
 |_=>undef
def CV.sc :CV→Bool
 | .bool _| .int _ _| .str _=>true
 |_=>false
theorem CV.val_rep {w:World}{ρ:Env}{O:Nat→Prop}{u:CV}(h:u.sc=true):RepV w ρ O (.c u) u.val:=by
 cases u<;>simp[CV.sc]at h
 · exact jP _ _ _ _
 · exact eU _ _ _ _ _
 · exact tW _ _ _ _
section
variable {P:Program}
theorem aH6 {op:BinOp}{t:TypeId}{k k':IntKind}{a b:Int}{K:CV→Prop}(h:if isShift op then hshift op k a b K else k=k'∧hint op k a b K):
  ∃u,K u∧u.sc=true∧ ∀w,(binOp op t (.int k a) (.int k' b)).run P w= .ok u.val w:=by
 by_cases hs:isShift op=true
 ·
  rw[B1 hs]at h;cases op<;>simp[isShift]at hs<;>simp only[hshift]at h
  · exact⟨_,h.2,rfl,fun w=>by simp[binOp,Op.shift,Int.not_lt.2 h.1,CV.val]⟩
  · exact⟨_,h.2,rfl,fun w=>by simp[binOp,Op.shift,Int.not_lt.2 h.1,CV.val]⟩
 ·
  rw[A7 hs]at h;obtain⟨rfl,h⟩:=h;cases op<;>simp[isShift]at hs<;>simp only[hint]at h
  case quo=>exact⟨_,h.2,rfl,fun w=>by simp[binOp,Op.intDiv,h.1,CV.val]⟩
  case rem=>exact⟨_,h.2,rfl,fun w=>by simp[binOp,Op.intDiv,h.1,CV.val]⟩
  all_goals exact⟨_,h,rfl,fun w=>by simp[binOp,Op.intArith,Op.intBits,Op.intCmp,CV.val]⟩
theorem pF (op:BinOp)(t:TypeId)(a b:ByteArray)(h:isShift op=false):binOp op t (.string a) (.string b)=Op.stringOp op a b:=by
 cases op<;>simp[isShift]at h<;>rfl
theorem aH7 {op:BinOp}{t:TypeId}{a b:List UInt8}{K:CV→Prop}(h:hstr op a b K):
  ∃u,K u∧u.sc=true∧ ∀w,(binOp op t (.string ⟨a.toArray⟩) (.string ⟨b.toArray⟩)).run P w= .ok u.val w:=by
 have hb:=bN2 a b;have I:Op.bytesLess (⟨a.toArray⟩:ByteArray).toList (⟨b.toArray⟩:ByteArray).toList=slt a b:=by rw[U7,U7];rfl
 cases op<;>simp only[hstr]at h
 case add=>
  refine⟨_,h.2,rfl,fun w=>?_⟩;rw[pF _ _ _ _ rfl];simp only[Op.stringOp];have J: ¬((((⟨a.toArray⟩:ByteArray).size+(⟨b.toArray⟩:ByteArray).size:Nat):Int)>IntKind.i64.max):=by
   have:(⟨a.toArray⟩:ByteArray).size=a.length:=by simp[ByteArray.size]
   have U:(⟨b.toArray⟩:ByteArray).size=b.length:=by simp[ByteArray.size]
   rw[this,U];simp only[IntKind.max,IntKind.signed,IntKind.bits];have:=h.1;simp only[G4];omega
  rw[A7 J];simp only[I7,CV.val];have e:(⟨a.toArray⟩:ByteArray)++⟨b.toArray⟩=⟨(a++b).toArray⟩:=by apply ByteArray.ext;simp[ByteArray.data_append]
  rw[e]
 all_goals first
  |exact h.elim
  |exact⟨_,h,rfl,fun w=>by rw[pF _ _ _ _ rfl];simp only[Op.stringOp,hb,I,I7,CV.val]⟩
end
def HV.len (x:HV)(ob:Ob):Option Nat:=
 match x with
 | .c (.str s)=>some s.length
 |x=>(hread x ob).map List.length
def hslice (P:Program)(t:TypeId)(x:HV)(lo hi:Option HV)(K:HV→Prop):Prop:=
 hlift (aP P t) fun ti=>
  let bnd (n:Nat) (G:Nat→Nat→Prop):Prop:=
   hlift (match lo with|none=>some 0|some (.c (.int _ i))=>some i|_=>none) fun(l:Int)=>
   hlift (match hi with|none=>some (n:Int)|some (.c (.int _ i))=>some i|_=>none) fun(h:Int)=>
   (0≤l∧l≤h∧h≤(n:Int))∧G l.toNat h.toNat
  match ti.d,x with
  | .string,.c (.str s)=>bnd s.length fun l h=>K (.c (.str ((s.drop l).take (h-l))))
  | .slice e,.c (.slc s)=>hlift (aP P e) fun te=>(∀v∈s,v.cells=te.size)∧bnd s.length fun l h=>K (.c (.slc ((s.drop l).take (h-l))))
  | .slice e,.c .nils=>hlift (aP P e) fun _=>bnd 0 fun _ _=>K (.c .nils)
  | .array m e,.c (.rp (.agg s))=>hlift (aP P e) fun te=>((∀v∈s,v.cells=te.size)∧s.length=m)∧bnd m fun l h=>K (.c (.slc ((s.drop l).take (h-l))))
  |_,_=>False
def hslice3 (P:Program)(t:TypeId)(x:HV)(lo:Option HV)(hi mx:HV)(K:HV→Prop):Prop:=
 hlift (aP P t) fun ti=>
  match ti.d,x,hi,mx with
  | .slice e,.c (.slc s),.c (.int _ h),.c (.int _ m)=>hlift (aP P e) fun te=>(∀v∈s,v.cells=te.size)∧
   hlift (match lo with|none=>some 0|some (.c (.int _ i))=>some i|_=>none) fun(l:Int)=>(0≤l∧l≤h∧h≤m∧m≤(s.length:Int))∧K (.c (.slc ((s.drop l.toNat).take (h.toNat-l.toNat))))
  |_,_,_,_=>False
section
variable {P:Program}{c:Ctx}{M M':Nat→Prop}{fr:Fr}{ob:Ob}{a:Act}{w:World}{ρ:Env}
theorem iY (h:RepA' c M fr ob a w ρ){lo:Option Operand}{I l:Int}(hl:(match lo.map (ev fr)with|none=>some I|some (.c (.int _ i))=>some i|_=>none)=some l):
  (lo=none∧l=I)∨ ∃x k,lo=some x∧a.eval x= .int k l:=by
 cases lo with
 |none=>grind
 |some x=>
  simp only[I2]at hl;split at hl
  · grind
  · rename_i k i he;cases hl;exact .inr ⟨x,k,rfl,eC h (by grind)⟩
  grind
theorem dH (b:Bool)(n cap:Nat){lo hi:Option Operand}{l I:Int}
  (h1:(lo=none∧l=0)∨ ∃x k,lo=some x∧a.eval x= .int k l) (h2:(hi=none∧I=(n:Int))∨ ∃x k,hi=some x∧a.eval x= .int k I)
  (J:0≤l∧l≤I∧I≤(n:Int)) (U:n≤cap):
  (Instr.sliceBounds b n cap (lo.map a.eval) (hi.map a.eval) none).run P w= .ok (l.toNat,I.toNat,cap) w:=by
 obtain⟨b0,b1,b2⟩:=J;have c1:I≤(cap:Int):=by omega
 have c2:0≤I:=by omega
 have c3:l≤((I.toNat:Nat):Int):=by omega
 rcases h1 with⟨rfl,rfl⟩|⟨x,k,rfl,e1⟩<;>rcases h2 with⟨rfl,rfl⟩|⟨x',k',rfl,e2⟩
 all_goals simp_all[Instr.sliceBounds,Instr.sliceBound,asIntOf,X7]
theorem qX {O:Nat→Prop}{sz:Nat}: ∀{l:List CV} {cs:List Value} (k:Nat),RepL w O l cs→(∀v∈l,v.cells=sz)→k≤l.length→ ∃I J,cs=I++J∧I.length=k*sz∧RepL w O (l.drop k) J
 |l,cs,0,h,_,_=>⟨[],cs,by simp,by simp,by grind⟩
 |[],cs,k+1,_,_,hk=>by grind
 |v::vs,cs,k+1,h,hc,hk=>by
  simp only[RepL]at h;obtain⟨I,J,rfl,h1,h2⟩:=h;obtain⟨d1,d2,rfl,U,e2⟩:=qX k h2 (fun u hu=>hc u (by grind)) (by grind);exact⟨I++d1,d2,by simp,by rw[A3,bK h1,hc v (by simp),U,N0];omega,by grind⟩
theorem qY {O:Nat→Prop}: ∀{l:List CV} {cs:List Value} (k:Nat),RepL w O l cs→ ∃I J,cs=I++J∧RepL w O (l.take k) I
 |l,cs,0,_=>⟨[],cs,by simp,by simp[RepL]⟩
 |[],cs,k+1,h=>⟨cs,[],by simp,by grind⟩
 |v::vs,cs,k+1,h=>by
  simp only[RepL]at h;obtain⟨I,J,rfl,h1,U⟩:=h;obtain⟨d1,d2,rfl,e2⟩:=qY k U;exact⟨I++d1,d2,by simp,by simp only[P8,RepL];grind⟩
theorem aW8 (h:RepA' c M fr ob a w ρ){t:TypeId}{x:Operand}{lo hi:Option Operand}{K:HV→Prop}(hl:hslice P t (ev fr x) (lo.map (ev fr)) (hi.map (ev fr)) K):
  ∃u y,K u∧(Instr.sliceAt t (a.eval x) (lo.map a.eval) (hi.map a.eval) none).run P w= .ok y w∧RepV w ρ (Owned ρ c.X) u y∧u.men M:=by
 unfold hslice at hl;rw[aD]at hl;obtain⟨ti,ht,hl⟩:=hl;obtain⟨i0,d0,ax,ai⟩:=bF ht;have J:=ai.d_;simp only at hl;split at hl
 ·
  rename_i s ab hx;rw[ab]at J;have hu:P.underlying t=some .string:=by rw[ai.under];congr 1;cases d0<;>simp[tyd]at J;rfl
  rw[aD]at hl;obtain⟨l,hlo,hl⟩:=hl;rw[aD]at hl;obtain⟨hh,U,hb,hK⟩:=hl;have af:=dH (P:=P) (w:=w) (a:=a) false s.length s.length (iY h hlo) (iY h U) hb (E3 _);have ah:(⟨s.toArray⟩:ByteArray).size=s.length:=by simp[ByteArray.size]
  refine⟨_,.string ((⟨s.toArray⟩:ByteArray).extract l.toNat hh.toNat),hK,?_,?_,by simp[HV.men]⟩
  · rw[nA h hx];simp only[Instr.sliceAt,G6,D4 hu,E6,Instr.slice,ah];simp_all
  grind[ByteArray.extract_mk,tW]
 ·
  rename_i e s ab hx;rw[ab]at J;have hu:P.underlying t=some (.slice e):=by rw[ai.under];congr 1;cases d0<;>simp[tyd]at J;grind
  rw[aD]at hl;obtain⟨te,ag,ae,hl⟩:=hl;obtain⟨ie,de,aq,I⟩:=bF ag;rw[aD]at hl;obtain⟨l,hlo,hl⟩:=hl;rw[aD]at hl;obtain⟨hh,U,hb,hK⟩:=hl;obtain⟨ad,cap,xs,sz,he,ak,aw,ao,hn,an⟩:=aQ5 h hx;have af:=dH (P:=P) (w:=w) (a:=a) true s.length cap (iY h hlo) (iY h U) hb ao;have ah:(sizeOf e).run P w= .ok te.size w:=by rw[bS I.info,I.size]
  obtain⟨b0,b1,b2⟩:=hb;have hlen:((s.drop l.toNat).take (hh.toNat-l.toNat)).length=hh.toNat-l.toNat:=by
   rw[E1,G8];omega
  obtain⟨c1,c2,rfl,e1,e2⟩:=qX l.toNat ak ae (by omega);obtain⟨f1,f2,rfl,e3⟩:=qY (hh.toNat-l.toNat) e2;refine⟨_,.slice (if cap=l.toNat then ad else ad.map (·.add (l.toNat*te.size))) (hh.toNat-l.toNat) (cap-l.toNat),hK,?_,?_,by simp[HV.men]⟩
  · rw[he];simp only[Instr.sliceAt,G6,D4 hu,E6,Instr.slice,af,ah,I7]
  ·
   refine bQ ?_ rfl rfl;simp only[RepC];refine⟨_,cap-l.toNat,f1,te.size,by rw[hlen],e3,fun v hv=>ae v (H8 (J3 hv)),by rw[hlen];omega,?_,?_⟩
   ·
    intro aj;split at aj
    · omega
    ·
     cases ad with
     |none=>have:=hn rfl;omega
     |some b=>simp at aj
   ·
    intro b aa;split at aa
    ·
     rename_i hc;have hz:f1=[]:=D3 (by
      rw[eK e3 (fun v hv=>ae v (H8 (J3 hv))),hlen];have:hh.toNat-l.toNat=0:=by omega
      rw[this];simp)
     subst hz;exact⟨by simp,by simp⟩
    ·
     cases ad with
     |none=>simp at aa
     |some b'=>
      simp only[I2,E8]at aa;subst aa;rw[←e1];have:=an b' rfl;rw[←List.append_assoc]at this;exact this.part
 ·
  rename_i e ab hx;rw[ab]at J;have hu:P.underlying t=some (.slice e):=by rw[ai.under];congr 1;cases d0<;>simp[tyd]at J;grind
  rw[aD]at hl;obtain⟨te,ag,hl⟩:=hl;obtain⟨ie,de,aq,I⟩:=bF ag;rw[aD]at hl;obtain⟨l,hlo,hl⟩:=hl;rw[aD]at hl;obtain⟨hh,U,hb,hK⟩:=hl;have af:=dH (P:=P) (w:=w) (a:=a) true 0 0 (iY h hlo) (iY h U) hb (E3 _);have au:l.toNat=0:=by omega
  have ar:hh.toNat=0:=by omega
  refine⟨_,.slice none 0 0,hK,?_,bQ (by simp[RepC]) rfl rfl,by simp[HV.men]⟩;rw[zI h hx];simp only[Instr.sliceAt,G6,D4 hu,E6,Instr.slice,af,bS I.info,I7,au,ar];simp
 ·
  rename_i m e s ab hx;rw[ab]at J;have hu:P.underlying t=some (.array m e):=by rw[ai.under];congr 1;cases d0<;>simp[tyd]at J;grind
  rw[aD]at hl;obtain⟨te,ag,⟨ae,ay⟩,hl⟩:=hl;obtain⟨ie,de,aq,I⟩:=bF ag;rw[aD]at hl;obtain⟨l,hlo,hl⟩:=hl;rw[aD]at hl;obtain⟨hh,U,hb,hK⟩:=hl;obtain⟨ad,xs,he,ak,an⟩:=bN1 h hx;simp only[RepC]at ak;have af:=dH (P:=P) (w:=w) (a:=a) false m m (iY h hlo) (iY h U) hb (E3 _);have ah:(sizeOf e).run P w= .ok te.size w:=by rw[bS I.info,I.size]
  obtain⟨b0,b1,b2⟩:=hb;have hlen:((s.drop l.toNat).take (hh.toNat-l.toNat)).length=hh.toNat-l.toNat:=by
   rw[E1,G8];omega
  obtain⟨c1,c2,rfl,e1,e2⟩:=qX l.toNat ak ae (by omega);obtain⟨f1,f2,rfl,e3⟩:=qY (hh.toNat-l.toNat) e2;refine⟨_,.slice (some (if m=l.toNat then ad else ad.add (l.toNat*te.size))) (hh.toNat-l.toNat) (m-l.toNat),hK,?_,?_,by simp[HV.men]⟩
  · rw[he];simp only[Instr.sliceAt,G6,D4 hu,E6,Instr.sureAddr,I7,af,ah]
  ·
   refine bQ ?_ rfl rfl;simp only[RepC];refine⟨_,m-l.toNat,f1,te.size,by rw[hlen],e3,fun v hv=>ae v (H8 (J3 hv)),by rw[hlen];omega,fun hn=>(by cases hn),fun b aa=>?_⟩;simp only[E8]at aa;subst aa;split
   ·
    have hz:f1=[]:=D3 (by
     rw[eK e3 (fun v hv=>ae v (H8 (J3 hv))),hlen];have:hh.toNat-l.toNat=0:=by omega
     rw[this];simp)
    subst hz;exact⟨by simp,by simp⟩
   · rw[←e1];have:=an;rw[←List.append_assoc]at this;exact this.part
 grind
theorem aQ9 (h:RepA' c M fr ob a w ρ){t:TypeId}{x hi mx:Operand}{lo:Option Operand}{K:HV→Prop}(hl:hslice3 P t (ev fr x) (lo.map (ev fr)) (ev fr hi) (ev fr mx) K):
  ∃u y,K u∧(Instr.sliceAt t (a.eval x) (lo.map a.eval) (some (a.eval hi)) (some (a.eval mx))).run P w= .ok y w∧RepV w ρ (Owned ρ c.X) u y∧u.men M:=by
 unfold hslice3 at hl;rw[aD]at hl;obtain⟨ti,ht,hl⟩:=hl;obtain⟨i0,d0,aw,af⟩:=bF ht;have ab:=af.d_;split at hl
 ·
  rename_i e s kh U km m an hx ah ao;rw[an]at ab;have hu:P.underlying t=some (.slice e):=by rw[af.under];congr 1;cases d0<;>simp[tyd]at ab;rw[ab]
  rw[aD]at hl;obtain⟨te,ag,ae,hl⟩:=hl;obtain⟨ie,de,ax,aa⟩:=bF ag;rw[aD]at hl;obtain⟨l,hlo,hb,hK⟩:=hl;obtain⟨ad,cap,xs,sz,he,ai,au,ar,hn,aq⟩:=aQ5 h hx;obtain⟨b0,b1,b2,b3⟩:=hb;have ak:(Instr.sliceBounds true s.length cap (lo.map a.eval) (some (a.eval hi)) (some (a.eval mx))).run P w= .ok (l.toNat,U.toNat,m.toNat) w:=by
   have c1:m≤(cap:Int):=by omega
   have c2:0≤m:=by omega
   have c3:0≤U:=by omega
   have c4:U≤((m.toNat:Nat):Int):=by omega
   have c5:l≤((U.toNat:Nat):Int):=by omega
   have e1:=eC h ao;have e2:=eC h ah;rcases iY h hlo with⟨rfl,rfl⟩|⟨x',k',rfl,e3⟩
   · simp[Instr.sliceBounds,Instr.sliceBound,e1,e2,asIntOf,c1,c2,c3,b2,X7 c2]
   · simp[Instr.sliceBounds,Instr.sliceBound,e1,e2,e3,asIntOf,c1,c2,c3,b0,b1,b2,X7 c2,X7 c3]
  have aj:(sizeOf e).run P w= .ok te.size w:=by rw[bS aa.info,aa.size]
  have hlen:((s.drop l.toNat).take (U.toNat-l.toNat)).length=U.toNat-l.toNat:=by
   rw[E1,G8];omega
  obtain⟨c1,c2,rfl,e1,e2⟩:=qX l.toNat ai ae (by omega);obtain⟨f1,f2,rfl,e3⟩:=qY (U.toNat-l.toNat) e2;refine⟨_,.slice (if m.toNat=l.toNat then ad else ad.map (·.add (l.toNat*te.size))) (U.toNat-l.toNat) (m.toNat-l.toNat),hK,?_,?_,by simp[HV.men]⟩
  · rw[he];simp only[Instr.sliceAt,G6,D4 hu,E6,Instr.slice,ak,aj,I7]
  ·
   refine bQ ?_ rfl rfl;simp only[RepC];refine⟨_,m.toNat-l.toNat,f1,te.size,by rw[hlen],e3,fun v hv=>ae v (H8 (J3 hv)),by rw[hlen];omega,?_,?_⟩
   ·
    intro I;split at I
    · omega
    ·
     cases ad with
     |none=>have:=hn rfl;omega
     |some b=>simp at I
   ·
    intro b J;split at J
    ·
     rename_i hc;have hz:f1=[]:=D3 (by
      rw[eK e3 (fun v hv=>ae v (H8 (J3 hv))),hlen];have:U.toNat-l.toNat=0:=by omega
      rw[this];simp)
     subst hz;exact⟨by simp,by simp⟩
    ·
     cases ad with
     |none=>simp at J
     |some b'=>
      simp only[I2,E8]at J;subst J;rw[←e1];have:=aq b' rfl;rw[←List.append_assoc]at this;exact this.part
 grind
end
end Go.Hl
