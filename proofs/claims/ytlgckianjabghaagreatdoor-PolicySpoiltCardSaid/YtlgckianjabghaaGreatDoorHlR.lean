/- HL, part R: functions: what they return, their contracts; steps that only change what is known. By an AI agent. -/
import Derived.Still
import Derived.OrdersIn
import Derived.RangeFuncCalls
import Derived.StillTail
import Derived.ControlIn
import Derived.Scope
import Derived.RangeFuncLeaves
import Derived.RangeFuncOwn
import Derived.Test.YtlgckianjabghaaGreatDoorHlMc
set_option linter.unusedSimpArgs false
set_option linter.unusedVariables false
set_option linter.defProp false
namespace Go.Hl
open Go
def hcallOf (o:Op):Option (Operand×List Operand):=
 match o with
 | .call c=>match c.callee with
  | .value f=>some (f,c.args.toList)
  |_=>none
 |_=>none
def dn (nd:Bool)(v:HV):HV:=if nd then v else v.den
def fB (P:Program)(av:List Nat)(nid:Nat)(o:Op)(e:Operand→HV)(ob:Ob)(K:HV→Ob→Prop):Prop:=
 match hcallOf o with
 |some (f,xs)=>(∀x∈xs,e x≠ .junk)∧ ∃nd:Bool,match e f with
  | .c (.fn g)=>HCallL P av g (xs.map fun x=>dn nd (e x)) ob nid K
  | .clo g caps=>HCallL P av g ((xs.map fun x=>dn nd (e x))++caps) ob nid K
  |_=>False
 |none=>(∀id∈touch o e,id∉av∧(ob id).isSome=true)∧aJ9 P nid o e ob K
def hguard (ops:Array Oper)(o:Oper)(fr:Fr):Option Bool:=
 match o.guard with
 |none=>some true
 |some (j,want)=>match(ops[j]?).bind (·.dst)with
  |some d=>match fr d with
   | .c (.bool b)=>some (b==want)
   | .tup _=>some false
   |_=>none
  |none=>none
def eE (P:Program)(ops:Array Oper)(nx:Nat)(av:List Nat)(i:Nat)(K:Fr→Ob→Prop)(fr:Fr)(ob:Ob):Prop:=
 match ops[i]? with
 |none=>False
 |some o=>match hguard ops o fr with
  |some true=>fB P av (nx+4*i) o.op (ev fr) ob fun v ob'=>K (updo fr o.dst v) ob'
  |some false=>K (updo fr o.dst (.tup [])) ob
  |none=>False
theorem vR {e e':Operand→HV}: ∀{ps:List (Nat×Operand)} {hs:List HV},(∀p∈ps,e' p.2=e p.2)→hfill e' ps hs=hfill e ps hs
 |[],_,_=>rfl
 |(i,x)::ps,hs,h=>by
  have h1:e' x=e x:=h (i,x) (by simp);have ih:=fun hs=>vR (e:=e) (e':=e') (ps:=ps) (hs:=hs) (fun p hp=>h p (by grind));grind[hfill]
theorem qY {e e':Operand→HV}: ∀{ps:List (Nat×Operand)} {k sz:Nat},(∀p∈ps,e' p.2=e p.2)→hclosed e' ps k sz=hclosed e ps k sz
 |[],_,_,_=>rfl
 |(i,x)::ps,k,sz,h=>by
  have h1:e' x=e x:=h (i,x) (by simp);have ih:=fun k=>qY (e:=e) (e':=e') (ps:=ps) (k:=k) (sz:=sz) (fun p hp=>h p (by grind));grind[hclosed]
variable {e e':Operand→HV}
theorem sO {x:Option Operand}(h: ∀y∈x.toList,e' y=e y):x.map e'=x.map e:=by
 cases x with
 |none=>rfl
 |some y=>grind
theorem bA4 {xs:List Operand}(h: ∀y∈xs,e' y=e y):xs.map e'=xs.map e:=N7 h
theorem oK {e e':Operand→HV}: ∀{xs:List Operand},(∀y∈xs,e' y=e y)→xs.flatMap (fun x=>(e' x).ids)=xs.flatMap (fun x=>(e x).ids)
 |[],_=>rfl
 |x::xs,h=>by simp only[I1,h x (by simp),oK (xs:=xs) (fun y hy=>h y (by grind))]
variable {o:Op}
theorem aQ8 (h: ∀x∈o.operands,e' x=e x):touch o e'=touch o e:=by
 cases o<;>simp only[touch]<;>try rfl
 case load t x=>rw[h x (by simp[Op.operands])]
 case fieldAddr t x f=>rw[h x (by simp[Op.operands])]
 case nilCheck x=>rw[h x (by simp[Op.operands])]
 case indexAddr t x i=>rw[h x (by simp[Op.operands])]
 case store t x y=>rw[h x (by simp[Op.operands])]
 all_goals simp_all[Op.operands,builtin,oK,Call.operands]
variable {K:HV→Ob→Prop}{ob:Ob}{nid:Nat}{P:Program}
theorem aD2 (h: ∀x∈o.operands,e' x=e x)(hl:hop P nid o e ob K):hop P nid o e' ob K:=by
 unfold hop at hl;split at hl
 · grind[hop,Op.operands]
 · grind[hop,Op.operands]
 · grind[hop,Op.operands]
 · exact hl
 · grind[hop,Op.operands]
 · rename_i t ps;have: ∀p∈ps.toList,e' p.2=e p.2:=fun p hp=>h p.2 (by simp only[Op.operands,Z2,L3];grind);grind[hop,iK,vR]
 · rename_i t n ps;have: ∀p∈ps.toList,e' p.2=e p.2:=fun p hp=>h p.2 (by simp only[Op.operands,Z2,L3];grind);simp only[hop,qY this];grind
 · grind[hop,Op.operands]
 · grind[hop,Op.operands]
 · grind[hop,Op.operands]
 · grind[hop,Op.operands]
 · grind[hop,Op.operands]
 · grind[hop,Op.operands]
 · grind[Op.operands,hop,bA4]
 · grind[Op.operands,sO,hop]
 · grind[Op.operands,sO,hop]
 · exact hl
 · grind[hop,Op.operands]
 · grind[hop,Op.operands]
 · grind[hop,Op.operands]
 · grind[hop,Op.operands]
 · grind[hop,Op.operands]
 · grind[hop,Op.operands]
 · grind[hop,Op.operands]
 ·
  rename_i c;have ha: ∀y∈c.args.toList,e' y=e y:=fun y hy=>h y (by grind[Op.operands,Call.operands]);split at hl
  · grind[hop]
  · grind[hop]
  · grind[hop]
  all_goals grind[hop]
 all_goals grind[hop,Op.operands]
theorem bA5 (h: ∀x∈o.operands,e' x=e x):iM nid o e'=iM nid o e:=by
 unfold iM;split;all_goals grind[Op.operands,Call.operands]
theorem bA6 (h: ∀x∈o.operands,e' x=e x)(hl:aJ9 P nid o e ob K):aJ9 P nid o e' ob K:=by
 rcases hl with hl|⟨id,hm,hl⟩|hl
 · exact .inl (aD2 h hl)
 · exact .inr (.inl ⟨id,by grind[bA5],aD2 h hl⟩)
 · exact .inr (.inr (bA1 h hl))
variable {av:List Nat}
theorem sQ (h: ∀x∈o.operands,e' x=e x)(hl:fB P av nid o e ob K):fB P av nid o e' ob K:=by
 unfold fB at hl⊢;cases hc:hcallOf o with
 |none=>
  grind[aQ8,bA6]
 |some p=>
  obtain⟨f,xs⟩:=p;rw[hc]at hl;simp only at hl⊢;have hf:e' f=e f∧ ∀y∈xs,e' y=e y:=by
   cases o<;>simp only[hcallOf]at hc<;>try cases hc
   rename_i c;split at hc
   · grind[Op.operands,Call.operands]
   · grind
  simp_all[dn,N7]
variable {v:HV}{d:Option Nat}{fr:Fr}
theorem cI1 {x:Operand}(h: ∀k,d=some k→x≠ .tmp k):ev (updo fr d v) x=ev fr x:=by
 cases d with
 |none=>rfl
 |some k=>
  cases x with
  |tmp t=>simp only[ev,updo];exact bJ _ _ (fun e=>h k rfl (by rw[e]))
  |_=>rfl
variable {ops:Array Oper}
theorem oL {o:Oper}(h: ∀k,d=some k→k∉o.looksAt ops): ∀x∈o.op.operands,ev (updo fr d v) x=ev fr x:=by
 intro x hx;refine cI1 (fun k hk e=>h k hk ?_);subst e;unfold Oper.looksAt;refine M5 _ (List.mem_filterMap.2 ⟨.tmp k,by grind,rfl⟩)
theorem vS {o:Oper}(h: ∀k,d=some k→k∉o.looksAt ops):hguard ops o (updo fr d v)=hguard ops o fr:=by
 unfold hguard;cases hg:o.guard with
 |none=>rfl
 |some p=>
  obtain⟨j,want⟩:=p;simp only;cases hd:(ops[j]?).bind (·.dst)with
  |none=>rfl
  |some k=>
   simp only;have:updo fr d v k=fr k:=by
    cases d with
    |none=>rfl
    |some k'=>
     simp only[updo];refine bJ _ _ (fun e=>h k' rfl ?_);grind[Oper.looksAt,List.mem_append_right]
   grind
theorem aD3 {d':Option Nat}{v':HV}(h: ∀k,d=some k→d'≠some k):updo (updo fr d v) d' v'=updo (updo fr d' v') d v:=by
 cases d with
 |none=>rfl
 |some k=>
  cases d' with
  |none=>rfl
  |some k'=>
   have hne:k≠k':=fun e=>h k rfl (by rw[e]);funext t;simp only[updo,upd];grind
def bG5 (F:List Nat)(ob ob':Ob):Prop:= ∀id∈F,ob' id=ob id
def bG6 (u:Option (Nat×HO))(av:List Nat)(nid:Nat):Prop:= ∀p,u=some p→p.1∈av∧ ¬(nid≤p.1∧p.1<nid+4)∧nid<p.1+10000
variable {u:Option (Nat×HO)}
theorem kQ {id:Nat}(h: ∀p,u=some p→p.1≠id):app u ob id=ob id:=by
 cases u with
 |none=>rfl
 |some p=>exact bJ _ _ (fun e=>h p rfl e.symm)
theorem bV1 {u':Option (Nat×HO)}(h: ∀p p',u=some p→u'=some p'→p.1≠p'.1):app u (app u' ob)=app u' (app u ob):=by
 cases u with
 |none=>rfl
 |some p=>
  cases u' with
  |none=>rfl
  |some p'=>
   have hne:=h p p' rfl rfl;funext t;simp only[app,upd];grind
variable {args:List HV}{f:FuncId}{av':List Nat}
theorem vT {F:List Nat}(hu:bG6 u av nid)(hav: ∀x∈av',x∈av)
  (hF: ∀id∈F,id∈av∧(ob id).isSome=true) (hfresh: ∀t,t<4→ob (nid+t)=none) (h:HCallL P av f args (app u ob) nid K):
  HCallL P av' f args ob nid (fun v ob'=>K v (app u ob')∧bG5 F ob ob'):=by
 obtain⟨σ,largs,lob,R,h1,h2,⟨h3,h4⟩,h5,h6,h7⟩:=h;have hσ: ∀p,u=some p→p.1∉σ:=fun p hp hin=>by
  obtain⟨j,hj,e⟩:=L4 hin;have e':σ.getD j 0=p.1:=by rw[C7,B5 hj];exact e
  have h9:=hu p hp;grind
 have hmem: ∀j o,lob j=some o→σ.getD j 0∈σ:=fun j o ho=>by
  have hj:=(h2.none j o ho).1;grind
 refine⟨σ,largs,lob,R,h1,h2,⟨h3,fun j hj=>(h4 j hj).imp (fun h hin=>h (hav _ hin)) (fun h=>h)⟩,h5,fun j o ho=>?_,fun r lob' hR hr=>⟨?_,fun id hid=>?_⟩⟩
 · grind[kQ]
 ·
  have:=h7 r lob' hR hr;have e:cJ (app u ob) σ nid lob'=app u (cJ ob σ nid lob'):=by
   funext id;cases u with
   |none=>rfl
   |some p=>
    have h8:=hσ p rfl;have h9:=(hu p rfl).2.1;simp only[app,upd];by_cases hid:id=p.1
    ·
     subst hid;rw[B6 rfl];unfold cJ;have:σ.findIdx? (· ==p.1)=none:=by
      rw[O0];intro y hy;simp only[I0,AG];intro e;exact h8 (e▸hy)
     rw[this];simp_all[A7,aU]
    simp_all[A7,cJ,bJ]
  grind
 ·
  by_cases hin:id∈σ
  ·
   obtain⟨j,hj,e⟩:=L4 hin;have e':σ.getD j 0=id:=by rw[C7,B5 hj];exact e
   rcases h4 j hj with h|⟨_,hl⟩
   · grind
   ·
    obtain⟨o,ho⟩:=h2.all j hj;have h10:=h6 j o ho;rw[e',kQ (fun p hp e2=>hσ p hp (e2▸hin))]at h10;unfold cJ;have hfi:σ.findIdx? (· ==id)=some j:=by
     rw[J1];refine⟨hj,by grind,fun k hk=>?_⟩;simp only[G9];intro ek;have:=(List.getElem_inj h3).1 (ek.trans e.symm);omega
    rw[hfi];simp only[hl r lob' hR,ho,H8,h10]
  unfold cJ;have h8:id∉σ:=hin;have:σ.findIdx? (· ==id)=none:=by
   rw[O0];intro y hy;simp only[I0,AG];intro e;exact h8 (e▸hy)
  rw[this];simp only;split
  · rename_i hr;have:=hfresh (id-nid) (by omega);grind
  · rfl
theorem aK0 {F:List Nat}(hu:bG6 u av nid)(hav: ∀x∈av',x∈av)
  (hF: ∀id∈F,(isEff o=true→id∈av)∧(ob id).isSome=true) (hfresh: ∀t,t<4→ob (nid+t)=none) (h:fB P av nid o e (app u ob) K):
  fB P av' nid o e ob (fun v ob'=>K v (app u ob')∧bG5 F ob ob'):=by
 unfold fB at h⊢;cases hc:hcallOf o with
 |some p=>
  obtain⟨f,xs⟩:=p;rw[hc]at h;simp only at h⊢;have heff:isEff o=true:=by
   cases o<;>simp only[hcallOf]at hc<;>try cases hc
   rename_i c;split at hc
   · grind[isEff]
   · grind
  obtain⟨h1,nd,h⟩:=h;refine⟨h1,nd,?_⟩;split at h
  · exact vT hu hav (fun id hid=>⟨(hF id hid).1 heff,(hF id hid).2⟩) hfresh h
  · exact vT hu hav (fun id hid=>⟨(hF id hid).1 heff,(hF id hid).2⟩) hfresh h
  grind
 |none=>
  rw[hc]at h;simp only at h⊢;obtain⟨ht,h⟩:=h;have hnt: ∀p,u=some p→p.1∉touch o e:=fun p hp hin=>(ht _ hin).1 (hu p hp).1;have hobt: ∀id∈touch o e,app u ob id=ob id:=fun id hid=>kQ (fun p hp e=>hnt p hp (e▸hid));obtain⟨v,u',hK,hform,hid'⟩:=pW h;refine⟨fun id hid=>⟨fun hin=>(ht id hid).1 (hav _ hin),by grind⟩,hform ob (fun id hid=>(hobt id hid).symm) _ ⟨?_,fun id hid=>?_⟩⟩
  ·
   rw[bV1 (u:=u) (u':=u') (ob:=ob) (fun p p' hp hp' e=>?_)]
   · grind
   ·
    rcases hid' p' hp' with h1|⟨_,h1⟩
    · exact(hu p hp).2.1 ⟨by omega,by omega⟩
    grind
  ·
   refine kQ (fun p hp e=>?_);rcases hid' p hp with h1|⟨h2,h1⟩
   · have:=hfresh 0 (by omega);grind
   grind
variable {K':HV→Ob→Prop}
theorem HCall.mono (hav: ∀x∈av',x∈av)(hK: ∀v ob,K v ob→K' v ob)(h:HCall P av f args ob nid K):HCall P av' f args ob nid K':=by
 obtain⟨σ,largs,lob,R,h1,h2,⟨h3,h4⟩,h5,h6,h7⟩:=h;exact⟨σ,largs,lob,R,h1,h2,⟨h3,fun s hs hin=>h4 s hs (hav _ hin)⟩,h5,h6,fun r lob' hR hr=>hK _ _ (h7 r lob' hR hr)⟩
theorem HCallL.mono (hav: ∀x∈av',x∈av)(hK: ∀v ob,K v ob→K' v ob)(h:HCallL P av f args ob nid K):HCallL P av' f args ob nid K':=by
 obtain⟨σ,largs,lob,R,h1,h2,⟨h3,h4⟩,h5,h6,h7⟩:=h;exact⟨σ,largs,lob,R,h1,h2,⟨h3,fun j hj=>(h4 j hj).imp (fun h hin=>h (hav _ hin)) (fun h=>h)⟩,h5,h6,fun r lob' hR hr=>hK _ _ (h7 r lob' hR hr)⟩
theorem bM9 (hK: ∀v ob,K v ob→K' v ob)(h:aJ9 P nid o e ob K):aJ9 P nid o e ob K':=by
 obtain⟨v,u,h1,h2,_⟩:=pW h;grind
theorem vU (hav: ∀x∈av',x∈av)(hK: ∀v ob,K v ob→K' v ob)(h:fB P av nid o e ob K):fB P av' nid o e ob K':=by
 unfold fB at h⊢;split at h
 ·
  obtain⟨h1,nd,h⟩:=h;refine⟨h1,nd,?_⟩;split at h
  · exact h.mono hav hK
  · exact h.mono hav hK
  grind
 grind[id,bM9]
abbrev kY :=List (Nat×List Nat)
def kE (ops:Array Oper)(nx:Nat)(wt:Nat→Nat→Bool)(C:kY)(j:Nat):List Nat:=
 C.flatMap fun p=>if wt j p.1=true then []else [nx+4*p.1,nx+4*p.1+1,nx+4*p.1+2,nx+4*p.1+3]++(if((ops[j]?).map (fun o=>isEff o.op)).getD true=true then p.2 else [])
def yE (P:Program)(ops:Array Oper)(nx:Nat)(wt:Nat→Nat→Bool)(Q:Fr→Ob→Prop):Nat→kY→Array Bool→Fr→Ob→Prop
 |0,_,listed,fr,ob=>Region.ready .any ops listed=[]∧Q fr ob
 |n+1,C,listed,fr,ob=>(Region.ready .any ops listed=[]→Q fr ob)∧
  ∀i∈Region.ready .any ops listed,eE P ops nx (kE ops nx wt C i) i (yE P ops nx wt Q n C (listed.setIfInBounds i true)) fr ob
def Fresh (nx:Nat)(listed:Array Bool)(ob:Ob):Prop:= ∀j,listed.getD j true=false→ ∀t,t<4→ob (nx+4*j+t)=none
def Down (ops:Array Oper)(listed:Array Bool):Prop:= ∀j o,ops[j]? =some o→listed.getD j false=true→ ∀e∈o.after,Region.binds .any e=true→listed.getD e.on false=true
def bV2 (ops:Array Oper)(wt:Nat→Nat→Bool):Prop:=ops.size≤2500∧ ∀j i,wt j i=true→ ∃o,ops[j]? =some o∧ ∃e∈o.after,Region.binds .any e=true∧(e.on=i∨(e.on<j∧wt e.on i=true))
variable {listed:Array Bool}{wt:Nat→Nat→Bool}
theorem bN0 (hw:bV2 ops wt)(hd:Down ops listed): ∀(n j i:Nat),j=n→wt j i=true→(∀o,ops[j]? =some o→ ∀e∈o.after,Region.binds .any e=true→listed.getD e.on false=true)→listed.getD i false=true:=by
 intro n;induction n using Nat.strongRecOn with
 |_ n ih=>
  intro j i hj hwt hall;obtain⟨o,ho,e,he,hb,h⟩:=hw.2 j i hwt;have h1:=hall o ho e he hb;rcases h with h|⟨h2,h3⟩
  · grind
  · exact ih e.on (by omega) e.on i rfl h3 (fun o' ho' e' he' hb'=>hd e.on o' ho' h1 e' he' hb')
variable {i j:Nat}
theorem cR5 (hw:bV2 ops wt)(hd:Down ops listed)(hj:j∈Region.ready .any ops listed)(hi:listed.getD i true=false):wt j i=false:=by
 cases h:wt j i with
 |false=>rfl
 |true=>
  obtain⟨_,o,ho,hall⟩:=AQ.1 hj;have:=bN0 hw hd j j i rfl h (fun o' ho' e he hb=>by grind);grind
theorem Down.set (hd:Down ops listed)(hi:i∈Region.ready .any ops listed):Down ops (listed.setIfInBounds i true):=by
 obtain⟨_,oi,hoi,hall⟩:=AQ.1 hi;intro j o ho hl e he hb;by_cases hij:i=j
 · grind[getD_set_true]
 · rw[CH false hij]at hl;exact getD_set_true (hd j o ho hl e he hb)
theorem aD4 (ops:Array Oper)(nx:Nat)(wt:Nat→Nat→Bool)(p:Nat×List Nat)(C:kY)(j:Nat): ∀x∈kE ops nx wt C j,x∈kE ops nx wt (p::C) j:=by grind[kE,List.mem_append_right]
variable {nx:Nat}
theorem kZ {K K':Fr→Ob→Prop}(hav: ∀x∈av',x∈av)(hK: ∀fr ob,K fr ob→K' fr ob)(h:eE P ops nx av i K fr ob):eE P ops nx av' i K' fr ob:=by
 unfold eE at h⊢;split at h;all_goals grind[vU]
theorem rK {P:Program}{ops:Array Oper}{nx:Nat}{wt:Nat→Nat→Bool}{Q:Fr→Ob→Prop}{p:Nat×List Nat}{C:kY}: ∀{n:Nat} {listed:Array Bool} {fr:Fr} {ob:Ob},yE P ops nx wt Q n (p::C) listed fr ob→yE P ops nx wt Q n C listed fr ob
 |0,_,_,_,h=>h
 |_+1,_,_,_,h=>⟨h.1,fun i hi=>kZ (aD4 ops nx wt p C i) (fun _ _=>rK) (h.2 i hi)⟩
structure Yld (P:Program)(ops:Array Oper)(nx:Nat)(av:List Nat)(i:Nat)(oi:Oper)(fr:Fr)(ob:Ob)(v:HV)(u:Option (Nat×HO))(F:List Nat):Prop where
 run: ∀fr' ob',(∀x∈oi.op.operands,ev fr' x=ev fr x)→hguard ops oi fr'=hguard ops oi fr→bG5 F ob ob'→ ∀K:Fr→Ob→Prop,K (updo fr' oi.dst v) (app u ob')→eE P ops nx av i K fr' ob'
 new: ∀p,u=some p→p.1=nx+4*i
 live: ∀id∈F,(ob id).isSome=true
variable {oi:Oper}
theorem aQ9 {oj:Oper}{K:Fr→Ob→Prop}{F:List Nat}
  (hoj:ops[j]? =some oj) (hap:oi.apart ops oj=true) (hu:bG6 u av (nx+4*j)) (hav: ∀x∈av',x∈av) (hF: ∀id∈F,(isEff oj.op=true→id∈av)∧(ob id).isSome=true) (hfresh: ∀t,t<4→ob (nx+4*j+t)=none)
  (h:eE P ops nx av j K (updo fr oi.dst v) (app u ob)):
  eE P ops nx av' j (fun fr' ob'=>K (updo fr' oi.dst v) (app u ob')∧bG5 F ob ob'∧(∀x∈oi.op.operands,ev fr' x=ev fr x)∧hguard ops oi fr'=hguard ops oi fr) fr ob:=by
 obtain⟨h1,h2,h3⟩:=Oper.apart_spec hap;have kept: ∀y,(∀x∈oi.op.operands,ev (updo fr oj.dst y) x=ev fr x)∧hguard ops oi (updo fr oj.dst y)=hguard ops oi fr:=fun y=>⟨oL h3,vS h3⟩;unfold eE at h⊢;rw[hoj]at h⊢;simp only at h⊢;rw[vS h1]at h;split at h
 · rename_i hg;have h':=sQ (e':=ev fr) (fun x hx=>(oL h1 x hx).symm) h;refine vU (fun x hx=>hx) (fun y ob' hK=>?_) (aK0 (F:=F) hu hav hF hfresh h');grind[aD3]
 · rw[aD3 h2]at h;exact⟨h,fun _ _=>rfl,kept _⟩
 grind
theorem Fresh.set (h:Fresh nx listed ob)(i:Nat):Fresh nx (listed.setIfInBounds i true) ob:=fun j hj=>by
 by_cases hij:i=j
 · simp_all
 · rw[CH true hij]at hj;exact h j hj
theorem vV {K:Fr→Ob→Prop}(hf:Fresh nx listed ob)(h:eE P ops nx av i K fr ob):
  eE P ops nx av i (fun fr' ob'=>K fr' ob'∧Fresh nx (listed.setIfInBounds i true) ob') fr ob:=by
 have key: ∀ob':Ob,(∀id,ob id=none→ ¬(nx+4*i≤id∧id<nx+4*i+4)→ob' id=none)→Fresh nx (listed.setIfInBounds i true) ob':=by
  intro ob' h1 j hj t ht;have h2:=hf.set i j hj t ht;refine h1 _ h2 (fun h3=>?_);have hij:i=j:=by omega
  subst hij;rcases H0 i listed.size with h'|h'
  · simp_all
  · grind
 unfold eE at h⊢;cases ho:ops[i]? with
 |none=>grind
 |some o=>
  rw[ho]at h;simp only at h⊢;cases hg:hguard ops o fr with
  |none=>grind
  |some b=>
   rw[hg]at h;cases b with
   |false=>grind
   |true=>
    simp only at h⊢;unfold fB at h⊢;cases hc:hcallOf o.op with
    |none=>
     rw[hc]at h;simp only at h⊢;obtain⟨v,u,hK,hform,hid⟩:=pW h.2;refine⟨h.1,hform ob (fun _ _=>rfl) _ ⟨hK,key _ (fun id h1 h2=>?_)⟩⟩;grind[kQ]
    |some p=>
     obtain⟨f,xs⟩:=p;rw[hc]at h;simp only at h⊢;obtain⟨h1,nd,h⟩:=h;refine⟨h1,nd,?_⟩;have hcall: ∀g args,HCallL P av g args ob (nx+4*i) (fun v ob'=>K (updo fr o.dst v) ob')→HCallL P av g args ob (nx+4*i) (fun v ob'=>K (updo fr o.dst v) ob'∧Fresh nx (listed.setIfInBounds i true) ob'):=by
      rintro g args ⟨σ,largs,lob,R,h1,h2,h3,h5,h6,h7⟩;refine⟨σ,largs,lob,R,h1,h2,h3,h5,h6,fun r lob' hR hr=>⟨h7 r lob' hR hr,key _ (fun id e1 e2=>?_)⟩⟩;unfold cJ;split
      · rename_i j hj;exfalso;rw[J1]at hj;obtain⟨hj1,hj2,_⟩:=hj;obtain⟨o',ho'⟩:=h2.all j hj1;have:=h6 j o' ho';rw[C7,B5 hj1]at this;simp only[G9]at hj2;simp only[E0,hj2,e1]at this;cases this
      · rw[A7 e2];exact e1
     grind
theorem aR0 {Q:Fr→Ob→Prop}(hi:ops[i]? =some oi)(hw:bV2 ops wt){F:List Nat}{C:kY}:
  ∀(n:Nat) (listed:Array Bool) (fr:Fr) (ob:Ob),Down ops listed→Fresh nx listed ob→
   (∀j oj,ops[j]? =some oj→j≠i→listed.getD j true=false→(∀e∈oj.after,Region.binds .any e=true→e.on≠i)→oi.apart ops oj=true)→
   i∈Region.ready .any ops listed→Yld P ops nx (kE ops nx wt C i) i oi fr ob v u F→
   yE P ops nx wt Q n ((i,F)::C) (listed.setIfInBounds i true) (updo fr oi.dst v) (app u ob)→yE P ops nx wt Q (n+1) C listed fr ob:=by
 intro n;induction n with
 |zero=>
  intro listed fr ob hd hf hfree hr hy H;refine⟨fun h=>(by grind),fun j hj=>?_⟩;by_cases hji:j=i
  · subst hji;exact hy.run fr ob (fun _ _=>rfl) rfl (fun _ _=>rfl) _ (rK H)
  · have:=ready_mono hj hji;rw[H.1]at this;grind
 |succ n ih=>
  intro listed fr ob hd hf hfree hr hy H;have hiun:=(AQ.1 hr).1;refine⟨fun h=>(by grind),fun j hj=>?_⟩;by_cases hji:j=i
  · subst hji;exact hy.run fr ob (fun _ _=>rfl) rfl (fun _ _=>rfl) _ (rK H)
  ·
   have h1:=H.2 j (ready_mono hj hji);obtain⟨hjun,oj,hoj,hall⟩:=AQ.1 hj;have hnot: ∀e∈oj.after,Region.binds .any e=true→e.on≠i:=fun e he hb heq=>by grind
   have hnw:=cR5 hw hd hj hiun;have hin: ∀t,t<4→nx+4*i+t∈kE ops nx wt ((i,F)::C) j:=fun t ht=>by
    unfold kE;grind
   have hFin:isEff oj.op=true→ ∀id∈F,id∈kE ops nx wt ((i,F)::C) j:=fun he id hid=>by
    unfold kE;grind
   have hu:bG6 u (kE ops nx wt ((i,F)::C) j) (nx+4*j):=fun p hp=>by
    have:=hy.new p hp;have hjs:=(G6.1 hoj).1;have hs:=hw.1;exact⟨by rw[this];exact hin 0 (by omega),by omega,by omega⟩
   have h2:=aQ9 (F:=F) (av':=kE ops nx wt C j) hoj (hfree j oj hoj hji hjun hnot) hu (aD4 ops nx wt _ C j) (fun id hid=>⟨fun he=>hFin he id hid,hy.live id hid⟩) (hf j hjun) h1;have h3:=vV hf h2;have hfree': ∀k ok,ops[k]? =some ok→k≠i→(listed.setIfInBounds j true).getD k true=false→
     (∀e∈ok.after,Region.binds .any e=true→e.on≠i)→oi.apart ops ok=true:=fun k ok hk hki hun hno=>by
    refine hfree k ok hk hki ?_ hno;by_cases hjk:j=k
    · subst hjk;exact hjun
    · rw[CH true hjk]at hun;exact hun
   refine kZ (fun x hx=>hx) (fun fr' ob' hK=>?_) h3;obtain⟨⟨hK,hA,hev,hgd⟩,hf'⟩:=hK;refine ih (listed.setIfInBounds j true) fr' ob' (hd.set hj) hf' hfree' (ready_mono hr (W7 hji)) ⟨fun fr2 ob2 e1 e2 e3 K hK'=>?_,hy.new,fun id hid=>?_⟩ ?_
   · exact hy.run fr2 ob2 (fun x hx=>(e1 x hx).trans (hev x hx)) (e2.trans hgd) (fun id hid=>(e3 id hid).trans (hA id hid)) K hK'
   · rw[hA id hid];exact hy.live id hid
   · rw[Array.setIfInBounds_comm _ _ hji];exact hK
def oM (P:Program)(ops:Array Oper)(nx:Nat)(wt:Nat→Nat→Bool)(Q:Fr→Ob→Prop):List Nat→kY→Fr→Ob→Prop
 |[],_,fr,ob=>Q fr ob
 |i::rest,C,fr,ob=>eE P ops nx (kE ops nx wt C i) i (oM P ops nx wt Q rest (match ops[i]? with
   |some o=>if isEff o.op=true then C else(i,if hguard ops o fr=some true then touch o.op (ev fr)else [])::C
   |none=>C)) fr ob
def lA (ops:Array Oper):List Nat→Array Bool→Bool
 |[],listed=>(Region.ready .any ops listed).isEmpty
 |i::rest,listed=>
  (match ops[i]? with
   |some o=>if isEff o.op then decide (Region.ready .any ops listed=[i])else(Region.ready .any ops listed).contains i&&Region.free .any ops listed i
   |none=>false)&&lA ops rest (listed.setIfInBounds i true)
theorem mE {P:Program}{ops:Array Oper}{nx:Nat}{wt:Nat→Nat→Bool}{Q:Fr→Ob→Prop}(hw:bV2 ops wt): ∀(plan:List Nat) (C:kY) (listed:Array Bool) (fr:Fr) (ob:Ob),lA ops plan listed=true→Down ops listed→Fresh nx listed ob→
  oM P ops nx wt Q plan C fr ob→yE P ops nx wt Q plan.length C listed fr ob
 |[],C,listed,fr,ob,hp,_,_,h=>⟨by simpa[lA]using hp,h⟩
 |i::rest,C,listed,fr,ob,hp,hd,hf,h=>by
  simp only[lA,A6]at hp;obtain⟨hp1,hp2⟩:=hp;cases ho:ops[i]? with
  |none=>grind
  |some o=>
   rw[ho]at hp1;simp only at hp1;have h':=vV hf h;by_cases he:isEff o.op=true
   ·
    rw[B6 he,B9]at hp1;have hi:i∈Region.ready .any ops listed:=by rw[hp1];simp
    refine⟨fun h0=>(by grind),fun j hj=>?_⟩;rw[hp1]at hj;have hji:j=i:=by simpa using hj
    subst hji;refine kZ (fun x hx=>hx) (fun fr' ob' hK=>?_) h';obtain⟨hK,hf'⟩:=hK;simp only[ho,he,F7]at hK;exact mE hw rest C _ fr' ob' hp2 (hd.set hi) hf' hK
   ·
    rw[A7 he,A6]at hp1;have hi:i∈Region.ready .any ops listed:=by simpa using hp1.1
    have hfree:=Region.free_spec ho hp1.2;have he':isEff o.op=false:=by simpa using he
    have hy: ∃v u,Yld P ops nx (kE ops nx wt C i) i o fr ob v u (if hguard ops o fr=some true then touch o.op (ev fr)else [])∧
      (oM P ops nx wt Q rest ((i,if hguard ops o fr=some true then touch o.op (ev fr)else [])::C) (updo fr o.dst v) (app u ob)∧Fresh nx (listed.setIfInBounds i true) (app u ob)):=by
     unfold eE at h';rw[ho]at h';simp only[he',E7,J2]at h';cases hg:hguard ops o fr with
     |none=>grind
     |some b=>
      rw[hg]at h';cases b with
      |false=>
       refine⟨.tup [],none,⟨fun fr2 ob2 e1 e2 e3 K hK=>?_,by simp,by simp⟩,?_⟩;all_goals grind[eE,app]
      |true=>
       simp only at h';unfold fB at h';have hc:hcallOf o.op=none:=by
        cases hop:o.op<;>simp only[hcallOf];rename_i c;cases hcal:c.callee with
        |value f=>grind[isEff]
        |_=>rfl
       rw[hc]at h';simp only at h';obtain⟨ht,h'⟩:=h';obtain⟨v,u,hK,hform,hid⟩:=pW h';refine⟨v,u,⟨fun fr2 ob2 e1 e2 e3 K hK=>?_,fun p hp=>?_,fun id hid=>?_⟩,?_⟩
       · unfold eE;rw[ho];simp only[e2,hg];refine sQ (e:=ev fr) e1 ?_;unfold fB;rw[hc];simp only[F7]at e3⊢;exact⟨fun id hid=>⟨(ht id hid).1,by rw[e3 id hid];grind⟩,hform ob2 e3 _ hK⟩
       ·
        rcases hid p hp with h1|⟨h1,_⟩
        · exact h1
        · rw[he']at h1;cases h1
       · simp only[F7]at hid;exact(ht id hid).2
       grind
    obtain⟨v,u,hy,hK,hf'⟩:=hy;exact aR0 ho hw rest.length listed fr ob hd hf hfree hi hy (mE hw rest _ _ _ _ hp2 (hd.set hi) hf' hK)
def Ctx.F (c:Ctx):Fence:={Fence.wide with round:=c.R}
variable {n:Nat}
theorem bN1 {c:Ctx}{args:Array Value}{w:World}{R:Ending→World→Prop}(h:Calls P f args w R):CallsIn c.F n P f args w R:=by
 have h1:=(callsIn_wide (n:=n)).2 h;unfold Ctx.F;cases c.R with
 |none=>exact h1
 |some l=>exact h1.inRound l
section
variable {P:Program}{c:Ctx}{M M':Nat→Prop}{fr:Fr}{ob:Ob}{a:Act}{w:World}{ρ:Env}
theorem bN2 {a:Act}{d:Nat}{v:Value}(h:a.tmps.getD d undef=v)(hv:v≠undef):a.tmps[d]? =some v:=by
 rw[K8]at h;grind
theorem qZ (h:RepA' c M fr ob a w ρ){ops:Array Oper}{o:Oper}{b:Bool}(hg:hguard ops o fr=some b):Region.wanted o (yielded ops a.tmps)=b:=by
 unfold hguard at hg;unfold Region.wanted;split at hg
 · grind
 ·
  rename_i j want hn;rw[hn];split at hg
  ·
   rename_i d hd;split at hg
   · rename_i t ht;cases hg;have hr:=h.f d (by grind);rw[ht]at hr;have:=bN2 hr.bool (by simp[undef]);grind[yielded]
   ·
    rename_i l ht;cases hg;have hr:=dQ (h.f d (by grind)) (by rw[ht];rfl);rw[ht]at hr;simp only[RepH,G4,L8]at hr;obtain⟨⟨xs,hx,_⟩,_⟩:=hr;have:yielded ops a.tmps j=none:=by
     simp only[yielded,hd,Z3];rw[K8]at hx;cases hq:a.tmps[d]? with
     |none=>rfl
     |some y=>grind
    grind
   grind
  grind
theorem sS {w:World}{ρ:Env}{O:Nat→Prop}: ∀{l l':List HV} {xs ys:List Value},RepHV w ρ O l xs→RepHV w ρ O l' ys→RepHV w ρ O (l++l') (xs++ys)
 |[],_,xs,ys,h,h'=>by grind[RepHV]
 |v::vs,l',xs,ys,h,h'=>by
  rw[bY]at h;obtain⟨z,zs,rfl,h1,h2⟩:=h;rw[J4,bY];exact⟨z,zs++ys,rfl,h1,sS h2 h'⟩
theorem aD5 (h:RepA' c M fr ob a w ρ): ∀(l:List Operand),(∀x∈l,ev fr x≠ .junk)→RepHV w ρ (Owned ρ c.X) (l.map fun x=>(ev fr x).den) (l.map a.eval)
 |[],_=>by simp[RepHV]
 |x::xs,hj=>by
  simp only[D0,bY];exact⟨_,_,rfl,HV.den_rep (h.ev x (hj _ (by simp))),aD5 h xs (fun y hy=>hj y (by grind))⟩
theorem bV3 (h:RepA' c M fr ob a w ρ)(nd:Bool)(l:List Operand)(hj: ∀x∈l,ev fr x≠ .junk):RepHV w ρ (Owned ρ c.X) (l.map fun x=>dn nd (ev fr x)) (l.map a.eval):=by
 cases nd with
 |false=>exact aD5 h l hj
 |true=>
  induction l with
  |nil=>simp[RepHV]
  |cons x xs ih=>
   simp only[D0,bY];exact⟨_,_,rfl,h.ev x (hj _ (by simp)),ih fun y hy=>hj y (by grind)⟩
theorem aK1 {Q:Exit→Act→World→Prop}(h:RepA' c M fr ob a w ρ){nid:Nat}(hnid: ∀t,t<4→ ¬M (nid+t))(hM: ∀i,M i→M' i)(hM': ∀t,t<4→M' (nid+t)){av:List Nat}{o:Oper}{K:HV→Ob→Prop}
  (hl:fB P av nid o.op (ev fr) ob K) (hd: ∀k,o.dst=some k→k<c.n):o.wpIn c.F 0 P a w (fun a' w'=> ∃v ob',K v ob'∧RepA c M' (updo fr o.dst v) ob' a' w') Q:=by
 unfold fB at hl;split at hl
 ·
  rename_i f xs hc;obtain⟨hj,nd,hl⟩:=hl;have hop: ∃cl:Call,o.op= .call cl∧cl.callee= .value f∧cl.args.toList=xs:=by
   unfold hcallOf at hc;split at hc
   · grind
   · grind
  obtain⟨cl,hocl,hcal,hargs⟩:=hop;have hr:=bV3 h nd xs hj;have hargs':cl.args.map a.eval=(xs.map a.eval).toArray:=by grind
  have fin: ∀(g:FuncId) (first:Array Value) (caps:List Value) (extra:List HV),a.eval f= .func (.func g) #[] caps.toArray→RepHV w ρ (Owned ρ c.X) extra caps→HV.menL M extra→HCallL P av g ((xs.map fun x=>dn nd (ev fr x))++extra) ob nid K→
    o.wpIn c.F 0 P a w (fun a' w'=> ∃v ob',K v ob'∧RepA c M' (updo fr o.dst v) ob' a' w') Q:=by
   intro g first caps extra hf hex _ hcallx
   have happ:RepHV w ρ (Owned ρ c.X) ((xs.map fun x=>dn nd (ev fr x))++extra) (xs.map a.eval++caps):=sS hr hex;obtain⟨hok,hcalls⟩:=aQ5 h hnid hM hM' happ hcallx o.dst hd;refine⟨fun _ _=>trivial,?_⟩;rw[V4 _ _ _ (by grind)];have hnn: ∃fn,P.funcs[g]? =some fn∧fn.name≠ "runtime.NumGoroutine" :=by
    unfold bM5 at hok;cases hfn:P.funcs[g]? with
    |none=>rw[hfn]at hok;cases hok
    |some fn=>
     rw[hfn]at hok;exact⟨fn,rfl,by simpa using hok⟩
   obtain⟨fn,hfn,hnm⟩:=hnn;rcases hcalls with⟨hok,hcalls⟩|⟨_,y,hrn,hcalls⟩
   rotate_left
   ·
    obtain⟨y',v,ob',ρ',e,hK,hA⟩:=hcalls;cases e;have hrun:(execOp a.eval o).run P w= .ok (.value y) w:=by
     rw[←hrn];simp[execOp,hocl,resolve,hcal,hf,Deferred.ofValue,invoke,hargs']
    rw[hrun];exact⟨v,ob',hK,ρ',hA⟩
   have hrun:(execOp a.eval o).run P w= .ok (.enter g (xs.map a.eval++caps).toArray) w:=by
    unfold fQ at hok;cases hfn:P.funcs[g]? with
    |none=>rw[hfn]at hok;cases hok
    |some fn=>
     rw[hfn]at hok;simp only[A6,J8]at hok;have hb:fn.body≠none:=by intro e;rw[e]at hok;simp at hok
     have hnm:fn.name≠ "runtime.NumGoroutine" :=by simpa using hok.2
     simp[execOp,hocl,resolve,hcal,hf,Deferred.ofValue,invoke,callFunc,hfn,hnm,hb,hargs']
   rw[hrun];simp only[Oper.uponIn];refine⟨fun h=>(by cases h),bN1 (hcalls.mono ?_)⟩;rintro e w' ⟨y,v,ob',ρ',rfl,hK,hA⟩;exact⟨v,ob',hK,ρ',hA⟩
  split at hl
  · rename_i g hf;have hrf:=h.ev f (by grind);rw[hf]at hrf;have:=hrf.single rfl;simp only[RepC,G4,L8]at this;exact fin g #[] [] [] this (by simp[RepHV]) (by simp[HV.menL]) (by grind)
  · rename_i g caps hf;have hrf:=dQ (h.ev f (by grind)) (by rw[hf];rfl);have hm:=h.evm f;rw[hf]at hrf hm;simp only[RepH,G4,L8,HV.men]at hrf hm;obtain⟨⟨ys,hy,hys⟩,_⟩:=hrf;exact fin g #[] ys caps hy hys hm hl
  grind
 ·
  obtain⟨_,hl⟩:=hl;have hnd: ∀c,o.op≠ .defer c:=by
   intro cc hcc;rw[hcc]at hl;rcases hl with hl|⟨id,hm,hl⟩|hl<;>exact hl
  rcases hl with hl|⟨id,hm,hl⟩|hl
  rotate_left 2
  ·
   obtain⟨y,w',⟨v,ob',ρ',hK,hA⟩,hr⟩:=bA2 (M':=M') h (by simpa using hnid 0 (by omega)) hM (by simpa using hM' 0 (by omega)) hl hd;refine⟨fun _ _=>trivial,?_⟩;rw[V4 _ _ _ hnd];rcases hr with hr|⟨hr,rfl⟩
   · rw[hr];exact⟨v,ob',hK,ρ',hA⟩
   · rw[hr];exact⟨v,ob',hK,ρ',hA⟩
  ·
   obtain⟨y,w',⟨v,ob',ρ',hK,hA⟩,hr⟩:=aC9 (M':=M') h (by simpa using hnid 0 (by omega)) hM (by simpa using hM' 0 (by omega)) hl hd;refine⟨fun _ _=>trivial,?_⟩;rw[V4 _ _ _ hnd];rcases hr with hr|⟨hr,rfl⟩
   · rw[hr];exact⟨v,ob',hK,ρ',hA⟩
   · rw[hr];exact⟨v,ob',hK,ρ',hA⟩
  ·
   obtain⟨y,w',⟨v,ob',ρ',⟨n,el,sz,l,rfl,rfl,hn,hK⟩,hA⟩,hr⟩:=aC9 (M':=M') h (by simpa using hnid 0 (by omega)) hM (by simpa using hM' 0 (by omega)) hl hd;obtain⟨ρ2,hA2⟩:=hA.die hn;refine⟨fun _ _=>trivial,?_⟩;rw[V4 _ _ _ hnd];rcases hr with hr|⟨hr,rfl⟩
   · rw[hr];exact⟨_,_,hK,ρ2,hA2⟩
   · rw[hr];exact⟨_,_,hK,ρ2,hA2⟩
end
section
variable {P:Program}{c:Ctx}{M M':Nat→Prop}{fr:Fr}{ob:Ob}{a:Act}{w:World}{ρ:Env}
theorem RepA.mono (h:RepA c M fr ob a w)(hM: ∀i,M i→M' i):RepA c M' fr ob a w:=let⟨ρ,h⟩:=h;⟨ρ,h.weaken hM⟩
theorem bN3 (w:World)(ρ:Env)(O:Nat→Prop):RepV w ρ O (.tup []) undef:=⟨by simp only[RepH];exact⟨[],rfl,by simp[RepHV]⟩,rfl⟩
theorem oN {Q:Exit→Act→World→Prop}{ops:Array Oper}{nx i:Nat}{av:List Nat}{K:Fr→Ob→Prop}(h:RepA c M fr ob a w)(hnid: ∀t,t<4→ ¬M (nx+4*i+t))(hM: ∀i,M i→M' i)(hM': ∀t,t<4→M' (nx+4*i+t))
  (hd: ∀o∈ops,∀k,o.dst=some k→k<c.n) (hl:eE P ops nx av i K fr ob):wpOpIn c.F 0 P ops Q i (fun a' w'=> ∃fr' ob',K fr' ob'∧RepA c M' fr' ob' a' w') a w:=by
 obtain⟨ρ,h⟩:=h;unfold eE at hl;unfold wpOpIn;cases ho:ops[i]? with
 |none=>grind
 |some o=>
  rw[ho]at hl;simp only at hl⊢;have hdo:=hd o (P4 ho);cases hg:hguard ops o fr with
  |none=>grind
  |some b=>
   rw[hg]at hl;rw[qZ h hg];cases b with
   |true=>
    simp only[F7]at hl⊢;refine Oper.wpIn_mono (fun a' w' hx=>?_) (aK1 (Q:=Q) h hnid hM hM' hl hdo);grind
   |false=>
    simp only[E7,J2]at hl⊢;exact⟨fun _ _=>trivial,_,ob,hl,ρ,(h.value (.inr (bN3 _ _ _)) (by simp[HV.men,HV.menL]) hdo).weaken hM⟩
def hlexG (P:Program)(ops:Array Oper)(nx:Nat)(Q:Fr→Ob→Prop):List Nat→Fr→Ob→Prop
 |[],fr,ob=>Q fr ob
 |i::rest,fr,ob=>eE P ops nx [] i (hlexG P ops nx Q rest) fr ob
theorem oO {Q:Exit→Act→World→Prop}{ops:Array Oper}{nx:Nat}{K:Fr→Ob→Prop}(hd: ∀o∈ops,∀k,o.dst=some k→k<c.n)(N:Nat)
  (hQ: ∀fr ob a w,K fr ob→RepA c (· <nx+4*N) fr ob a w→Q .normal a w): ∀(n k:Nat) (fr:Fr) (ob:Ob) (a:Act) (w:World),k+n=N→RepA c (· <nx+4*k) fr ob a w→hlexG P ops nx K (List.range' k n) fr ob→wpOpsIn c.F 0 P ops Q (List.range' k n) a w
 |0,k,fr,ob,a,w,hk,h,hl=>by
  simp only[List.range'_zero,hlexG,wpOpsIn]at hl⊢;exact hQ fr ob a w hl (by simp_all)
 |n+1,k,fr,ob,a,w,hk,h,hl=>by
  simp only[V2,hlexG,wpOpsIn_cons]at hl⊢;refine wpOpIn_mono (fun a' w' hx=>?_) (oN (Q:=Q) (M':=(· <nx+4*(k+1))) h (fun t ht=>by omega) (fun i hi=>by omega) (fun t ht=>by omega) hd hl);obtain⟨fr',ob',hK,hA⟩:=hx;exact oO hd N hQ n (k+1) fr' ob' a' w' (by omega) hA hK
def hstep (P:Program)(av:List Nat)(nid:Nat)(o:Op)(e:Operand→HV)(ob:Ob)(K:HV→Ob→Prop):Prop:=
 match hcallOf o with
 |some (f,xs)=>(∀x∈xs,e x≠ .junk)∧match e f with
  | .c (.fn g)=>HCall P av g (xs.map fun x=>(e x).den) ob nid K
  | .clo g caps=>HCall P av g ((xs.map fun x=>(e x).den)++caps) ob nid K
  |_=>False
 |none=>(∀id∈touch o e,id∉av∧(ob id).isSome=true)∧hop P nid o e ob K
def hopI (P:Program)(ops:Array Oper)(nx:Nat)(av:List Nat)(i:Nat)(K:Fr→Ob→Prop)(fr:Fr)(ob:Ob):Prop:=
 match ops[i]? with
 |none=>False
 |some o=>match hguard ops o fr with
  |some true=>hstep P av (nx+4*i) o.op (ev fr) ob fun v ob'=>K (updo fr o.dst v) ob'
  |some false=>K (updo fr o.dst (.tup [])) ob
  |none=>False
def hlex (P:Program)(ops:Array Oper)(nx:Nat)(Q:Fr→Ob→Prop):List Nat→Fr→Ob→Prop
 |[],fr,ob=>Q fr ob
 |i::rest,fr,ob=>hopI P ops nx [] i (hlex P ops nx Q rest) fr ob
theorem cI2 {P:Program}{av:List Nat}{nid:Nat}{o:Op}{e:Operand→HV}{ob:Ob}{K:HV→Ob→Prop}(h:hstep P av nid o e ob K):fB P av nid o e ob K:=by
 unfold hstep at h;unfold fB;cases hc:hcallOf o with
 |some p=>
  rw[hc]at h;refine⟨h.1,false,?_⟩;have h:=h.2;split at h
  · rename_i g hg;first|(rw[hg];exact h.L)|exact h.L
  · rename_i g caps hg;first|(rw[hg];exact h.L)|exact h.L
  grind
 |none=>rw[hc]at h;exact⟨h.1,.inl h.2⟩
theorem uO {P:Program}{ops:Array Oper}{nx:Nat}{av:List Nat}{i:Nat}{K K':Fr→Ob→Prop}{fr:Fr}{ob:Ob}(hK: ∀fr ob,K fr ob→K' fr ob)(h:hopI P ops nx av i K fr ob):eE P ops nx av i K' fr ob:=by
 refine kZ (K:=K) (fun _ hx=>hx) hK ?_;grind[hopI,eE,hguard,cI2]
theorem aK2 {P:Program}{ops:Array Oper}{nx:Nat}{Q:Fr→Ob→Prop}: ∀{l:List Nat} {fr:Fr} {ob:Ob},hlex P ops nx Q l fr ob→hlexG P ops nx Q l fr ob
 |[],_,_,h=>h
 |_::_,_,_,h=>uO (fun _ _=>aK2) h
def cI3 (nx:Nat)(listed:Array Bool)(id:Nat):Prop:=id<nx∨ ∃i t,listed.getD i false=true∧t<4∧id=nx+4*i+t
theorem aR1 {Q:Exit→Act→World→Prop}{ops:Array Oper}{nx:Nat}{wt:Nat→Nat→Bool}{K:Fr→Ob→Prop}{C:kY}(hd: ∀o∈ops,∀k,o.dst=some k→k<c.n)
  (hQ: ∀fr ob a w,K fr ob→RepA c (· <nx+4*ops.size) fr ob a w→Q .normal a w): ∀(n:Nat) (listed:Array Bool) (fr:Fr) (ob:Ob) (a:Act) (w:World),listed.size=ops.size→RepA c (cI3 nx listed) fr ob a w→
  yE P ops nx wt K n C listed fr ob→wpAnyIn c.F 0 P .any ops Q n listed a w:=by
 have fin: ∀(listed:Array Bool) fr ob a w,listed.size=ops.size→K fr ob→RepA c (cI3 nx listed) fr ob a w→Q .normal a w:=fun listed fr ob a w hs hK hA=>by
  refine hQ fr ob a w hK (hA.mono (fun id hid=>?_));rcases hid with h|⟨i,t,h1,h2,rfl⟩;all_goals grind
 intro n;induction n with
 |zero=>intro listed fr ob a w hs hA h;exact⟨h.1,fin listed fr ob a w hs h.2 hA⟩
 |succ n ih=>
  intro listed fr ob a w hs hA h;refine⟨fun h0=>fin listed fr ob a w hs (h.1 h0) hA,fun i hi=>?_⟩;obtain⟨hun,oi,hoi,_⟩:=AQ.1 hi;have hil:i<listed.size:=by rw[hs];exact(G6.1 hoi).1
  have hun':listed.getD i false=false:=by simpa[hil]using hun
  refine wpOpIn_mono (fun a' w' hx=>?_) (oN (Q:=Q) (M':=cI3 nx (listed.setIfInBounds i true)) hA (fun t ht=>?_) (fun id hid=>?_) (fun t ht=>?_) hd (h.2 i hi))
  · grind
  · rintro(h1|⟨j,t',h1,h2,h3⟩);all_goals grind
  ·
   rcases hid with h1|⟨j,t',h1,h2,h3⟩
   · exact .inl h1
   · exact .inr ⟨j,t',getD_set_true h1,h2,h3⟩
  · exact .inr ⟨i,t,by simp[hil],ht,rfl⟩
end
def jH (n:Nat)(ops:Array Oper):Bool:=decide (ops.size≤2500)&&ops.all fun o=>match o.dst with|some k=>decide (k<n)|none=>true
theorem lB (h:jH n ops=true): ∀o∈ops,∀k,o.dst=some k→k<n:=by
 intro o ho k hk;unfold jH at h;rw[A6]at h;grind[Array.all_eq_true_iff_forall_mem]
theorem bA7 (h:jH n ops=true):ops.size≤2500:=by simp_all[jH,A6,B9]
def aK3 (ms:List Nat)(j i:Nat):Bool:=(ms.getD j 0).testBit i
def aR2 (ops:Array Oper)(ms:List Nat):Bool:=
 (List.range ms.length).all fun j=>(List.range ms.length).all fun i=>!(aK3 ms j i)||
  match ops[j]? with
  |some o=>o.after.any fun e=>Region.binds .any e&&(e.on==i||(decide (e.on<j)&&aK3 ms e.on i))
  |none=>false
theorem aR3 {m:Nat}(h:m<2^n)(hi:n≤i):m.testBit i=false:=Nat.testBit_lt_two_pow (G7 h (AL (by omega) hi))
theorem bA8 {ms:List Nat}(h:aR2 ops ms=true)(hm:ms.all (fun m=>decide (m<2^ms.length))=true)(hsz:ops.size≤2500):bV2 ops (aK3 ms):=by
 refine⟨hsz,fun j i hw=>?_⟩;have hj:j<ms.length:=by
  rcases H0 j ms.length with h'|h'
  · grind
  · grind[aK3,List.getElem?_eq_none]
 have hi:i<ms.length:=by
  rcases H0 i ms.length with h'|h'
  · grind
  · grind[List.all_eq_true,aK3,aR3]
 have h1:=H6.1 (H6.1 h j (Q3.2 hj)) i (Q3.2 hi);grind
abbrev eW :=Exit→Fr→Ob→Nat→Prop
def dY :Code→Bool
 | .rangeFunc .. =>false
 | .seq x y=>dY x&&dY y
 | .cond _ x y=>dY x&&dY y
 | .block _ x=>dY x
 | .loop x=>dY x
 | .scope x=>dY x
 |_=>true
def Ctx.fit (c:Ctx)(code:Code):Prop:=c.may=true∧c.R=none∨dY code=true
section
variable {c:Ctx}{x y:Code}
theorem Ctx.fit.seq1 (h:c.fit (.seq x y)):c.fit x:=h.imp id fun h=>by simp_all[dY,A6]
theorem Ctx.fit.seq2 (h:c.fit (.seq x y)):c.fit y:=h.imp id fun h=>by simp_all[dY,A6]
theorem Ctx.fit.cond1 {o:Operand}(h:c.fit (.cond o x y)):c.fit x:=h.imp id fun h=>by simp_all[dY,A6]
theorem Ctx.fit.cond2 {o:Operand}(h:c.fit (.cond o x y)):c.fit y:=h.imp id fun h=>by simp_all[dY,A6]
theorem Ctx.fit.block {id:Nat}(h:c.fit (.block id x)):c.fit x:=h.imp (fun h=>h) fun h=>by grind[dY]
theorem Ctx.fit.loop (h:c.fit (.loop x)):c.fit x:=h.imp id fun h=>by grind[dY]
theorem Ctx.fit.scope (h:c.fit (.scope x)):c.fit x:=h.imp id fun h=>by grind[dY]
end
def Hw (P:Program)(n k:Nat)(code:Code)(Q:eW)(fr:Fr)(ob:Ob)(nx:Nat):Prop:=
 ∀(c:Ctx) (a:Act) (w:World),c.n=n→c.M0=(· <k)→c.fit code→RepA c (· <nx) fr ob a w→code.wpIn c.F 0 P (fun e a' w'=> ∃fr' ob' nx',Q e fr' ob' nx'∧RepA c (· <nx') fr' ob' a' w') a w
def hthen (K:Fr→Ob→Nat→Prop)(Q:eW):eW
 | .normal=>K
 |e=>Q e
def hblk (id:Nat)(Q:eW):eW
 | .exit id'=>if id'=id then Q .normal else Q (.exit id')
 |e=>Q e
section
variable {P:Program}{n k:Nat}{Q:eW}{fr:Fr}{ob:Ob}{nx:Nat}
theorem Hw.mono {code:Code}{Q':eW}(h:Hw P n k code Q fr ob nx)(hq: ∀e fr ob nx,Q e fr ob nx→Q' e fr ob nx):Hw P n k code Q' fr ob nx:=
 fun c a w hn hk hz hA=>Q4 (h c a w hn hk hz hA) (fun _ _ _ ⟨fr',ob',nx',h1,h2⟩=>⟨fr',ob',nx',hq _ _ _ _ h1,h2⟩)
theorem aJ (h:Q .normal fr ob nx):Hw P n k .skip Q fr ob nx:=fun _ _ _ _ _ _ hA=>wpIn_skip ⟨fr,ob,nx,h,hA⟩
theorem bV4 {l:Nat}(h:Q .normal fr ob nx):Hw P n k (.label l) Q fr ob nx:=fun _ _ _ _ _ _ hA=>wpIn_label ⟨fr,ob,nx,h,hA⟩
theorem bG {id:Nat}(h:Q (.exit id) fr ob nx):Hw P n k (.exit id) Q fr ob nx:=fun _ _ _ _ _ _ hA=>wpIn_exit ⟨fr,ob,nx,h,hA⟩
theorem aE (h:Q .ret fr ob nx):Hw P n k .ret Q fr ob nx:=fun _ _ _ _ _ _ hA=>wpIn_ret ⟨fr,ob,nx,h,hA⟩
theorem aC {x y:Code}(h: ∀K:Fr→Ob→Nat→Prop,(∀fr ob nx,Hw P n k y Q fr ob nx→K fr ob nx)→Hw P n k x (hthen K Q) fr ob nx):Hw P n k (.seq x y) Q fr ob nx:=by
 intro c a w hn hk hz hA;have:=h (Hw P n k y Q) (fun _ _ _ h=>h) c a w hn hk hz.seq1 hA;refine wpIn_seq (Q4 this fun e a' w' hx=>?_);obtain⟨fr',ob',nx',h1,h2⟩:=hx;cases e with
 |normal=>exact h1 c a' w' hn hk hz.seq2 h2
 |_=>exact⟨fr',ob',nx',h1,h2⟩
theorem aF {x y:Code}{o:Operand}{b:Bool}(hb:ev fr o= .c (.bool b))(h1:b=true→Hw P n k x Q fr ob nx)(h2:b=false→Hw P n k y Q fr ob nx):Hw P n k (.cond o x y) Q fr ob nx:=by
 intro c a w hn hk hz hA;obtain⟨ρ,hA'⟩:=hA;have:=pO hA' hb;exact wpIn_cond_split this (fun e=>h1 e c a w hn hk hz.cond1 ⟨ρ,hA'⟩) (fun e=>h2 e c a w hn hk hz.cond2 ⟨ρ,hA'⟩)
theorem aM {id:Nat}{x:Code}(h:Hw P n k x (hblk id Q) fr ob nx):Hw P n k (.block id x) Q fr ob nx:=by
 intro c a w hn hk hz hA;refine wpIn_block (Q4 (h c a w hn hk hz.block hA) fun e a' w' hx=>?_);obtain⟨fr',ob',nx',h1,h2⟩:=hx;cases e with
 |exit id'=>
  simp only[Exit.inBlock,hblk]at h1⊢;grind
 |_=>exact⟨fr',ob',nx',h1,h2⟩
theorem aZ {id:Nat}{ops:Array Oper}(hd:jH n ops=true)(h:hlexG P ops nx (fun fr' ob'=>Q .normal fr' ob' (nx+4*ops.size)) (List.range ops.size) fr ob):Hw P n k (.region id ops false) Q fr ob nx:=by
 intro c a w hn hk hz hA;refine wpIn_region ?_;rw[R8]at h⊢;exact oO (c:=c) (by rw[hn];exact lB hd) ops.size (fun fr' ob' a' w' hK hA'=>⟨fr',ob',_,hK,hA'⟩) ops.size 0 fr ob a w (by omega) hA h
theorem aL {id:Nat}{ops:Array Oper}(hd:jH n ops=true)(h:hlex P ops nx (fun fr' ob'=>Q .normal fr' ob' (nx+4*ops.size)) (List.range ops.size) fr ob):Hw P n k (.region id ops false) Q fr ob nx:=
 aZ hd (aK2 h)
theorem bG7 {id:Nat}{ops:Array Oper}(hm:P.follows .mixedOrders=true)(plan ms:List Nat)(hd:jH n ops=true)(hp:lA ops plan (Array.replicate ops.size false)=true)(hw1:aR2 ops ms=true)(hw2:ms.all (fun m=>decide (m<2^ms.length))=true)(hl:plan.length=ops.size)
  (h:oM P ops nx (aK3 ms) (fun fr' ob'=>Q .normal fr' ob' (nx+4*ops.size)) plan [] fr ob):Hw P n k (.region id ops true) Q fr ob nx:=by
 intro c a w hn hk hz hA;refine wpIn_region_any hm ?_;have hA0:RepA c (cI3 nx (Array.replicate ops.size false)) fr ob a w:=hA.mono (fun i hi=> .inl hi);have hfresh:Fresh nx (Array.replicate ops.size false) ob:=by
  intro j _ t _;obtain⟨ρ,hA'⟩:=hA;exact(hA'.nid_none (nid:=nx+4*j+t) (by omega)).1
 have hdown:Down ops (Array.replicate ops.size false):=by
  intro j o _ hl;rw[getD_replicate_false]at hl;cases hl
 have hany:=mE (bA8 hw1 hw2 (bA7 hd)) plan [] _ fr ob hp hdown hfresh h;rw[hl]at hany;obtain⟨ρ,hA1⟩:=hA0;refine aR1 (c:=c) (by rw[hn];exact lB hd) (fun fr' ob' a' w' hK hA'=>⟨fr',ob',_,hK,hA'⟩) ops.size _ fr ob a _ (by simp) ⟨ρ,?_⟩ hany;exact⟨⟨fun id o ho=>by
   have:=hA1.s.objs id o ho;exact RepO.stay (w:=w) (ρ:=ρ) (M:=fun _=>True) ⟨fun b hb hO=>⟨rfl,hO⟩⟩ (Moves.refl _ _) (by cases o with|box t v=>exact HV.men_mono (fun _ _=>trivial) (hA1.mo id _ ho).2|row _ _ _=>trivial|mp _ _ _=>trivial|dead=>trivial|tab _=>trivial|hrow _ _ _=>exact HV.menL_mono (fun _ _=>trivial) (hA1.mo id _ ho).2|raw _ _=>trivial|it _ _ _ _=>trivial) rfl (fun _ _ _ _=>rfl) this,hA1.s.none,hA1.s.apart,hA1.s.xb⟩,
  fun t ht=>⟨RepH.stay (w:=w) (w':={w with drawn:=w.drawn+1}) (ρ:=ρ) (O:=Owned ρ c.X) (M:=fun _=>True) ⟨fun b hb hO=>⟨rfl,hO⟩⟩ (Moves.refl _ _) (HV.men_mono (fun _ _=>trivial) (hA1.mf t)) (hA1.f t ht).1,(hA1.f t ht).2⟩,hA1.mf,hA1.mo,hA1.m0,
  ⟨hA1.base.block,hA1.base.own,hA1.base.size,hA1.base.os,hA1.base.tape,hA1.base.output⟩,hA1.moves,hA1.defers,hA1.size,hA1.xlt⟩
structure Fits (k:Nat)(fr:Fr)(ob:Ob)(fr2:Fr)(ob2:Ob)(nx2:Nat):Prop where
 f: ∀t,fr2 t= .junk∨fr2 t=fr t
 o: ∀id o,ob2 id=some o→ob id=some o
 mf: ∀t,(fr2 t).men (· <nx2)
 mo: ∀id o,ob2 id=some o→id<nx2∧o.men (· <nx2)
 k:k≤nx2
theorem RepA.fits {c:Ctx}{a:Act}{w:World}{fr2:Fr}{ob2:Ob}{nx2:Nat}{M:Nat→Prop}(hk:c.M0=(· <k))(h:RepA c M fr ob a w)(hf:Fits k fr ob fr2 ob2 nx2):RepA c (· <nx2) fr2 ob2 a w:=by
 obtain⟨ρ,h⟩:=h
 let ρ2:Env:=fun id=>match ob2 id with|some _=>ρ id|none=>none
 have hρ2: ∀id L,ρ2 id=some L→ρ id=some L:=fun id L hL=>by grind
 have hown: ∀b,Own ρ2 b→Own ρ b:=fun b ⟨id,L,h1,h2⟩=>⟨id,L,hρ2 id L h1,h2⟩;have hst:Stay w (Owned ρ c.X) w (Owned ρ2 c.X):=Stay.same (fun b _ hb=>hb.imp id (hown b));have hmv: ∀M,Moves M ρ ρ2:=fun M id L _ hL=>⟨L,hρ2 id L hL,.inl rfl⟩;refine⟨ρ2,⟨fun id o ho=>?_,fun id hid=>?_,fun id id' L L' b h1 h2 h3 h4=>h.s.apart id id' L L' b (hρ2 _ _ h1) (hρ2 _ _ h2) h3 h4,fun id L b h1 h2=>h.s.xb id L b (hρ2 _ _ h1) h2⟩,fun t ht=>?_,hf.mf,hf.mo,?_,?_,?_,h.defers,h.size,h.xlt⟩
 ·
  have hid:ρ2 id=ρ id:=by simp only[ρ2,ho]
  exact RepO.stay hst (hmv M) (h.mo id o (hf.o id o ho)).2 hid (fun _ _ _ _=>rfl) (h.s.objs id o (hf.o id o ho))
 · grind
 ·
  rcases hf.f t with e|e
  · grind
  · rw[e]at ht⊢;exact⟨RepH.stay hst (hmv M) (h.mf t) (h.f t ht).1,(h.f t ht).2⟩
 · intro id hid;rw[hk]at hid;exact G7 hid hf.k
 · exact h.base.trans ⟨fun _ _ _=>rfl,fun b hb=> .inl (hown b hb),F2 _,rfl,rfl,rfl⟩
 · exact Moves.trans (fun _ h=>h) h.moves (hmv _)
theorem bB {code:Code}{fr2:Fr}{ob2:Ob}{nx2:Nat}(hf:Fits k fr ob fr2 ob2 nx2)(h:Hw P n k code Q fr2 ob2 nx2):Hw P n k code Q fr ob nx:=
 fun c a w hn hk hz hA=>h c a w hn hk hz (hA.fits hk hf)
theorem bN {α:Type}{x:Code}(inv:α→Fr×Ob)(nx2:Nat)(μ:α→Nat)(x0:α)(h0:Fits k fr ob (inv x0).1 (inv x0).2 nx2)
  (round: ∀y,Hw P n k x (hthen (fun fr' ob' _=> ∃y',Fits k fr' ob' (inv y').1 (inv y').2 nx2∧μ y'<μ y) Q) (inv y).1 (inv y).2 nx2):Hw P n k (.loop x) Q fr ob nx:=by
 intro c a w hn hk hz hA b kk cs hro hbf hrm;have key: ∀(m:Nat) (y:α) (a:Act) (w:World),μ y=m→RepA c (· <nx2) (inv y).1 (inv y).2 a w→
   ∃e a' w',(∃fr' ob' nx',Q e fr' ob' nx'∧RepA c (· <nx') fr' ob' a' w')∧ArrivesIn (Machine.fenced P c.F) P (lone (b.atR a (.code x:: .inLoop x::kk)) cs w) b kk cs e a' w':=by
  intro m;induction m using Nat.strongRecOn with
  |_ m ih=>
   intro y a w hy hA;obtain⟨e,a₁,w₁,hq,harr⟩:=round y c a w hn hk hz.loop hA b (.inLoop x::kk) cs hro hbf hrm;cases e with
   |normal=>
    obtain⟨fr',ob',nx',⟨y',hf,hlt⟩,hA'⟩:=hq;obtain⟨e₂,a₂,w₂,hq₂,harr₂⟩:=ih (μ y') (by omega) y' a₁ w₁ rfl (hA'.fits hk hf);exact⟨e₂,a₂,w₂,hq₂,.of_steps (AW harr (.one (V8 hbf hrm rfl) stepR_inLoop)) harr₂⟩
   |exit id=>exact⟨_,a₁,w₁,hq,.pass (x:= .inLoop x) rfl (fun _ _=> .inl (by simp)) harr⟩
   |goto l=>exact⟨_,a₁,w₁,hq,.pass (x:= .inLoop x) rfl (fun _ _=> .inl (by simp)) harr⟩
   |ret=>exact⟨_,a₁,w₁,hq,.pass (x:= .inLoop x) rfl (fun _ _=> .inl (by simp)) harr⟩
   |panic ch=>exact⟨_,a₁,w₁,hq,.pass (x:= .inLoop x) rfl (fun _ _=> .inl (by simp)) harr⟩
   |outgrown=>exact⟨_,a₁,w₁,hq,.pass (x:= .inLoop x) rfl (fun _ _=> .inl (by simp)) harr⟩
 obtain⟨e,a',w',hq,harr⟩:=key _ x0 a w rfl (hA.fits hk h0);exact⟨e,a',w',hq,.of_steps (.one (V8 hbf hrm rfl) stepR_loop) harr⟩
end
def gH (P:Program)(fr:Fr)(ob:Ob)(r:ResultVar)(K:HV→Prop):Prop:=
 match r with
 | .tmp t=>fr t≠ .junk∧K (fr t)
 | .cell t ty=>hlift (aT P ty) fun ti=>HO.isBox (match fr t with| .ptr id _=>ob id|_=>none)=true∧hload ti (fr t) ob K
def fV (P:Program)(fr:Fr)(ob:Ob):List ResultVar→(List HV→Prop)→Prop
 |[],K=>K []
 |r::rs,K=>gH P fr ob r fun v=>fV P fr ob rs fun vs=>K (v::vs)
def fJ (l:List HV):HV:=match l with|[v]=>v|l=> .tup l
def lC (k:Nat)(r:HV)(ob:Ob)(R:HV→Ob→Prop):Prop:=
 ∃(cl:List Nat) (τ:Nat→Nat) (r':HV) (ob':Ob),R r' ob'∧(r.close ob cl).norm=r'.ren τ∧(∀j,j<k→τ j=j)∧(∀i j,i<k+4→j<k+4→τ i=τ j→i=j)∧r'.men (· <k+4)∧
  ∀j o,ob' j=some o→j<k+4∧o.men (· <k+4)∧τ j∉cl∧ ∃o0,ob (τ j)=some o0∧(match o0 with| .box t v=>HO.box t (v.close ob cl).norm| .row e sz l=> .row e sz l| .mp e sz D=> .mp e sz D| .dead=> .dead| .tab T=> .tab T| .hrow e sz l=> .hrow e sz (HV.closeL ob cl l)| .raw es c=> .raw es c| .it m s q l=> .it m s q l)=o.ren τ
def gI (P:Program)(rs:List ResultVar)(k:Nat)(R:HV→Ob→Prop):eW:=fun e fr ob _=>
 match e with
 | .normal| .ret=>fV P fr ob rs fun vs=>lC k (fJ vs) ob R
 |_=>False
section
variable {P:Program}{c:Ctx}{M:Nat→Prop}{fr:Fr}{ob:Ob}{a:Act}{w:World}{ρ:Env}
def bV5 (tm:Array Value)(r:ResultVar):Sem Value:=
 match r with
 | .tmp t=>pure (tm.getD t undef)
 | .cell ad t=>do loadVar t (←asAddr (tm.getD ad undef))
theorem aR4 (h:RepA' c M fr ob a w ρ){r:ResultVar}{K:HV→Prop}(hl:gH P fr ob r K):
  ∃v x,K v∧RepV w ρ (Owned ρ c.X) v x∧(bV5 a.tmps r).run P w= .ok x w:=by
 cases r with
 |tmp t=>exact⟨_,_,hl.2,h.f t hl.1,rfl⟩
 |cell ad t=>
  simp only[gH]at hl;rw[aD]at hl;obtain⟨ti,ht,hb,hl⟩:=hl;obtain⟨u,y,hK,hr,hv,_⟩:=xN (P:=P) h ht (x:= .tmp ad) hl;refine⟨u,y,hK,hv,?_⟩;have hp: ∃p,a.tmps.getD ad undef= .pointer (some p):=by
   cases hf:fr ad with
   |ptr id off=>
    rw[hf]at hb;obtain⟨b,_,he⟩:=kW (x:= .tmp ad) h hf hb;exact⟨_,he⟩
   |_=>rw[hf]at hb;cases hb
  obtain⟨p,hp⟩:=hp;have hr':(Instr.loadAt t (.pointer (some p))).run P w= .ok y w:=by rw[←hp];exact hr
  grind[bV5,asAddr,Sem.run_bind,Sem.run_pure,Result.andThen_ok,Instr.loadAt,Instr.sureAddr]
theorem vW (h:RepA' c M fr ob a w ρ): ∀{rs:List ResultVar} {K:List HV→Prop},fV P fr ob rs K→
  ∃vs xs,K vs∧RepHV w ρ (Owned ρ c.X) vs xs∧(rs.mapM (bV5 a.tmps)).run P w= .ok xs w
 |[],K,hl=>⟨[],[],hl,by simp[RepHV],by simp⟩
 |r::rs,K,hl=>by
  simp only[fV]at hl;obtain⟨v,x,hK,hv,hr⟩:=aR4 h hl;obtain⟨vs,xs,hK2,hvs,hrs⟩:=vW h hK;refine⟨v::vs,x::xs,hK2,by rw[bY];grind,?_⟩;simp_all
theorem bN4 {w:World}{ρ:Env}{O:Nat→Prop}{vs:List HV}{xs:List Value}(h:RepHV w ρ O vs xs):RepV w ρ O (fJ vs) (if h:xs.toArray.size=1 then xs.toArray[0]else .tuple xs.toArray):=by
 match vs,h with
 |[],h=>simp only[RepHV]at h;subst h;exact⟨by simp only[fJ,RepH];exact⟨[],rfl,by simp[RepHV]⟩,rfl⟩
 |[v],h=>
  rw[bY]at h;obtain⟨y,ys,rfl,h1,h2⟩:=h;simp only[RepHV]at h2;subst h2;simpa[fJ]using h1
 |v::u::vs,h=>
  have hlen: ∀{l:List HV} {xs:List Value},RepHV w ρ O l xs→xs.length=l.length:=by
   intro l;induction l with
   |nil=>intro xs h;simp only[RepHV]at h;simp[h]
   |cons x l ih=>intro xs h;rw[bY]at h;obtain⟨y,ys,rfl,_,h2⟩:=h;simp[ih h2]
  have hl:=hlen h;rw[dif_neg (by simp[hl])];exact⟨by simp only[fJ,RepH];exact⟨xs,rfl,h⟩,rfl⟩
theorem RepA'.turn {o':Obj}{b:Nat}(h:RepA' c M fr ob a w ρ)(ha:a.defers=[])(hno: ∀t,¬Own ρ t∨t≠b)(hnc: ¬CellsAt w b)(hn:c.w0.heap.size≤b):RepA' c M fr ob a (w.putObj b o') ρ:=by
 have hother: ∀t,t≠b→(w.putObj b o').heap[t]? =w.heap[t]? :=fun t ht=>World.putObj_heap_other ht;have hst:Stay w (Owned ρ c.X) (w.putObj b o') (Owned ρ c.X):=⟨fun t ht hO=>⟨hother t (fun e=>hnc (e▸ht)),hO⟩⟩;have hsz:(w.putObj b o').heap.size=w.heap.size:=World.putObj_size;refine⟨⟨fun id x hx=>?_,h.s.none,h.s.apart,h.s.xb⟩,fun t ht=>⟨RepH.stay hst (Moves.refl M ρ) (h.mf t) (h.f t ht).1,(h.f t ht).2⟩,h.mf,h.mo,h.m0,?_,h.moves,?_,h.size,h.xlt⟩
 ·
  refine RepO.stay hst (Moves.refl M ρ) (h.mo id x hx).2 rfl (fun L t h1 h2=>hother t ?_) (h.s.objs id x hx);rcases hno t with h3|h3
  · exact absurd ⟨id,L,h1,h2⟩ h3
  grind
 · exact⟨fun t ht hO=>by rw[hother t (by omega)];exact h.base.block t ht hO,h.base.own,by rw[hsz];exact h.base.size,h.base.os,h.base.tape,h.base.output⟩
 grind[DefOk.nil]
def pX (w:World)(Ds:List Nat):World:=Ds.foldl (fun w b=>w.putObj b (.deferred none)) w
theorem RepA'.shut : ∀(Ds:List Nat) {w:World},RepA' c M fr ob a w ρ→a.defers=[]→Ds.Nodup→(∀b∈Ds,c.w0.heap.size≤b∧w.heap[b]? =some (.deferred (some [])))→RepA' c M fr ob a (pX w Ds) ρ
 |[],_,h,_,_,_=>h
 |b::Ds,w,h,ha,hn,hd=>by
  obtain⟨h1,h2⟩:=hd b F6;obtain⟨n1,n2⟩:=AA.1 hn;have hno: ∀t,¬Own ρ t∨t≠b:=fun t=>by
   by_cases e:t=b
   · subst e;exact .inl fun ho=>uF h.s ho h2
   · exact .inr e
  refine RepA'.shut Ds (h.turn ha hno (fun⟨_,_,_,e⟩=>by rw[h2]at e;cases e) h1) ha n2 fun b' hb'=>⟨(hd b' (F5 _ hb')).1,?_⟩;have hne:b'≠b:=by rintro rfl;exact n1 hb'
  exact(World.putObj_heap_other hne).trans (hd b' (F5 _ hb')).2
theorem nI {F:Fence}{n:Nat}{fn:Func}{tmps:Array Value}{R:Ending→World→Prop}: ∀(Ds:List Nat) (w:World),Ds.Nodup→(∀b∈Ds,w.heap[b]? =some (.deferred (some [])))→
  (∃v,(results fn tmps).run P (pX w Ds)= .ok v (pX w Ds)∧R (.returned v) (pX w Ds))→LeavesInM F n P fn tmps R (Ds.map fun b=>{target:= .collected b,args:= #[]}) .returning w
 |[],w,_,_,h=>h
 |b::Ds,w,hn,hd,h=>by
  obtain⟨n1,n2⟩:=AA.1 hn;refine⟨by simp,.inl ⟨b,_,rfl,run_takeDeferred (hd b F6),nI Ds _ n2 (fun b' hb'=>?_) h⟩⟩;have hne:b'≠b:=by rintro rfl;exact n1 hb'
  grind[World.putObj_heap_other,trans,List.mem_cons_of_mem]
theorem bN5 {f:FuncId}{fn:Func}{code:Code}{args:List HV}{k:Nat}{ob:Ob}{R:HV→Ob→Prop}(hf:P.funcs[f]? =some fn)(hb:fn.body=some code)(hok:fQ P f=true)(hloc:LocOk k args ob)(hn:args.length≤fn.ntmps)
  (h:Hw P fn.ntmps k code (gI P fn.results.toList k R) (fun t=>args.getD t .junk) ob k):HFn P f args k ob R:=by
 refine⟨bG4 hok,fun w ρ X xs hS hA hX=>Does.of hok ?_⟩;have hlen:xs.length=args.length:=by
  clear h hn hloc;induction args generalizing xs with
  |nil=>simp only[RepHV]at hA;simp[hA]
  |cons x l ih=>rw[bY]at hA;obtain⟨y,ys,rfl,_,h2⟩:=hA;simp[ih ys h2]
 refine callsIn_wide.1 (callsIn_of_wp_marks (F:=Fence.wide) (n:=0) hf hb trivial ?_)
 let c:Ctx:={w0:=w,ρ0:=ρ,X:=X,M0:=(· <k),n:=fn.ntmps}
 have hget: ∀(l:List HV) (ys:List Value) (t:Nat),RepHV w ρ (Owned ρ X) l ys→t<l.length→RepV w ρ (Owned ρ X) (l.getD t .junk) (ys.getD t undef):=by
  intro l;induction l with
  |nil=>intro ys t _ ht;simp at ht
  |cons x l ih=>
   intro ys t hl ht;rw[bY]at hl;obtain⟨y,ys',rfl,h1,h2⟩:=hl;cases t with
   |zero=>simpa using h1
   |succ t=>simpa using ih ys' t h2 (by simpa using ht)
 have hmen: ∀(l:List HV) (t:Nat),HV.menL (· <k) l→(l.getD t .junk).men (· <k):=by
  intro l;induction l with
  |nil=>intro t _;simp[HV.men]
  |cons x l ih=>
   intro t hl;simp only[HV.menL]at hl;cases t with
   |zero=>simpa using hl.1
   |succ t=>simpa using ih t hl.2
 have h0:RepA c (· <k) (fun t=>args.getD t .junk) ob {tmps:=xs.toArray++Array.replicate (fn.ntmps-xs.toArray.size) undef,defers:=[]} w:=by
  refine⟨ρ,hS,fun t ht=>?_,fun t=>hmen args t hloc.args,hloc.none,fun id hid=>hid,Stay2.refl _ _,Moves.refl _ _,DefOk.nil _ _ _,by simp[c];omega,hX⟩;have htl:t<args.length:=by
   rcases H0 t args.length with h'|h'
   · exact h'
   · exact absurd (by simp[P5 h']) ht
  have:=hget args xs t hA htl;have e:(xs.toArray++Array.replicate (fn.ntmps-xs.toArray.size) undef).getD t undef=xs.getD t undef:=by
   rw[K8,X3 (by simp;omega)];simp
  rw[e];exact this
 refine Q4 (h c _ w rfl rfl (.inl ⟨rfl,rfl⟩) h0) ?_;rintro e a1 w1 ⟨fr',ob',nx',hq,ρ',hA1⟩;obtain⟨⟨Ds,hD1,hD2,hD3⟩,_⟩:=hA1.defers;have hA':RepA' c (· <nx') fr' ob' {a1 with defers:=[]} (pX w1 Ds) ρ':=RepA'.shut Ds ⟨hA1.s,hA1.f,hA1.mf,hA1.mo,hA1.m0,hA1.base,hA1.moves,DefOk.nil _ _ _,hA1.size,hA1.xlt⟩ rfl hD2 hD3;have fin:fV P fr' ob' fn.results.toList (fun vs=>lC k (fJ vs) ob' R)→LeavesInM Fence.wide 0 P fn a1.tmps (fun e w'=> ∃r ob' ρ' x,e= .returned x∧R r ob'∧Gave w ρ X k r ob' w' ρ' x) a1.defers .returning w1:=by
  intro hq;rw[hD1];refine nI Ds w1 hD2 (fun b hb=>(hD3 b hb).2) ?_;generalize pX w1 Ds=w' at hA';generalize ha':({a1 with defers:=[]}:Act)=a' at hA';have ht':a1.tmps=a'.tmps:=by rw[←ha']
  rw[ht'];obtain⟨vs,ys,⟨cl,τ,r',ob2,hR,hr,ht1,ht2,hm,ho⟩,hvs,hrun⟩:=vW hA' hq;refine⟨(if h:ys.toArray.size=1 then ys.toArray[0]else .tuple ys.toArray),?_,r',ob2,?_⟩
  ·
   unfold results;rw[S6];simp only[F8,Sem.run_map];have:(fn.results.toList.mapM (fun r=>match r with| .tmp t=>pure (a'.tmps.getD t undef)| .cell ad t=>do loadVar t (←asAddr (a'.tmps.getD ad undef)):ResultVar→Sem Value)).run P w'= .ok ys w':=hrun
   erw [this]
   rfl
  ·
   let ρ2:Env:=fun id=>match(if cl.contains id=true then none else ob' id)with|some _=>(if∃j,j<k+4∧τ j=id∧(ob2 j).isSome=true then ρ' id else none)|none=>none
   have hρ2: ∀id L,ρ2 id=some L→ρ' id=some L:=fun id L hL=>by
    simp only[ρ2]at hL;split at hL
    ·
     split at hL
     · exact hL
     · cases hL
    · cases hL
   have hcl: ∀id∈cl,ρ2 id=none:=fun id hid=>by
    have:cl.contains id=true:=by simpa using hid
    simp only[ρ2,this,F7]
   have hown: ∀b,Own ρ2 b→Own ρ' b:=fun b ⟨id,L,h1,h2⟩=>⟨id,L,hρ2 id L h1,h2⟩;have hst:Stay w' (Owned ρ' X) w' (Owned ρ2 X):=Stay.same (fun b _ hb=>hb.imp id (hown b));have hval:=bN4 hvs;have hc1:RepV w' ρ2 (Owned ρ2 X) ((fJ vs).close ob' cl).norm _:=⟨HV.norm_rep (jJ hA'.s hcl hρ2 hst hval.1),by rw[HV.norm_agg,HV.close_agg];exact hval.2⟩;rw[hr]at hc1
   let ρ3:Env:=fun j=>match ob2 j with|some _=>ρ2 (τ j)|none=>none
   have h23: ∀j,j<k+4→(ob2 j).isSome=true→ρ2 (τ j)=ρ' (τ j):=fun j hj hs=>by
    obtain⟨o,ho'⟩:=G3.1 hs;obtain⟨_,_,hncl,o0,ho0,_⟩:=ho j o ho';have hn:cl.contains (τ j)=false:=by simpa using hncl
    simp only[ρ2,hn,ho0,E7,J2];rw[B6 ⟨j,hj,rfl,hs⟩]
   have hρ3: ∀j L,ρ3 j=some L→j<k+4∧ρ' (τ j)=some L∧(ob2 j).isSome=true:=fun j L hL=>by
    simp only[ρ3]at hL;split at hL
    · rename_i o ho';exact⟨(ho j o ho').1,hρ2 _ _ hL,by rw[ho'];rfl⟩
    · cases hL
   have hown3: ∀b,Own ρ3 b↔Own ρ2 b:=by
    intro b;constructor
    ·
     rintro⟨j,L,h1,h2⟩;simp only[ρ3]at h1;split at h1
     · exact⟨_,L,h1,h2⟩
     · cases h1
    ·
     rintro⟨id,L,h1,h2⟩;have h1':=h1;simp only[ρ2]at h1;split at h1
     ·
      split at h1
      · rename_i hex;obtain⟨j,hj,rfl,hs⟩:=hex;obtain⟨o,ho'⟩:=G3.1 hs;exact⟨j,L,by simp only[ρ3,ho'];exact h1',h2⟩
      · cases h1
     · cases h1
   have hst3:Stay w' (Owned ρ2 X) w' (Owned ρ3 X):=Stay.same (fun b _ hb=>hb.imp id (hown3 b).1);have hmv3:Moves (· <k+4) (fun i=>ρ2 (τ i)) ρ3:=fun id L _ hL=>by
    simp only[ρ3]at hL;split at hL
    · exact⟨L,hL,.inl rfl⟩
    · cases hL
   refine⟨ρ3,_,rfl,hR,⟨RepH.stay hst3 hmv3 hm (kX.1 hc1.1),by rw[←hc1.2,HV.ren_isAgg]⟩,⟨fun j o hj=>?_,fun j hj=>?_,fun i j L L' b h1 h2 h3 h4=>?_,fun j L b h1 h2=>?_⟩,hm,fun j o hj=>⟨(ho j o hj).1,(ho j o hj).2.1⟩,?_,?_⟩
   ·
    obtain⟨hj4,hom,hncl,o0,ho0,hren⟩:=ho j o hj;have h5:=h23 j hj4 (by rw[hj];rfl);have h6:ρ3 j=ρ2 (τ j):=by simp only[ρ3,hj]
    have hobj:=hA'.s.objs _ _ ho0;have:RepO w' ρ2 (Owned ρ2 X) (τ j) (o.ren τ):=by
     rw[←hren];cases o0 with
     |box t v=>
      obtain⟨b,cs,e1,e2,e3⟩:=hobj;exact⟨b,cs,by rw[h5];exact e1,e2,HV.norm_rep (jJ hA'.s hcl hρ2 hst e3)⟩
     |row e sz l=>
      obtain⟨hd,xs,e1,e2,e3,e4⟩:=hobj;exact⟨hd,xs,by rw[h5];exact e1,e2.stay hst,e3,e4⟩
     |mp e sz D=>
      obtain⟨b,hf,e1,e2⟩:=hobj;exact⟨b,hf,by rw[h5];exact e1,e2.stay hst rfl (fun _ _ _ _ _=>rfl)⟩
     |dead=>exact h5.trans hobj
     |tab T=>exact⟨h5.trans hobj.1,mL hst hobj.2⟩
     |hrow e sz l=>
      obtain⟨hd,xs,e1,e2,e3,e4⟩:=hobj;exact⟨hd,xs,by rw[h5];exact e1,nH hA'.s hcl hρ2 hst e2,rH l e3,by rw[mB];exact e4⟩
     |raw es clock=>
      obtain⟨b,e1,e2⟩:=hobj;exact⟨b,by rw[h5];exact e1,e2⟩
     |it m since seen last=>
      obtain⟨b,x,e1,e2,e3⟩:=hobj;exact⟨b,x,by rw[h5];exact e1,e2,fun bm hf h=>e3 bm hf (hρ2 _ _ h)⟩
    exact RepO.sub hst3 hmv3 hom h6 this
   · simp only[ρ3,hj]
   · obtain⟨g1,g2,_⟩:=hρ3 i L h1;obtain⟨g3,g4,_⟩:=hρ3 j L' h2;exact ht2 i j g1 g3 (hA'.s.apart _ _ L L' b g2 g4 h3 h4)
   · obtain⟨g1,g2,_⟩:=hρ3 j L h1;exact hA'.s.xb _ L b g2 h2
   · refine⟨hA'.base.block,fun b hb=>hA'.base.own b (hown b ((hown3 b).1 hb)),hA'.base.size,hA'.base.os,hA'.base.tape,hA'.base.output⟩
   · intro j L' hj hL;obtain⟨g1,g2,_⟩:=hρ3 j L' hL;rw[ht1 j hj]at g2;exact hA'.moves j L' hj g2
 cases e with
 |normal=>exact fin hq
 |ret=>exact fin hq
 |_=>exact hq.elim
end
end Go.Hl
