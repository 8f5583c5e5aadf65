/- HL, part It: loops cO2 functions: iterators with boxes of their own; the caller's rule. By an AI agent. -/
import Derived.Test.YthedbjfipmkpiaaGreatDoorPl18e
import Derived.RangeFuncIn
import Derived.RangeFuncRecord
set_option linter.unusedSimpArgs false
set_option linter.unusedVariables false
set_option linter.defProp false
namespace Go.Hl
open Go
abbrev IterJ :=Bool→Nat→World→(Nat→Prop)→(Nat→Prop)→Prop
def sM (J:IterJ)(i:Nat)(w:World)(X B:Nat→Prop)(e:Ending)(w':World):Prop:=
 ∃X',Stay2 w X w' X'∧(∀b,X' b→b<w'.heap.size)∧((e= .returned (.bool true)∧J true (i+1) w' X' B)∨(e= .returned (.bool false)∧J false i w' X' B))
def IterJ.Stab (J:IterJ):Prop:= ∀{g i w w' X B B'},J g i w X B→Stay2 w B w' B'→(∀b,B' b→b<w'.heap.size)→J g i w' X B'
def bV0 (P:Program)(gf:FuncId)(caps:List HV)(ob:Ob)(xs:List (List CV)):Prop:=
 eO P gf=true∧ ∀(l:Nat) (J:IterJ) (W:World) (ρ:Env) (X:Nat→Prop) (cs:List Value),RepS W ρ X ob→RepHV W ρ (Owned ρ X) caps cs→(∀b,X b→b<W.heap.size)→J.Stab→
  (∀(i:Nat) (hi:i<xs.length) (w:World) (X B:Nat→Prop) (vs:List Value),J true i w X B→RepHV w (fun _=>none) (fun b=>X b∨B b) (xs[i].map .c) vs→YieldAt Fence.wide 0 P l vs.toArray w (sM J i w X B))→
  J true 0 W X (Own ρ)→
  CallsIn Fence.wide 0 P gf (#[.func (.yield l) #[] #[]]++cs.toArray) W fun e W'=>(∃v,e= .returned v)∧ ∃X' B',J true xs.length W' X' B'∨ ∃i,J false i W' X' B'
theorem Stay2.widen {w w':World}{A A' C C':Nat→Prop}(h:Stay2 w A w' A')(h1: ∀b,A b→C b)(h2: ∀b,C' b→C b∨A' b):Stay2 w C w' C':=
 ⟨fun b hb hC=>h.block b hb (fun hA=>hC (h1 b hA)),fun b hb=>(h2 b hb).elim .inl fun h3=>(h.own b h3).imp (h1 b) id,h.size,h.os,h.tape,h.output⟩
theorem Stay2.putObj (w:World)(l:Nat)(o:Obj):Stay2 w (· =l) (w.putObj l o) (· =l):=
 ⟨fun _ _ h=>World.putObj_heap_other h,fun _ h=> .inl h,by simp_all,rfl,rfl,rfl⟩
structure RepR (n:Nat)(M:Nat→Prop)(fr:Fr)(ob:Ob)(tm:Array Value)(w:World)(ρ:Env)(X:Nat→Prop):Prop where
 s:RepS w ρ X ob
 f: ∀t,fr t≠ .junk→RepV w ρ (Owned ρ X) (fr t) (tm.getD t undef)
 mf: ∀t,(fr t).men M
 mo: ∀id o,ob id=some o→M id∧o.men M
 size:tm.size=n
 xlt: ∀b,X b→b<w.heap.size
section
variable {n:Nat}{M:Nat→Prop}{fr:Fr}{ob:Ob}{tm:Array Value}{w w':World}{ρ:Env}{X X' B B':Nat→Prop}
theorem RepR.foreign (h:RepR n M fr ob tm w ρ X)(hs:Stay2 w B w' B')(hB: ∀b,B b→X b)(hX: ∀b,X' b→X b∨B' b)(hlt: ∀b,B' b→b<w'.heap.size):RepR n M fr ob tm w' ρ X':=by
 have hst:Stay w (Owned ρ X) w' (Owned ρ X'):=⟨fun b hb hO=>⟨hs.block b hb.lt fun h1=>hO (.inl (hB b h1)),fun h1=>by
  rcases h1 with h1|h1
  ·
   rcases hX b h1 with h2|h2
   · exact hO (.inl h2)
   ·
    rcases hs.own b h2 with h3|h3
    · exact hO (.inl (hB b h3))
    · exact absurd hb.lt (Nat.not_lt.2 h3)
  · exact hO (.inr h1)⟩⟩
 refine⟨⟨fun id o ho=>RepO.stay hst (Moves.refl M ρ) (h.mo id o ho).2 rfl (fun L b h1 h2=>hs.block b (Owned.lt h.s h1 h2) fun h3=>h.s.xb id L b h1 h2 (hB b h3)) (h.s.objs id o ho),h.s.none,h.s.apart,fun id L b h1 h2 h3=>?_⟩,
  fun t ht=>⟨RepH.stay hst (Moves.refl M ρ) (h.mf t) (h.f t ht).1,(h.f t ht).2⟩,h.mf,h.mo,h.size,fun b hb=>?_⟩
 ·
  rcases hX b h3 with h4|h4
  · exact h.s.xb id L b h1 h2 h4
  ·
   rcases hs.own b h4 with h5|h5
   · exact h.s.xb id L b h1 h2 (hB b h5)
   · exact absurd (Owned.lt h.s h1 h2) (Nat.not_lt.2 h5)
 ·
  rcases hX b hb with h4|h4
  · exact Nat.lt_of_lt_of_le (h.xlt b h4) hs.size
  grind
end
def yN (fr:Fr):List Tmp→List CV→Fr
 |p::ps,v::vs=>yN (upd fr p (.c v)) ps vs
 |_,_=>fr
def aQ2 (tm:Array Value):List Tmp→List Value→Array Value
 |p::ps,v::vs=>aQ2 (tm.setIfInBounds p v) ps vs
 |_,_=>tm
theorem cG4 (ps:Array Tmp)(vs:List Value)(tm:Array Value):(ps.zip vs.toArray).foldl (fun tmps (t,a)=>tmps.setIfInBounds t a) tm=aQ2 tm ps.toList vs:=by
 rw[←Array.foldl_toList,Array.toList_zip,List.toList_toArray];generalize ps.toList=l;induction l generalizing tm vs with
 |nil=>cases vs<;>rfl
 |cons p l ih=>cases vs with
  |nil=>rfl
  |cons v vs=>grind[List.zip_cons_cons,aQ2]
theorem bK9 (ps:List Tmp)(vs:List Value)(tm:Array Value):(aQ2 tm ps vs).size=tm.size:=by
 induction ps generalizing tm vs with
 |nil=>cases vs<;>rfl
 |cons p l ih=>cases vs with
  |nil=>rfl
  |cons v vs=>grind[aQ2]
theorem aQ3 {w:World}{ρ ρ0:Env}{O:Nat→Prop}: ∀{ps:List Tmp} {vs:List CV} {ys:List Value} {fr:Fr} {tm:Array Value},RepHV w ρ0 O (vs.map .c) ys→(∀p∈ps,p<tm.size)→
  (∀t,fr t≠ .junk→RepV w ρ O (fr t) (tm.getD t undef))→ ∀t,yN fr ps vs t≠ .junk→RepV w ρ O (yN fr ps vs t) ((aQ2 tm ps ys).getD t undef)
 |[],vs,ys,fr,tm,_,_,h,t,ht=>by
  cases vs<;>cases ys<;>exact h t ht
 |p::ps,[],ys,fr,tm,hy,_,h,t,ht=>by
  simp only[List.map_nil,RepHV]at hy;subst hy;exact h t ht
 |p::ps,v::vs,ys,fr,tm,hy,hp,h,t,ht=>by
  simp only[List.map_cons,bK]at hy;obtain⟨y,ys,rfl,h1,h2⟩:=hy;simp only[yN,aQ2]at ht⊢;refine aQ3 h2 (fun q hq=>by grind) (fun t ht=>?_) t ht;by_cases e:t=p
  · simp_all[aT,undef,List.mem_cons_self,Array.getD,RepV,RepH]
  ·
   rw[aY _ _ e]at ht⊢;have:(tm.setIfInBounds p y).getD t undef=tm.getD t undef:=by
    simp only[Array.getD_eq_getD_getElem?];grind
   grind
theorem aQ4 {M:Nat→Prop}: ∀{ps:List Tmp} {vs:List CV} {fr:Fr},(∀t,(fr t).men M)→ ∀t,(yN fr ps vs t).men M
 |[],vs,fr,h,t=>by cases vs<;>exact h t
 |p::ps,[],fr,h,t=>h t
 |p::ps,v::vs,fr,h,t=>by
  simp only[yN];refine aQ4 (fun t=>?_) t;grind[aT,HV.men,aY]
def aQ5 (Q:eM)(frL:Fr)(ob2:Ob)(nx2:Nat)(φ:Prop):eM:=fun e fr' ob' nx'=>
 match e with
 | .normal=>Fits nx2 fr' ob' (fun _=> .junk) ob2 nx2∧φ
 | .exit id=>Q (.exit id) frL ob' nx'
 | .ret=>Q .ret frL ob' nx'
 |_=>False
section
variable {P:Program}{n k:Nat}{Q:eM}{fr:Fr}{ob:Ob}{nx:Nat}
theorem bL0 {c:Ctx}(h:c.R=none):c.F=Fence.wide:=by
 unfold Ctx.F;rw[h];rfl
theorem aQ6 {P:Program}{gf:FuncId}(hok:eO P gf=true)(args:Array Value)(w:World):(callFunc gf args).run P w= .ok (.enter gf args) w:=by
 unfold eO at hok;cases hfn:P.funcs[gf]? with
 |none=>grind
 |some fn=>
  rw[hfn]at hok;simp only[Bool.and_eq_true,Bool.not_eq_true']at hok;have hb:fn.body≠none:=by intro e;rw[e]at hok;simp at hok
  simp_all[callFunc]
theorem aJ6 {g:Operand}{ps:Array Tmp}{asg body:Code}{gf:FuncId}{caps lcaps:List HV}{σ:List Nat}{lob:Ob}{xs:List (List CV)}(frL:Fr)(inv:Nat→Ob)(nx2:Nat)(Φ:Nat→Prop)(h0:Φ 0)
  (hit:bV0 P gf lcaps lob xs) (hg:ev fr g= .clo gf caps) (hloc:LocOk σ.length lcaps lob) (hnd:σ.Nodup) (hcaps:caps=HV.renL (sub σ nx) lcaps)
  (hobs: ∀j o,lob j=some o→ob (σ.getD j 0)=some (o.ren (sub σ nx))) (hfit:Fits k fr ob frL (inv 0) nx2) (hout: ∀id∈σ,inv 0 id=none)
  (hps: ∀x∈xs,x.length=ps.size) (hpn: ∀p∈ps.toList,p<n) (hnra:dP asg=true) (hnr:dP body=true)
  (hbody: ∀(i:Nat) (hi:i<xs.length),Φ i→Hw P n nx2 asg (hthen (fun fr' ob' nx'=>Hw P n nx2 body (aQ5 Q frL (inv (i+1)) nx2 (Φ (i+1))) fr' ob' nx') fun _ _ _ _=>False) (yN frL ps.toList xs[i]) (inv i) nx2)
  (hend:Φ xs.length→Q .normal frL (inv xs.length) nx2):Hw P n k (.rangeFunc g ps asg body) Q fr ob nx:=by
 intro c a w hn hk hz hA;obtain⟨hmay,hR⟩:c.may=true∧c.R=none:=hz.elim id fun h=>by simp[dP]at h
 rw[bL0 hR];obtain⟨ρ,h⟩:=hA;obtain⟨hok,hcon⟩:=hit;have hrf:=dI (h.ev g (by rw[hg];simp)) (by rw[hg];rfl);rw[hg]at hrf;simp only[RepH,List.cons.injEq,and_true]at hrf;obtain⟨⟨cs,hcs,hcr⟩,_⟩:=hrf;have hget: ∀j,j<σ.length→ ∃o,lob j=some o∧ob (σ.getD j 0)=some (o.ren (sub σ nx)):=fun j hj=>by
  obtain⟨o,ho⟩:=hloc.all j hj;exact⟨o,ho,hobs j o ho⟩
 have hmem: ∀id,id∈σ→ ∃j,j<σ.length∧σ.getD j 0=id:=fun id hid=>by
  obtain⟨j,hj,e⟩:=List.mem_iff_getElem.1 hid;exact⟨j,hj,by rw[List.getD_eq_getElem?_getD,List.getElem?_eq_getElem hj];exact e⟩
 have hin: ∀j,j<σ.length→σ.getD j 0∈σ:=fun j hj=>by
  rw[List.getD_eq_getElem?_getD,List.getElem?_eq_getElem hj];exact List.getElem_mem hj
 have hsubj: ∀j,j<σ.length→sub σ nx j=σ.getD j 0:=fun j hj=>if_pos hj;obtain⟨ρi,hρi⟩: ∃ρi:Env,ρi=fun j=>if j<σ.length then ρ (σ.getD j 0)else none:=⟨_,rfl⟩
 have hρi1: ∀j,j<σ.length→ρi j=ρ (σ.getD j 0):=fun j hj=>by rw[hρi];exact if_pos hj
 have hρi2: ∀j L,ρi j=some L→j<σ.length∧ρ (σ.getD j 0)=some L:=fun j L hL=>by
  rw[hρi]at hL;simp only at hL;split at hL
  · rename_i hj;exact⟨hj,hL⟩
  · cases hL
 obtain⟨ρ1,hρ1⟩: ∃ρ1:Env,ρ1=fun id=>match inv 0 id with|some _=>ρ id|none=>none:=⟨_,rfl⟩
 have hρ1s: ∀id L,ρ1 id=some L→ρ id=some L∧id∉σ:=fun id L hL=>by
  rw[hρ1]at hL;simp only at hL;split at hL
  · rename_i o ho;exact⟨hL,fun hid=>by rw[hout id hid]at ho;cases ho⟩
  · cases hL
 obtain⟨rec,hrec⟩: ∃rec:FuncId→LoopState→Option Code→Loop,rec=fun fn st pe=>{state:=st,pending:=pe,fn,tmps:=a.tmps,params:=ps,assign:=asg,body,defers:=w.heap.size}:=⟨_,rfl⟩;obtain⟨D,hD⟩: ∃D,D=w.heap.size:=⟨_,rfl⟩;obtain⟨l,hl⟩: ∃l,l=w.heap.size+1:=⟨_,rfl⟩;refine wpIn_rangeFunc fun fn _=>?_;obtain⟨W1,hW1⟩: ∃W1,(w.alloc (.deferred (some []))).alloc (.loop (rec fn .ready none))=W1:=⟨_,rfl⟩;have hW1s:W1.heap.size=w.heap.size+2:=by rw[←hW1];simp[World.size_alloc]
 have hL1:W1.heap[l]? =some (.loop (rec fn .ready none)):=by
  rw[←hW1,hl];have:=World.alloc_heap_new (w.alloc (.deferred (some []))) (.loop (rec fn .ready none));rwa [World.size_alloc]at this
 have hK1:W1.heap[D]? =some (.deferred (some [])):=by
  rw[←hW1,hD];exact(RowKit.Below.heap_alloc _ _ _ (by simp)).trans (World.alloc_heap_new w _)
 have hO1: ∀b,b<w.heap.size→W1.heap[b]? =w.heap[b]? :=fun b hb=>by
  rw[←hW1,RowKit.Below.heap_alloc _ _ _ (by rw[World.size_alloc];omega),RowKit.Below.heap_alloc _ _ _ hb]
 refine⟨l,[{target:= .collected D,args:= #[]}],W1,{target:= .fn (.func gf) cs.toArray,args:= #[.func (.yield l) #[] #[]]},W1,gf, #[.func (.yield l) #[] #[]]++cs.toArray,W1,?_,?_,fun _ _=>trivial,?_,fun h=>(by cases h),?_⟩
 · rw[←hW1,hrec,hl,hD];exact run_enterLoop_outer _ _ _ _ _
 · simp only[resolve,hcs];simp[go_sem]
 · simp[invoke,go_sem,aQ6 hok]
 obtain⟨Xi,hXi⟩: ∃Xi:Env→Nat→Prop,Xi=fun ρ1 b=>Own ρ1 b∨c.X b∨b=l∨b=D:=⟨_,rfl⟩;obtain⟨Xc,hXc⟩: ∃Xc:(Nat→Prop)→Nat→Prop,Xc=fun B b=>c.X b∨B b∨b=l∨b=D:=⟨_,rfl⟩;have hcX: ∀b,c.X b→b<w.heap.size:=fun b hb=>Nat.lt_of_lt_of_le (h.xlt b hb) h.base.size;have hst0:Stay2 w (Own ρ) W1 (fun b=>Own ρ b∨b=l∨b=D):=
  ⟨fun b hb _=>hO1 b hb,fun b hb=>hb.imp id fun h=>by omega,by omega,by rw[←hW1];rfl,by rw[←hW1];rfl,by rw[←hW1];rfl⟩
 let J:IterJ:=fun go i W X B=> ∃(ρ1:Env) (ob1:Ob) (nx1:Nat) (st:LoopState) (jump:Option Code),
  (∀b,X b↔Xi ρ1 b)∧RepR n (· <nx1) frL ob1 a.tmps W ρ1 (Xc B)∧nx2≤nx1∧Stay2 w (Own ρ) W (fun b=>Own ρ1 b∨B b∨b=l∨b=D)∧Moves (· <nx2) ρ ρ1∧
  W.heap[l]? =some (.loop (rec fn st jump))∧W.heap[D]? =some (.deferred (some []))∧(∀b,B b→ ¬c.X b∧b≠l∧b≠D)∧
  (go=true→i≤xs.length∧ob1=inv i∧nx2=nx1∧st= .ready∧jump=none∧Φ i)∧(go=false→st= .done∧((jump=some .ret∧Q .ret frL ob1 nx1)∨ ∃id,jump=some (.exit id)∧Q (.exit id) frL ob1 nx1))
 have hmenF: ∀t,(frL t).men (· <nx2):=hfit.mf;have hown1: ∀b,Own ρ1 b→Own ρ b∧ ¬Own ρi b:=fun b ⟨id,L,h1,h2⟩=>⟨⟨id,L,(hρ1s id L h1).1,h2⟩,fun⟨j,L',h3,h4⟩=>by
  obtain⟨h5,h6⟩:=hρi2 j L' h3;have:=h.s.apart _ _ L L' b (hρ1s id L h1).1 h6 h2 h4;exact(hρ1s id L h1).2 (this▸hin j h5)⟩
 have howni: ∀b,Own ρi b→Own ρ b:=fun b ⟨j,L,h1,h2⟩=>⟨_,L,(hρi2 j L h1).2,h2⟩;have hownlt: ∀b,Own ρ b→b<w.heap.size:=fun b ⟨id,L,h1,h2⟩=>Owned.lt h.s h1 h2;have hsti:Stay w (Owned ρ c.X) W1 (Owned ρi (Xi ρ1)):=⟨fun b hb hO=>⟨hO1 b hb.lt,fun h'=>by
  rw[hXi]at h';have:=hb.lt;rcases h' with(h'|h'|h'|h')|h'
  · exact hO (.inr (hown1 b h').1)
  · exact hO (.inl h')
  · omega
  · omega
  · exact hO (.inr (howni b h'))⟩⟩
 have hst1:Stay w (Owned ρ c.X) W1 (Owned ρ1 (Xc (Own ρi))):=⟨fun b hb hO=>⟨hO1 b hb.lt,fun h'=>by
  rw[hXc]at h';have:=hb.lt;rcases h' with(h'|h'|h'|h')|h'
  · exact hO (.inl h')
  · exact hO (.inr (howni b h'))
  · omega
  · omega
  · exact hO (.inr (hown1 b h').1)⟩⟩
 have hmvi:Moves (· <σ.length) (fun i=>ρ (sub σ nx i)) ρi:=Moves.of_eq (fun i hi=>by rw[hρi1 i hi,hsubj i hi]);have hRSi:RepS W1 ρi (Xi ρ1) lob:=by
  refine⟨fun j o ho=>?_,fun j hj=>?_,fun j j' L L' b h1 h2 h3 h4=>?_,fun j L b h1 h2 h3=>?_⟩
  · have hj:=(hloc.none j o ho).1;have:=h.s.objs _ _ (hobs j o ho);rw[←hsubj j hj]at this;have h0:RepO W1 ρ (Owned ρi (Xi ρ1)) (sub σ nx j) (o.ren (sub σ nx)):=RepO.stay (M:=fun _=>True) hsti (Moves.refl _ _) (HO.men_ren.2 (HO.men_mono (fun _ _=>trivial) (hloc.none j o ho).2)) rfl (fun L b h1 h2=>hO1 b (Owned.lt h.s h1 h2)) this;exact RepO.sub (w:=W1) (Stay.same (fun b _ hb=>hb)) hmvi (hloc.none j o ho).2 (by rw[hρi1 j hj,hsubj j hj]) h0
  ·
   by_cases hjl:j<σ.length
   · obtain⟨o,ho⟩:=hloc.all j hjl;rw[ho]at hj;cases hj
   · rw[hρi];exact if_neg hjl
  · obtain⟨e1,e2⟩:=hρi2 j L h1;obtain⟨e3,e4⟩:=hρi2 j' L' h2;have:=h.s.apart _ _ L L' b e2 e4 h3 h4;have f1:=dZ hnd e1;have f2:=dZ hnd e3;rw[this]at f1;rw[f1]at f2;cases f2;rfl
  ·
   obtain⟨e1,e2⟩:=hρi2 j L h1;have hlt:=Owned.lt h.s e2 h2;rw[hXi]at h3;rcases h3 with h3|h3|h3|h3
   · exact(hown1 b h3).2 ⟨j,L,h1,h2⟩
   · exact h.s.xb _ L b e2 h2 h3
   · omega
   · omega
 have hcapr:RepHV W1 ρi (Owned ρi (Xi ρ1)) lcaps cs:=by
  rw[hcaps]at hcr;have h0:=mC.1 hcr;exact RepHV.stay (w:=w) (O:=Owned ρ c.X) hsti hmvi hloc.args h0
 have hXilt: ∀b,Xi ρ1 b→b<W1.heap.size:=fun b hb=>by
  rw[hXi]at hb;rcases hb with hb|hb|hb|hb
  · have:=hownlt b (hown1 b hb).1;omega
  · have:=hcX b hb;omega
  · omega
  · omega
 have hmv1: ∀M,Moves M ρ ρ1:=fun M id L _ hL=>⟨L,(hρ1s id L hL).1,.inl rfl⟩;have hR1:RepR n (· <nx2) frL (inv 0) a.tmps W1 ρ1 (Xc (Own ρi)):=by
  refine⟨⟨fun id o ho=>?_,fun id hid=>?_,fun id id' L L' b h1 h2 h3 h4=>h.s.apart id id' L L' b (hρ1s _ _ h1).1 (hρ1s _ _ h2).1 h3 h4,fun id L b h1 h2 h3=>?_⟩,fun t ht=>?_,hfit.mf,hfit.mo,by rw[h.size,hn],fun b hb=>?_⟩
  ·
   have hid:ρ1 id=ρ id:=by rw[hρ1];simp only[ho]
   exact RepO.stay hst1 (hmv1 (fun _=>True)) (HO.men_mono (fun _ _=>trivial) (hfit.mo id o ho).2) hid (fun L b h1 h2=>hO1 b (Owned.lt h.s h1 h2)) (h.s.objs id o (hfit.o id o ho))
  · rw[hρ1];simp only[hid]
  ·
   have hlt:=Owned.lt h.s (hρ1s id L h1).1 h2;rw[hXc]at h3;rcases h3 with h3|h3|h3|h3
   · exact h.s.xb _ L b (hρ1s id L h1).1 h2 h3
   · exact(hown1 b ⟨id,L,h1,h2⟩).2 h3
   · omega
   · omega
  ·
   rcases hfit.f t with e|e
   · exact absurd e ht
   · rw[e]at ht⊢;exact⟨RepH.stay hst1 (hmv1 _) (h.mf t) (h.f t ht).1,(h.f t ht).2⟩
  ·
   rw[hXc]at hb;rcases hb with hb|hb|hb|hb
   · have:=hcX b hb;omega
   · have:=hownlt b (howni b hb);omega
   · omega
   · omega
 have hJ0:J true 0 W1 (Xi ρ1) (Own ρi):=⟨ρ1,inv 0,nx2,.ready,none,fun _=>Iff.rfl,hR1,Nat.le_refl _,
  hst0.trans ⟨fun _ _ _=>rfl,fun b hb=>hb.elim (fun h=> .inl (.inl (hown1 b h).1)) fun h=>h.elim (fun h=> .inl (.inl (howni b h))) fun h=> .inl (.inr h),Nat.le_refl _,rfl,rfl,rfl⟩,
  hmv1 _,hL1,hK1,fun b hb=>⟨fun hx=>by obtain⟨j,L,h1,h2⟩:=hb;exact h.s.xb _ L b (hρi2 j L h1).2 h2 hx,by have:=hownlt b (howni b hb);omega,by have:=hownlt b (howni b hb);omega⟩,fun _=>⟨Nat.zero_le _,rfl,rfl,rfl,rfl,h0⟩,fun h=>by cases h⟩
 have hStab:J.Stab:=by
  rintro go i W W' X B B' ⟨ρ1,ob1,nx1,st,jump,j1,j2,j3,j4,j5,j6,j7,j8,j9,j10⟩ hs hlt;have hll:l<W.heap.size:=(Array.getElem?_eq_some_iff.1 j6).1;have hDl:D<W.heap.size:=(Array.getElem?_eq_some_iff.1 j7).1;refine⟨ρ1,ob1,nx1,st,jump,j1,j2.foreign hs (fun b hb=>by rw[hXc];exact .inr (.inl hb)) (fun b hb=>?_) hlt,j3,j4.trans (hs.widen (fun b hb=> .inr (.inl hb)) (fun b hb=>?_)),j5,?_,?_,fun b hb=>?_,j9,j10⟩
  ·
   rw[hXc]at hb⊢;rcases hb with hb|hb|hb
   · exact .inl (.inl hb)
   · exact .inr hb
   · exact .inl (.inr (.inr hb))
  ·
   rcases hb with hb|hb|hb
   · exact .inl (.inl hb)
   · exact .inr hb
   · exact .inl (.inr (.inr hb))
  · rw[hs.block l hll (fun hb=>(j8 l hb).2.1 rfl)];exact j6
  · rw[hs.block D hDl (fun hb=>(j8 D hb).2.2 rfl)];exact j7
  ·
   rcases hs.own b hb with h1|h1
   · exact j8 b h1
   · refine⟨fun hx=>?_,by omega,by omega⟩;have:=j2.xlt b (by rw[hXc];exact .inl hx);omega
 refine(hcon l J W1 ρi (Xi ρ1) cs hRSi hcapr hXilt hStab ?_ hJ0).mono ?_
 ·
  rintro i hi W X B vs ⟨ρ2,ob1,nx1,st,jump,j1,j2,j3,j4,j5,j6,j7,j8,j9,_⟩ hvs;obtain⟨_,rfl,rfl,rfl,rfl,hΦ⟩:=j9 rfl;have hll:l<W.heap.size:=(Array.getElem?_eq_some_iff.1 j6).1;have hDl:D<W.heap.size:=(Array.getElem?_eq_some_iff.1 j7).1;have hlen:vs.length=ps.size:=by
   rw[←hps xs[i] (List.getElem_mem hi)];have: ∀{l:List CV} {ys:List Value} {ρ:Env} {O:Nat→Prop},RepHV W ρ O (l.map .c) ys→ys.length=l.length:=by
    intro l;induction l with
    |nil=>intro ys ρ O h;simp only[List.map_nil,RepHV]at h;simp[h]
    |cons x l ih=>intro ys ρ O h;simp only[List.map_cons,bK]at h;obtain⟨y,ys,rfl,_,h2⟩:=h;simp[ih h2]
   exact this hvs
  have hy:=run_yield (P:=P) (args:=vs.toArray) j6 (by rw[hrec];simpa using hlen);rw[hrec]at hy
  let c1:Ctx:={w0:=W,ρ0:=ρ2,X:=Xc B,M0:=(· <nx2),n:=n,R:=some l,may:=false}
  have hxl:Xc B l:=by rw[hXc];exact .inr (.inr (.inl rfl))
  have hxD:Xc B D:=by rw[hXc];exact .inr (.inr (.inr rfl))
  have hvs2:RepHV W (fun _=>none) (Owned ρ2 (Xc B)) (xs[i].map .c) vs:=by
   refine RepHV.stay (M:=fun _=>False) (w:=W) (O:=fun b=>X b∨B b) ⟨fun b hb hO=>⟨rfl,fun h'=>?_⟩⟩ (Moves.refl _ _) HV.menL_c hvs;rcases h' with h'|h'
   ·
    rw[hXc]at h';rcases h' with h'|h'|h'|h'
    · exact hO (.inl ((j1 b).2 (by rw[hXi];exact .inr (.inl h'))))
    · exact hO (.inr h')
    · exact hO (.inl ((j1 b).2 (by rw[hXi];exact .inr (.inr (.inl h')))))
    · exact hO (.inl ((j1 b).2 (by rw[hXi];exact .inr (.inr (.inr h')))))
   · exact hO (.inl ((j1 b).2 (by rw[hXi];exact .inl h')))
  have hA1:RepA c1 (· <nx2) (yN frL ps.toList xs[i]) (inv i) {tmps:=aQ2 a.tmps ps.toList vs,defers:=[]} W:=
   ⟨ρ2,j2.s,aQ3 hvs2 (fun p hp=>by rw[j2.size];exact hpn p hp) j2.f,aQ4 j2.mf,j2.mo,fun _ h=>h,Stay2.refl _ _,Moves.refl _ _,DefOk.nil _ _ _,by rw[bK9];exact j2.size,j2.xlt⟩
  have ha:=hbody i hi hΦ c1 _ W rfl rfl (.inr hnra) hA1;have hF:c1.F=Fence.wide.inRound l:=rfl;rw[hF]at ha;refine⟨fn,_,asg,body,hy,roundIn_of_wpIn trivial ?_⟩;rw[cG4];refine wpIn_mono ha ?_;rintro e aA WA ⟨frA,obA,nxA,hqA,ρA,hAA⟩;cases e with
  |exit _=>exact hqA.elim
  |goto _=>exact hqA.elim
  |ret=>exact hqA.elim
  |panic _=>exact hqA.elim
  |outgrown=>exact hqA.elim
  |normal=>
  have hnlA: ∀b,Xc B b→ ¬Own ρ2 b:=fun b hx ⟨id,L,e1,e2⟩=>j2.s.xb id L b e1 e2 hx;have j6A:WA.heap[l]? =some (.loop (rec fn .ready none)):=(hAA.base.block l hll (hnlA l hxl)).trans j6;have j7A:WA.heap[D]? =some (.deferred (some [])):=(hAA.base.block D hDl (hnlA D hxD)).trans j7;have hllA:l<WA.heap.size:=(Array.getElem?_eq_some_iff.1 j6A).1;have hnA:nx2≤nxA:=by
   rcases Nat.lt_or_ge nxA nx2 with h'|h'
   · have:nxA<nxA:=hAA.m0 nxA h';omega
   · exact h'
  refine⟨_,run_beginRound j6A (by rw[hrec]),?_⟩;obtain⟨W2,hW2⟩: ∃W2,WA.putObj l (.loop {rec fn .ready none with state:= .busy})=W2:=⟨_,rfl⟩;rw[hW2];have hs2:Stay2 WA (· =l) W2 (· =l):=by rw[←hW2];exact Stay2.putObj _ _ _
  have hl2:W2.heap[l]? =some (.loop {rec fn .ready none with state:= .busy}):=by rw[←hW2];exact World.putObj_heap_same hllA
  have hD2:W2.heap[D]? =some (.deferred (some [])):=by rw[←hW2];exact(World.putObj_heap_other (by omega)).trans j7A
  have hsz2:W2.heap.size=WA.heap.size:=by rw[←hW2];exact World.putObj_size
  have hstA:Stay W (Owned ρ2 (Xc B)) WA (Owned ρA (Xc B)):=hAA.base.stay _;have kA:RepR n (· <nxA) frL obA a.tmps WA ρA (Xc B):=⟨hAA.s,fun t ht=>⟨RepH.stay hstA hAA.moves (hmenF t) (j2.f t ht).1,(j2.f t ht).2⟩,fun t=>HV.men_mono (fun i hi=>Nat.lt_of_lt_of_le hi hnA) (hmenF t),hAA.mo,j2.size,fun b hb=>Nat.lt_of_lt_of_le (j2.xlt b hb) hAA.base.size⟩;have k2:RepR n (· <nxA) frL obA a.tmps W2 ρA (Xc B):=kA.foreign hs2 (fun b hb=>hb▸hxl) (fun b hb=> .inl hb) (fun b hb=>by omega);have kB:RepR n (· <nxA) frA obA aA.tmps W2 ρA (Xc B):=RepR.foreign (w:=WA) ⟨hAA.s,hAA.f,hAA.mf,hAA.mo,hAA.size,kA.xlt⟩ hs2 (fun b hb=>hb▸hxl) (fun b hb=> .inl hb) (fun b hb=>by omega)
  let c2:Ctx:={w0:=W2,ρ0:=ρA,X:=Xc B,M0:=(· <nx2),n:=n,R:=some l,may:=false}
  have hA2:RepA c2 (· <nxA) frA obA aA W2:=⟨ρA,kB.s,kB.f,kB.mf,kB.mo,hAA.m0,Stay2.refl _ _,Moves.refl _ _,by rw[hAA.defers.2 rfl];exact DefOk.nil _ _ _,kB.size,kB.xlt⟩;have hb:=hqA c2 aA W2 rfl rfl (.inr hnr) hA2;have hF:c2.F=Fence.wide.inRound l:=rfl;rw[hF]at hb;have pre1:Stay2 W (Xi ρ2) W2 (Xi ρA):=(Stay2.widen (C:=Xi ρ2) (C':=Xi ρA) hAA.base (fun b hb=>by rw[hXi];exact .inl hb) (fun b hb=>by
    rw[hXi]at hb⊢;rcases hb with hb|hb
    · exact .inr hb
    · exact .inl (.inr hb))).trans (hs2.widen (fun b hb=>by rw[hXi];exact .inr (.inr (.inl hb))) (fun b hb=> .inl hb))
  have pre2:Stay2 W (fun b=>Own ρ2 b∨B b∨b=l∨b=D) W2 (fun b=>Own ρA b∨B b∨b=l∨b=D):=(Stay2.widen (C:=fun b=>Own ρ2 b∨B b∨b=l∨b=D) (C':=fun b=>Own ρA b∨B b∨b=l∨b=D) hAA.base (fun b hb=> .inl hb) (fun b hb=>by
    rcases hb with hb|hb
    · exact .inr hb
    · exact .inl (.inr hb))).trans (hs2.widen (fun b hb=> .inr (.inr (.inl hb))) (fun b hb=> .inl hb))
  refine wpIn_mono hb ?_;rintro e a3 W3 ⟨fr',ob',nx',hq,hA3⟩;have fin: ∀(jump:Option Code) (ρ3:Env) (ob3:Ob) (nx3:Nat) (fr3:Fr) (a3:Act),RepA' c2 (· <nx3) fr3 ob3 a3 W3 ρ3→
    ∃w',(Instr.endRound l jump).run P W3= .ok (.bool jump.isNone) w'∧Stay2 W (Xi ρ2) w' (Xi ρ3)∧(∀b,Xi ρ3 b→b<w'.heap.size)∧RepR n (· <nx3) frL ob3 a.tmps w' ρ3 (Xc B)∧nx2≤nx3∧Stay2 w (Own ρ) w' (fun b=>Own ρ3 b∨B b∨b=l∨b=D)∧
     Moves (· <nx2) ρ ρ3∧w'.heap[l]? =some (.loop (rec fn (if jump.isNone then .ready else .done) jump))∧w'.heap[D]? =some (.deferred (some [])):=by
   intro jump ρ3 ob3 nx3 fr3 a3 h3;have hnl: ∀b,Xc B b→ ¬Own ρA b:=fun b hx ⟨id,L,e1,e2⟩=>k2.s.xb id L b e1 e2 hx;have hl3:W3.heap[l]? =some (.loop {rec fn .ready none with state:= .busy}):=(h3.base.block l (by show l<W2.heap.size;omega) (hnl l hxl)).trans hl2;have hD3:W3.heap[D]? =some (.deferred (some [])):=(h3.base.block D (by show D<W2.heap.size;omega) (hnl D hxD)).trans hD2;have hll3:l<W3.heap.size:=(Array.getElem?_eq_some_iff.1 hl3).1;have hend:=run_endRound (P:=P) jump hl3;have hn3:nx2≤nx3:=by
    rcases Nat.lt_or_ge nx3 nx2 with h'|h'
    · have:nx3<nx3:=h3.m0 nx3 h';omega
    · exact h'
   have hst:Stay W2 (Owned ρA (Xc B)) W3 (Owned ρ3 (Xc B)):=h3.base.stay _;have k3:RepR n (· <nx3) frL ob3 a.tmps W3 ρ3 (Xc B):=⟨h3.s,fun t ht=>⟨RepH.stay hst h3.moves (hmenF t) (k2.f t ht).1,(k2.f t ht).2⟩,fun t=>HV.men_mono (fun i hi=>Nat.lt_of_lt_of_le hi hn3) (hmenF t),h3.mo,k2.size,fun b hb=>Nat.lt_of_lt_of_le (k2.xlt b hb) h3.base.size⟩;refine⟨_,hend,?_,?_,k3.foreign (Stay2.putObj _ _ _) (fun b hb=>hb▸hxl) (fun b hb=> .inl hb) (fun b hb=>by rw[World.putObj_size];omega),hn3,?_,Moves.trans (fun _ h=>h) (Moves.trans (fun _ h=>h) j5 hAA.moves) h3.moves,?_,?_⟩
   ·
    have e2:Stay2 W2 (Xi ρA) W3 (Xi ρ3):=Stay2.widen h3.base (fun b hb=>by rw[hXi];exact .inl hb) (fun b hb=>by
     rw[hXi]at hb⊢;rcases hb with hb|hb
     · exact .inr hb
     · exact .inl (.inr hb))
    exact pre1.trans (e2.trans (Stay2.widen (Stay2.putObj _ _ _) (fun b hb=>by rw[hXi];exact .inr (.inr (.inl hb))) (fun b hb=> .inl hb)))
   ·
    intro b hb;rw[World.putObj_size];rw[hXi]at hb;rcases hb with⟨id,L,e1,e2⟩|hb|hb|hb
    · exact Owned.lt h3.s e1 e2
    · exact k3.xlt b (by rw[hXc];exact .inl hb)
    · omega
    · exact k3.xlt b (by rw[hXc];exact .inr (.inr (.inr hb)))
   ·
    have e2:Stay2 W2 (fun b=>Own ρA b∨B b∨b=l∨b=D) W3 (fun b=>Own ρ3 b∨B b∨b=l∨b=D):=Stay2.widen h3.base (fun b hb=> .inl hb) (fun b hb=>by
     rcases hb with hb|hb
     · exact .inr hb
     · exact .inl (.inr hb))
    exact j4.trans (pre2.trans (e2.trans (Stay2.widen (Stay2.putObj _ _ _) (fun b hb=> .inr (.inr (.inl hb))) (fun b hb=> .inl hb))))
   · rw[World.putObj_heap_same hll3];rw[hrec]
   · exact(World.putObj_heap_other (by omega)).trans hD3
  have hX2: ∀{w':World} {X':Nat→Prop},Stay2 W (Xi ρ2) w' X'→Stay2 W X w' X':=fun hs=>⟨fun b hb hx=>hs.block b hb fun h'=>hx ((j1 b).2 h'),fun b hb=>(hs.own b hb).imp (fun h'=>(j1 b).2 h') id,hs.size,hs.os,hs.tape,hs.output⟩;cases e with
  |normal=>
   obtain⟨ρ3,h3⟩:=hA3.fits (k:=nx2) rfl hq.1;obtain⟨w',r1,r2,r3,r4,r5,r6,r7,r8,r9⟩:=fin none ρ3 _ nx2 _ a3 h3;exact⟨_,w',r1,Xi ρ3,hX2 r2,r3,.inl ⟨rfl,ρ3,inv (i+1),nx2,.ready,none,fun _=>Iff.rfl,r4,r5,r6,r7,r8,r9,j8,fun _=>⟨hi,rfl,rfl,rfl,rfl,hq.2⟩,fun h=>by cases h⟩⟩
  |ret=>
   obtain⟨ρ3,h3⟩:=hA3;obtain⟨w',r1,r2,r3,r4,r5,r6,r7,r8,r9⟩:=fin (some .ret) ρ3 _ nx' _ a3 h3;exact⟨_,w',r1,Xi ρ3,hX2 r2,r3,.inr ⟨rfl,ρ3,ob',nx',.done,some .ret,fun _=>Iff.rfl,r4,r5,r6,r7,r8,r9,j8,fun h=>(by cases h),fun _=>⟨rfl,.inl ⟨rfl,hq⟩⟩⟩⟩
  |exit id=>
   obtain⟨ρ3,h3⟩:=hA3;obtain⟨w',r1,r2,r3,r4,r5,r6,r7,r8,r9⟩:=fin (some (.exit id)) ρ3 _ nx' _ a3 h3;exact⟨_,w',r1,Xi ρ3,hX2 r2,r3,.inr ⟨rfl,ρ3,ob',nx',.done,some (.exit id),fun _=>Iff.rfl,r4,r5,r6,r7,r8,r9,j8,fun h=>(by cases h),fun _=>⟨rfl,.inr ⟨id,rfl,hq⟩⟩⟩⟩
  |goto t=>exact hq.elim
  |panic ch=>exact hq.elim
  |outgrown=>exact hq.elim
 ·
  rintro e W2 ⟨⟨v,rfl⟩,X',B,hJ⟩;have key: ∀go i,J go i W2 X' B→rangePost Fence.wide 0 P l (fun e a' w'=> ∃fr' ob' nx',Q e fr' ob' nx'∧RepA c (· <nx') fr' ob' a' w') {a with defers:=[{target:= .collected D,args:= #[]}]++a.defers} (.returned v) W2∨(go=true∧i≠xs.length):=by
   rintro go i ⟨ρ3,ob1,nx1,st,jump,j1,j2,j3,j4,j5,j6,j7,j8,j9,j10⟩;have hll:l<W2.heap.size:=(Array.getElem?_eq_some_iff.1 j6).1;have hnb:(rec fn st jump).state≠ .busy:=by
    rw[hrec];cases go with
    |true=>obtain⟨_,_,_,rfl,_⟩:=j9 rfl;simp
    |false=>obtain⟨rfl,_⟩:=j10 rfl;simp
   have hel:=run_endLoop (P:=P) j6 hnb;have k3:RepR n (· <nx1) frL ob1 a.tmps (W2.putObj l (.loop {rec fn st jump with state:= .exhausted})) ρ3 (Xc B):=j2.foreign (Stay2.putObj _ _ _) (fun b hb=>by rw[hXc];exact .inr (.inr (.inl hb))) (fun b hb=> .inl hb) (fun b hb=>by rw[World.putObj_size];omega);obtain⟨W4,hW4⟩: ∃W4,W2.putObj l (.loop {rec fn st jump with state:= .exhausted})=W4:=⟨_,rfl⟩;rw[hW4]at hel k3;have hs4:Stay2 w (Own ρ) W4 (Own ρ3):=by
    rw[←hW4];have e1:=j4.trans (Stay2.widen (C:=fun b=>Own ρ3 b∨B b∨b=l∨b=D) (C':=fun b=>Own ρ3 b∨B b∨b=l∨b=D) (Stay2.putObj W2 l (.loop {rec fn st jump with state:= .exhausted})) (fun b hb=> .inr (.inr (.inl hb))) (fun b hb=> .inl hb));exact⟨e1.block,fun b hb=>e1.own b (.inl hb),e1.size,e1.os,e1.tape,e1.output⟩
   have hD4:W4.heap[D]? =some (.deferred (some [])):=by rw[←hW4];exact(World.putObj_heap_other (by omega)).trans j7
   have hstx:Stay W4 (Owned ρ3 (Xc B)) W4 (Owned ρ3 c.X):=Stay.same fun b _ hb=>hb.imp (fun h'=>by rw[hXc];exact .inl h') id;have hdef:DefOk c.may c.w0.heap.size W4 ([{target:= .collected D,args:= #[]}]++a.defers):=by
    obtain⟨⟨Ds,d1,d2,d3⟩,d4⟩:=h.defers;refine⟨⟨D::Ds,by rw[d1];rfl,List.nodup_cons.2 ⟨fun hx=>?_,d2⟩,fun b hb=>?_⟩,fun hf=>by rw[hmay]at hf;cases hf⟩
    · have:=(Array.getElem?_eq_some_iff.1 (d3 D hx).2).1;omega
    ·
     rcases List.mem_cons.1 hb with rfl|hb
     · exact⟨by rw[hD];exact h.base.size,hD4⟩
     · refine⟨(d3 b hb).1,?_⟩;rw[hs4.block b (Array.getElem?_eq_some_iff.1 (d3 b hb).2).1 fun ho=>tW h.s ho (d3 b hb).2];exact(d3 b hb).2
   have hA4:RepA c (· <nx1) frL ob1 {a with defers:=[{target:= .collected D,args:= #[]}]++a.defers} W4:=
    ⟨ρ3,⟨fun id o ho=>RepO.stay hstx (Moves.refl (fun _=>True) ρ3) (HO.men_mono (fun _ _=>trivial) (k3.mo id o ho).2) rfl (fun _ _ _ _=>rfl) (k3.s.objs id o ho),k3.s.none,k3.s.apart,fun id L b h1 h2 h3=>k3.s.xb id L b h1 h2 (by rw[hXc];exact .inl h3)⟩,
     fun t ht=>⟨RepH.stay hstx (Moves.refl (fun _=>True) ρ3) (HV.men_mono (fun _ _=>trivial) (k3.mf t)) (k3.f t ht).1,(k3.f t ht).2⟩,k3.mf,k3.mo,fun id hid=>by rw[hk]at hid;exact Nat.lt_of_lt_of_le (Nat.lt_of_lt_of_le hid hfit.k) j3,
     h.base.trans hs4,Moves.trans (fun id hid=>by rw[hk]at hid;exact Nat.lt_of_lt_of_le hid hfit.k) h.moves j5,hdef,h.size,h.xlt⟩
   cases go with
   |true=>
    obtain⟨_,rfl,rfl,rfl,rfl,hΦ⟩:=j9 rfl;by_cases hi:i=xs.length
    · subst hi;refine .inl ⟨none,W4,by rw[hrec]at hel;exact hel,?_⟩;exact⟨_,_,_,hend hΦ,hA4⟩
    · exact .inr ⟨rfl,hi⟩
   |false=>
    obtain⟨rfl,hj⟩:=j10 rfl;rcases hj with⟨rfl,hq⟩|⟨id,rfl,hq⟩
    · refine .inl ⟨some .ret,W4,by rw[hrec]at hel;exact hel,?_⟩;exact wpIn_ret ⟨_,_,_,hq,hA4⟩
    · refine .inl ⟨some (.exit id),W4,by rw[hrec]at hel;exact hel,?_⟩;exact wpIn_exit ⟨_,_,_,hq,hA4⟩
  rcases hJ with hJ|⟨i,hJ⟩
  · exact(key true _ hJ).resolve_right fun h=>h.2 rfl
  · exact(key false i hJ).resolve_right fun h=>by cases h.1
end
section
variable {P:Program}{b:Frame}{a:Act}{k:List Item}{cs:List Frame}{w:World}{F:Fence}{n:Nat}{Q:Exit→Act→World→Prop}
theorem iP {c:Code}:step P (lone (b.atR a (.code (.scope c)::k)) cs w)= .next (lone (b.atR a (.code c:: .inScope c::k)) cs w):=
 step_lone_go (by simp[stepG,stepG.exec,Frame.atR])
theorem aA6 {c:Code}:step P (lone (b.atR a (.inScope c::k)) cs w)= .next (lone (b.atR a k) cs w):=
 step_lone_go (by simp[stepG,stepG.exec,Frame.atR])
theorem aZ1 {c:Code}(h:c.wpIn F n P (Exit.noGoto Q) a w):(Code.scope c).wpIn F n P Q a w:=by
 intro b k cs hro hb hr;have h0:(lone (b.atR a (.code (.scope c)::k)) cs w).fenced P F:=fenced_calm hb hr rfl;obtain⟨e,a₁,w₁,hq,harr⟩:=h b (.inScope c::k) cs hro hb hr;cases e with
 |normal=>exact⟨.normal,a₁,w₁,hq,.head h0 iP (StepsIn.trans harr (.one (fenced_calm hb hr rfl) aA6))⟩
 |exit id=>
  have hx:exitTo id (.inScope c::k)=exitTo id k:=by simp[exitTo]
  exact⟨.exit id,a₁,w₁,hq,fun k' hk=> .head h0 iP (harr.1 k' (by grind)),
   fun hr' hk=>let⟨k₁,h1,h2⟩:=harr.2 hr' (by grind);⟨k₁,h1,.head h0 iP h2⟩⟩
 |goto l=>exact hq.elim
 |ret=>exact⟨_,a₁,w₁,hq,.of_steps (.one h0 iP) harr⟩
 |panic ch=>exact⟨_,a₁,w₁,hq,.of_steps (.one h0 iP) harr⟩
 |outgrown=>exact⟨_,a₁,w₁,hq,.of_steps (.one h0 iP) harr⟩
end
def aJ7 (Q:eM):eM
 | .goto _=>fun _ _ _=>False
 |e=>Q e
variable {nx:Nat}{ob:Ob}{fr:Fr}{Q:eM}{P:Program}
theorem bV1 {n k:Nat}{x:Code}(h:Hw P n k x (aJ7 Q) fr ob nx):Hw P n k (.scope x) Q fr ob nx:=by
 intro c a w hn hk hz hA;refine aZ1 (wpIn_mono (h c a w hn hk hz.scope hA) ?_);rintro e a' w' ⟨fr',ob',nx',hq,hA'⟩;cases e with
 |goto l=>exact hq.elim
 |_=>exact⟨fr',ob',nx',hq,hA'⟩
def RepI (n:Nat)(J:IterJ)(fr:Fr)(ob:Ob)(nx:Nat)(g:Bool)(i:Nat)(a:Act)(w:World):Prop:=
 ∃ρ X,RepR n (· <nx) fr ob a.tmps w ρ X∧a.defers=[]∧J g i w X (Own ρ)
abbrev sO :=Exit→Fr→Ob→Nat→Bool→Nat→Prop
def HwI (P:Program)(n:Nat)(J:IterJ)(code:Code)(Q:sO)(fr:Fr)(ob:Ob)(nx:Nat)(g:Bool)(i:Nat):Prop:=
 ∀(a:Act) (w:World),RepI n J fr ob nx g i a w→code.wpIn Fence.wide 0 P (fun e a' w'=> ∃fr' ob' nx' g' i',Q e fr' ob' nx' g' i'∧RepI n J fr' ob' nx' g' i' a' w') a w
def aQ7 (K:Fr→Ob→Nat→Bool→Nat→Prop)(Q:sO):sO
 | .normal=>K
 |e=>Q e
def bV2 (id:Nat)(Q:sO):sO
 | .exit id'=>if id'=id then Q .normal else Q (.exit id')
 |e=>Q e
section
variable {P:Program}{n:Nat}{J:IterJ}{Q:sO}{fr:Fr}{ob:Ob}{nx:Nat}{g:Bool}{i:Nat}
theorem RepI.ctx {a:Act}{w:World}{ρ:Env}{X:Nat→Prop}(h:RepR n (· <nx) fr ob a.tmps w ρ X)(hd:a.defers=[]):
  RepA' {w0:=w,ρ0:=ρ,X:=X,M0:=(· <0),n:=n,may:=false} (· <nx) fr ob a w ρ:=
 ⟨h.s,h.f,h.mf,h.mo,fun _ hi=>absurd hi (Nat.not_lt_zero _),Stay2.refl _ _,Moves.refl _ _,by grind[DefOk.nil],h.size,h.xlt⟩
theorem RepI.of {c:Ctx}{a:Act}{w:World}{ρ:Env}(h:RepA' c (· <nx) fr ob a w ρ)(hm:c.may=false)(hJ:J g i w c.X (Own ρ)):RepI c.n J fr ob nx g i a w:=
 ⟨ρ,c.X,⟨h.s,h.f,h.mf,h.mo,h.size,fun b hb=>Nat.lt_of_lt_of_le (h.xlt b hb) h.base.size⟩,h.defers.2 hm,hJ⟩
theorem oI {code:Code}(hS:J.Stab)(hz:dP code=true)(h:Hw P n 0 code (fun e fr ob nx=>Q e fr ob nx g i) fr ob nx):HwI P n J code Q fr ob nx g i:=by
 rintro a w ⟨ρ,X,hR,hd,hJ⟩;have h1:=h {w0:=w,ρ0:=ρ,X:=X,M0:=(· <0),n:=n,may:=false} a w rfl rfl (.inr hz) ⟨ρ,RepI.ctx hR hd⟩;refine wpIn_mono h1 ?_;rintro e a' w' ⟨fr',ob',nx',hq,ρ',hA'⟩;exact⟨fr',ob',nx',g,i,hq,RepI.of hA' rfl (hS hJ hA'.base fun b ⟨id,L,e1,e2⟩=>Owned.lt hA'.s e1 e2)⟩
theorem HwI.mono {code:Code}{Q':sO}(h:HwI P n J code Q fr ob nx g i)(hq: ∀e fr ob nx g i,Q e fr ob nx g i→Q' e fr ob nx g i):HwI P n J code Q' fr ob nx g i:=
 fun a w hA=>wpIn_mono (h a w hA) fun _ _ _ ⟨fr',ob',nx',g',i',h1,h2⟩=>⟨fr',ob',nx',g',i',hq _ _ _ _ _ _ h1,h2⟩
theorem oJ (h:Q .normal fr ob nx g i):HwI P n J .skip Q fr ob nx g i:=fun _ _ hA=>wpIn_skip ⟨fr,ob,nx,g,i,h,hA⟩
theorem aQ8 {id:Nat}(h:Q (.exit id) fr ob nx g i):HwI P n J (.exit id) Q fr ob nx g i:=fun _ _ hA=>wpIn_exit ⟨fr,ob,nx,g,i,h,hA⟩
theorem bD7 (h:Q .ret fr ob nx g i):HwI P n J .ret Q fr ob nx g i:=fun _ _ hA=>wpIn_ret ⟨fr,ob,nx,g,i,h,hA⟩
theorem fX {x y:Code}(h: ∀K:Fr→Ob→Nat→Bool→Nat→Prop,(∀fr ob nx g i,HwI P n J y Q fr ob nx g i→K fr ob nx g i)→HwI P n J x (aQ7 K Q) fr ob nx g i):HwI P n J (.seq x y) Q fr ob nx g i:=by
 intro a w hA;refine wpIn_seq (wpIn_mono (h (HwI P n J y Q) (fun _ _ _ _ _ h=>h) a w hA) fun e a' w' hx=>?_);obtain⟨fr',ob',nx',g',i',h1,h2⟩:=hx;cases e with
 |normal=>exact h1 a' w' h2
 |_=>exact⟨fr',ob',nx',g',i',h1,h2⟩
theorem kN {x y:Code}{o:Operand}{b:Bool}(hb:ev fr o= .c (.bool b))(h1:b=true→HwI P n J x Q fr ob nx g i)(h2:b=false→HwI P n J y Q fr ob nx g i):HwI P n J (.cond o x y) Q fr ob nx g i:=by
 intro a w hA;obtain⟨ρ,X,hR,hd,hJ⟩:=hA;have:=oX (RepI.ctx hR hd) hb;exact wpIn_cond_split this (fun e=>h1 e a w ⟨ρ,X,hR,hd,hJ⟩) (fun e=>h2 e a w ⟨ρ,X,hR,hd,hJ⟩)
theorem pG {id:Nat}{x:Code}(h:HwI P n J x (bV2 id Q) fr ob nx g i):HwI P n J (.block id x) Q fr ob nx g i:=by
 intro a w hA;refine wpIn_block (wpIn_mono (h a w hA) fun e a' w' hx=>?_);obtain⟨fr',ob',nx',g',i',h1,h2⟩:=hx;cases e with
 |exit id'=>
  simp only[Exit.inBlock,bV2]at h1⊢;grind
 |_=>exact⟨fr',ob',nx',g',i',h1,h2⟩
theorem RepI.fits {a:Act}{w:World}{fr2:Fr}{ob2:Ob}{nx2:Nat}(hS:J.Stab)(h:RepI n J fr ob nx g i a w)(hf:Fits 0 fr ob fr2 ob2 nx2):RepI n J fr2 ob2 nx2 g i a w:=by
 obtain⟨ρ,X,hR,hd,hJ⟩:=h;obtain⟨ρ2,h2⟩:=RepA.fits (k:=0) rfl ⟨ρ,RepI.ctx hR hd⟩ hf;exact RepI.of h2 rfl (hS hJ h2.base fun b ⟨id,L,e1,e2⟩=>Owned.lt h2.s e1 e2)
theorem aQ9 {α:Type}{x:Code}(hS:J.Stab)(inv:α→Fr×Ob)(st:α→Nat)(nx2:Nat)(μ:α→Nat)(x0:α)(hg:g=true)(h0:Fits 0 fr ob (inv x0).1 (inv x0).2 nx2)(hi:i=st x0)
  (round: ∀y,HwI P n J x (aQ7 (fun fr' ob' _ g' i'=> ∃y',Fits 0 fr' ob' (inv y').1 (inv y').2 nx2∧g'=true∧i'=st y'∧μ y'<μ y) Q) (inv y).1 (inv y).2 nx2 true (st y)):HwI P n J (.loop x) Q fr ob nx g i:=by
 subst hg;subst hi;intro a w hA b kk cs hro hbf hrm;have key: ∀(m:Nat) (y:α) (a:Act) (w:World),μ y=m→RepI n J (inv y).1 (inv y).2 nx2 true (st y) a w→
   ∃e a' w',(∃fr' ob' nx' g' i',Q e fr' ob' nx' g' i'∧RepI n J fr' ob' nx' g' i' a' w')∧ArrivesIn (Machine.fenced P Fence.wide) P (lone (b.atR a (.code x:: .inLoop x::kk)) cs w) b kk cs e a' w':=by
  intro m;induction m using Nat.strongRecOn with
  |_ m ih=>
   intro y a w hy hA;obtain⟨e,a₁,w₁,hq,harr⟩:=round y a w hA b (.inLoop x::kk) cs hro hbf hrm;cases e with
   |normal=>
    obtain⟨fr',ob',nx',g',i',⟨y',hf,rfl,rfl,hlt⟩,hA'⟩:=hq;obtain⟨e₂,a₂,w₂,hq₂,harr₂⟩:=ih (μ y') (by omega) y' a₁ w₁ rfl (hA'.fits hS hf);exact⟨e₂,a₂,w₂,hq₂,.of_steps (StepsIn.trans harr (.one (fenced_calm hbf hrm rfl) stepR_inLoop)) harr₂⟩
   |exit id=>exact⟨_,a₁,w₁,hq,.pass (x:= .inLoop x) rfl (fun _ _=> .inl (by simp)) harr⟩
   |goto l=>exact⟨_,a₁,w₁,hq,.pass (x:= .inLoop x) rfl (fun _ _=> .inl (by simp)) harr⟩
   |ret=>exact⟨_,a₁,w₁,hq,.pass (x:= .inLoop x) rfl (fun _ _=> .inl (by simp)) harr⟩
   |panic ch=>exact⟨_,a₁,w₁,hq,.pass (x:= .inLoop x) rfl (fun _ _=> .inl (by simp)) harr⟩
   |outgrown=>exact⟨_,a₁,w₁,hq,.pass (x:= .inLoop x) rfl (fun _ _=> .inl (by simp)) harr⟩
 obtain⟨e,a',w',hq,harr⟩:=key _ x0 a w rfl (hA.fits hS h0);exact⟨e,a',w',hq,.of_steps (.one (fenced_calm hbf hrm rfl) stepR_loop) harr⟩
end
section
variable {P:Program}{n:Nat}{J:IterJ}{Q:sO}{fr:Fr}{ob:Ob}{nx:Nat}{g:Bool}{i:Nat}
theorem aD6 {c:Ctx}{Q:Exit→Act→World→Prop}{ops:Array Oper}{nx:Nat}{K:Fr→Ob→Prop}{rest:List Nat}(hd: ∀o∈ops,∀k,o.dst=some k→k<c.n)(N:Nat)
  (hQ: ∀fr ob a w,K fr ob→RepA c (· <nx+4*N) fr ob a w→wpOpsIn c.F 0 P ops Q rest a w): ∀(n k:Nat) (fr:Fr) (ob:Ob) (a:Act) (w:World),k+n=N→RepA c (· <nx+4*k) fr ob a w→hlexG P ops nx K (List.range' k n) fr ob→wpOpsIn c.F 0 P ops Q (List.range' k n++rest) a w
 |0,k,fr,ob,a,w,hk,h,hl=>by
  simp only[List.range'_zero,hlexG,List.nil_append]at hl⊢;exact hQ fr ob a w hl (by simp_all)
 |n+1,k,fr,ob,a,w,hk,h,hl=>by
  simp only[List.range'_succ,hlexG,List.cons_append,wpOpsIn_cons]at hl⊢;refine wpOpIn_mono (fun a' w' hx=>?_) (lE (Q:=Q) (M':=(· <nx+4*(k+1))) h (fun t ht=>by omega) (fun i hi=>by omega) (fun t ht=>by omega) hd hl);obtain⟨fr',ob',hK,hA⟩:=hx;exact aD6 hd N hQ n (k+1) fr' ob' a' w' (by omega) hA hK
theorem bV3 {l:Nat}{o:Oper}{cl:Call}{f:Operand}{a:Act}{w:World}{R:Ending→World→Prop}{next:Act→World→Prop}{Q:Exit→Act→World→Prop}(ho:o.op= .call cl)(hc:cl.callee= .value f)(hf:a.eval f= .func (.yield l) #[] #[])
  (hy:YieldAt Fence.wide 0 P l (cl.args.map a.eval) w R) (hR: ∀e w',R e w'→ ∃v,e= .returned v∧next (a.put o.dst v) w'):o.wpIn Fence.wide 0 P a w next Q:=by
 refine⟨fun _ _=>trivial,?_⟩;rw[Oper.semAt_eq _ _ _ (by grind)];obtain⟨fn,tmps,assign,body,hrun,hround⟩:=hy;have h1:(execOp a.eval o).run P w= .ok (.round l fn tmps assign body) w:=by simp[execOp,ho,resolve,hc,hf,Deferred.ofValue,invoke,hrun]
 rw[h1,Oper.uponIn_round];refine⟨fun h=>(by cases h),hround.mono ?_⟩;grind
theorem uO {l:Nat}{id:Nat}{ops:Array Oper}{xs:List (List CV)}(j:Nat)(hS:J.Stab)
  (hY: ∀(i:Nat) (hi:i<xs.length) (w:World) (X B:Nat→Prop) (vs:List Value),J true i w X B→RepHV w (fun _=>none) (fun b=>X b∨B b) (xs[i].map .c) vs→YieldAt Fence.wide 0 P l vs.toArray w (sM J i w X B))
  (hg:g=true) (hd:gD n ops=true) (hj:j<ops.size)
  (h:hlex P ops nx (fun fr' ob'=> ∃(o:Oper) (cl:Call) (f:Operand) (hi:i<xs.length),ops[j]? =some o∧o.op= .call cl∧cl.callee= .value f∧hguard ops o fr'=some true∧ev fr' f= .opq (.func (.yield l) #[] #[])∧
   (cl.args.toList.map fun x=>ev fr' x)=xs[i].map .c∧
   hlex P ops nx (fun fr2 ob2=>Q .normal fr2 ob2 (nx+4*ops.size) true (i+1)) (List.range' (j+1) (ops.size-(j+1))) (updo fr' o.dst (.c (.bool true))) ob'∧
   hlex P ops nx (fun fr2 ob2=>Q .normal fr2 ob2 (nx+4*ops.size) false i) (List.range' (j+1) (ops.size-(j+1))) (updo fr' o.dst (.c (.bool false))) ob') (List.range' 0 j) fr ob):
  HwI P n J (.region id ops false) Q fr ob nx g i:=by
 subst hg;rintro a w ⟨ρ,X,hR,hdf,hJ⟩;refine wpIn_region ?_;have hr:List.range ops.size=List.range' 0 j++(j::List.range' (j+1) (ops.size-(j+1))):=by
  have e1:=List.range'_append_1 (s:=0) (m:=j) (n:=ops.size-(j+1)+1);rw[Nat.zero_add]at e1;rw[List.range_eq_range',←List.range'_succ (s:=j) (step:=1),e1];congr 1;omega
 rw[hr]
 let c:Ctx:={w0:=w,ρ0:=ρ,X:=X,M0:=(· <0),n:=n,may:=false}
 refine aD6 (c:=c) (iH hd) j (fun fr' ob' a' w' hK hA=>?_) j 0 fr ob a w (by omega) ⟨ρ,RepI.ctx hR hdf⟩ (aJ0 h);obtain⟨o,cl,f,hi,ho,hop,hcl,hgu,hf,hargs,hT,hN⟩:=hK;obtain⟨ρ',hA'⟩:=hA;have hJ':J true i w' X (Own ρ'):=hS hJ hA'.base fun b ⟨id,L,e1,e2⟩=>Owned.lt hA'.s e1 e2;show wpOpIn Fence.wide 0 P ops _ j _ a' w';unfold wpOpIn;rw[ho];simp only[pY hA' hgu,if_true];have hrf:=dI (hA'.ev f (by rw[hf];simp)) (by rw[hf];rfl);rw[hf]at hrf;have hfv:a'.eval f= .func (.yield l) #[] #[]:=by
  have:=hrf.1;simp only[RepH,List.cons.injEq,and_true]at this;first|exact this.1|exact this
 have hvs: ∀(ys:List Operand) (cs:List CV),(ys.map fun x=>ev fr' x)=cs.map .c→RepHV w' (fun _=>none) (fun b=>X b∨Own ρ' b) (cs.map .c) (ys.map a'.eval):=by
  intro ys;induction ys with
  |nil=>
   intro cs he;cases cs with
   |nil=>simp[RepHV]
   |cons _ _=>simp at he
  |cons x ys ih=>
   intro cs he;cases cs with
   |nil=>simp at he
   |cons c cs=>
    simp only[List.map_cons,List.cons.injEq]at he;have h1:=hA'.ev x (by rw[he.1];simp);rw[he.1]at h1;simp only[List.map_cons,bK];refine⟨_,_,rfl,?_,ih cs he.2⟩;simp only[RepV,RepH]at h1⊢;exact h1
 have hy:=hY i hi w' X (Own ρ') (cl.args.toList.map a'.eval) hJ' (hvs _ _ hargs);have harr:(cl.args.toList.map a'.eval).toArray=cl.args.map a'.eval:=by rw[←Array.toList_map,Array.toArray_toList]
 rw[harr]at hy;have hdst: ∀k,o.dst=some k→k<n:=iH hd o (Array.mem_of_getElem? ho);refine bV3 hop hcl hfv hy ?_;rintro e w2 ⟨X',hs,hlt,hE⟩;have k2:RepR n (· <nx+4*j) fr' ob' a'.tmps w2 ρ' X':=RepR.foreign (w:=w') (X:=X) ⟨hA'.s,hA'.f,hA'.mf,hA'.mo,hA'.size,fun b hb=>Nat.lt_of_lt_of_le (hA'.xlt b hb) hA'.base.size⟩ hs (fun _ hb=>hb) (fun _ hb=> .inr hb) hlt;have fin: ∀(b g':Bool) (i':Nat),J g' i' w2 X' (Own ρ')→hlex P ops nx (fun fr2 ob2=>Q .normal fr2 ob2 (nx+4*ops.size) g' i') (List.range' (j+1) (ops.size-(j+1))) (updo fr' o.dst (.c (.bool b))) ob'→
   wpOpsIn Fence.wide 0 P ops (fun e a' w'=> ∃fr' ob' nx' g' i',Q e fr' ob' nx' g' i'∧RepI n J fr' ob' nx' g' i' a' w') (List.range' (j+1) (ops.size-(j+1))) (a'.put o.dst (.bool b)) w2:=by
  intro b g' i' hJ2 hl
  let c2:Ctx:={w0:=w2,ρ0:=ρ',X:=X',M0:=(· <0),n:=n,may:=false}
  have h2:RepA' c2 (· <nx+4*j) fr' ob' a' w2 ρ':=RepI.ctx k2 (hA'.defers.2 rfl);have h3:RepA' c2 (· <nx+4*(j+1)) (updo fr' o.dst (.c (.bool b))) ob' (a'.put o.dst (.bool b)) w2 ρ':=(h2.value (.inr (by simp[RepV,RepH,RepC,Value.cells,HV.isAgg,CV.isAgg,Value.isAgg'])) (by simp[HV.men]) hdst).weaken (fun i hi=>by omega);refine nZ (c:=c2) (iH hd) ops.size (fun fr3 ob3 a3 w3 hK3 hA3=>?_) (ops.size-(j+1)) (j+1) _ ob' _ w2 (by omega) ⟨ρ',h3⟩ (aJ0 hl);obtain⟨ρ3,hA3⟩:=hA3;exact⟨fr3,ob3,_,g',i',hK3,RepI.of hA3 rfl (hS hJ2 hA3.base fun b ⟨id,L,e1,e2⟩=>Owned.lt hA3.s e1 e2)⟩
 rcases hE with⟨rfl,hJ2⟩|⟨rfl,hJ2⟩
 · exact⟨_,rfl,fin true true (i+1) hJ2 hT⟩
 · exact⟨_,rfl,fin false false i hJ2 hN⟩
theorem bV4 {f:FuncId}{fn:Func}{code:Code}{caps:List HV}{k:Nat}{xs:List (List CV)}(hf:P.funcs[f]? =some fn)(hb:fn.body=some code)(hok:eO P f=true)(hloc:LocOk k caps ob)(hn:caps.length+1≤fn.ntmps)(hr:fn.results= #[])
  (h: ∀(l:Nat) (J:IterJ),J.Stab→
   (∀(i:Nat) (hi:i<xs.length) (w:World) (X B:Nat→Prop) (vs:List Value),J true i w X B→RepHV w (fun _=>none) (fun b=>X b∨B b) (xs[i].map .c) vs→YieldAt Fence.wide 0 P l vs.toArray w (sM J i w X B))→
   HwI P fn.ntmps J code (fun e _ _ _ g i=>(e= .normal∨e= .ret)∧(g=true→i=xs.length)) (sB 0 (.opq (.func (.yield l) #[] #[])::caps)) ob k true 0):bV0 P f caps ob xs:=by
 refine⟨hok,fun l J W ρ X cs hS hC hX hStab hY hJ=>?_⟩;have hlen:cs.length=caps.length:=by
  clear h hn hloc;induction caps generalizing cs with
  |nil=>simp only[RepHV]at hC;simp[hC]
  |cons x l ih=>rw[bK]at hC;obtain⟨y,ys,rfl,_,h2⟩:=hC;simp[ih ys h2]
 refine callsIn_of_wp_marks (F:=Fence.wide) (n:=0) hf hb trivial ?_;have hget: ∀(l:List HV) (ys:List Value) (t:Nat),RepHV W ρ (Owned ρ X) l ys→t<l.length→RepV W ρ (Owned ρ X) (l.getD t .junk) (ys.getD t undef):=by
  intro l;induction l with
  |nil=>intro ys t _ ht;simp at ht
  |cons x l ih=>
   intro ys t hl ht;rw[bK]at hl;obtain⟨y,ys',rfl,h1,h2⟩:=hl;cases t with
   |zero=>simpa using h1
   |succ t=>simpa using ih ys' t h2 (by simpa using ht)
 have hmen: ∀(l:List HV) (t:Nat),HV.menL (· <k) l→(l.getD t .junk).men (· <k):=by
  intro l;induction l with
  |nil=>intro t _;simp[HV.men]
  |cons x l ih=>
   intro t hl;simp only[HV.menL]at hl;cases t with
   |zero=>simpa using hl.1
   |succ t=>simpa using ih t hl.2
 have hall:RepHV W ρ (Owned ρ X) (.opq (.func (.yield l) #[] #[])::caps) (.func (.yield l) #[] #[]::cs):=by
  rw[bK];exact⟨_,_,rfl,⟨by simp[RepH,Value.cells,Value.oneCell'],rfl⟩,hC⟩
 have hmenA:HV.menL (· <k) (.opq (.func (.yield l) #[] #[])::caps):=by simp only[HV.menL,HV.men,true_and];exact hloc.args
 have e0:(#[.func (.yield l) #[] #[]]++cs.toArray:Array Value)=(Value.func (.yield l) #[] #[]::cs).toArray:=by simp
 rw[e0];have h0:RepI fn.ntmps J (sB 0 (.opq (.func (.yield l) #[] #[])::caps)) ob k true 0 {tmps:=(Value.func (.yield l) #[] #[]::cs).toArray++Array.replicate (fn.ntmps-(Value.func (.yield l) #[] #[]::cs).toArray.size) undef,defers:=[]} W:=by
  refine⟨ρ,X,⟨hS,fun t ht=>?_,fun t=>?_,hloc.none,by simp;omega,hX⟩,rfl,hJ⟩
  ·
   rw[wW,if_neg (Nat.not_lt_zero _),Nat.sub_zero]at ht⊢;have htl:t<(HV.opq (.func (.yield l) #[] #[])::caps).length:=by
    rcases Nat.lt_or_ge t (HV.opq (.func (.yield l) #[] #[])::caps).length with h'|h'
    · exact h'
    · exact absurd (by rw[List.getD_eq_getElem?_getD,List.getElem?_eq_none h'];rfl) ht
   have:=hget _ _ t hall htl;have e:((Value.func (.yield l) #[] #[]::cs).toArray++Array.replicate (fn.ntmps-(Value.func (.yield l) #[] #[]::cs).toArray.size) undef).getD t undef=(Value.func (.yield l) #[] #[]::cs).getD t undef:=by
    rw[Array.getD_eq_getD_getElem?,Array.getElem?_append_left (by simp only[List.size_toArray,List.length_cons]at htl⊢;omega)];simp
   rw[e];exact this
  · rw[wW,if_neg (Nat.not_lt_zero _)];exact hmen _ _ hmenA
 refine wpIn_mono (h l J hStab hY _ W h0) ?_;rintro e a1 w1 ⟨fr',ob',nx',g',i',⟨he,hg'⟩,ρ',X',hR',hd',hJ'⟩;have fin:LeavesInM Fence.wide 0 P fn a1.tmps (fun e W'=>(∃v,e= .returned v)∧ ∃X' B',J true xs.length W' X' B'∨ ∃i,J false i W' X' B') a1.defers .returning w1:=by
  rw[hd'];refine mU [] w1 List.nodup_nil (by simp) ⟨.tuple #[],?_,⟨_,rfl⟩,X',Own ρ',?_⟩
  · show(results fn a1.tmps).run P w1= .ok _ w1;unfold results;rw[hr,Array.mapM_eq_mapM_toList];simp
  ·
   cases g' with
   |true=>rw[←hg' rfl];exact .inl hJ'
   |false=>exact .inr ⟨i',hJ'⟩
 rcases he with rfl|rfl
 · exact fin
 · exact fin
end
section
variable (Q:eM)(frL fr:Fr)(ob2 ob:Ob)(nx2 nx id:Nat)(K:Fr→Ob→Nat→Prop)(I:sO)(KI:Fr→Ob→Nat→Bool→Nat→Prop)(g:Bool)(i:Nat)
theorem rpost_normal (φ:Prop):aQ5 Q frL ob2 nx2 φ .normal fr ob nx=(Fits nx2 fr ob (fun _=> .junk) ob2 nx2∧φ):=rfl
theorem rpost_exit (φ:Prop):aQ5 Q frL ob2 nx2 φ (.exit id) fr ob nx=Q (.exit id) frL ob nx:=rfl
theorem rpost_ret (φ:Prop):aQ5 Q frL ob2 nx2 φ .ret fr ob nx=Q .ret frL ob nx:=rfl
theorem hscope_normal :aJ7 Q .normal=Q .normal:=rfl
theorem hscope_exit :aJ7 Q (.exit id)=Q (.exit id):=rfl
theorem hscope_ret :aJ7 Q .ret=Q .ret:=rfl
theorem ithen_normal :aQ7 KI I .normal=KI:=rfl
theorem ithen_exit :aQ7 KI I (.exit id)=I (.exit id):=rfl
theorem ithen_ret :aQ7 KI I .ret=I .ret:=rfl
theorem iblk_normal :bV2 id I .normal=I .normal:=rfl
theorem iblk_exit (id':Nat):bV2 id I (.exit id')=if id'=id then I .normal else I (.exit id'):=rfl
theorem iblk_ret :bV2 id I .ret=I .ret:=rfl
end
def kX (bs:List (TypeId×CV)):Ob:=fun j=>(bs[j]?).map fun x=> .box x.1 (.c x.2)
def iW (ids:List Nat):List HV:=ids.map fun i=> .ptr i 0
def nN (ob:Ob)(nid:Nat):List (TypeId×CV)→Ob
 |[]=>ob
 |x::bs=>nN (upd ob nid (some (.box x.1 (.c x.2)))) (nid+1) bs
def aJ8 (P:Program)(gf:FuncId)(bs:List (TypeId×CV))(xs:List (List CV)):Prop:=bV0 P gf (iW (List.range bs.length)) (kX bs) xs
def bD8 (P:Program)(f gf:FuncId)(args:List CV)(bs:List (TypeId×CV)):Prop:=
 HFn P f (args.map .c) 0 cZ (fun r ob'=>r= .clo gf (iW (List.range bs.length))∧ob'=kX bs)
theorem yO {M:Nat→Prop}: ∀{ids:List Nat},(∀i∈ids,M i)→HV.menL M (iW ids)
 |[],_=>by simp[iW,HV.menL]
 |i::ids,h=>by simp only[iW,List.map_cons,HV.menL,HV.men];exact⟨h i List.mem_cons_self,yO fun j hj=>h j (List.mem_cons_of_mem _ hj)⟩
theorem sQ {m:Nat→Nat}: ∀(ids:List Nat),HV.renL m (iW ids)=iW (ids.map m)
 |[]=>rfl
 |i::ids=>by
  have:=sQ (m:=m) ids;grind[iW,HV.renL,HV.ren]
theorem yP (bs:List (TypeId×CV)):LocOk bs.length (iW (List.range bs.length)) (kX bs):=
 ⟨fun j hj=>⟨_,by simp only[kX,List.getElem?_eq_getElem hj,Option.map_some];rfl⟩,fun id o ho=>by
  simp only[kX,Option.map_eq_some_iff]at ho;obtain⟨x,hx,rfl⟩:=ho;grind[List.getElem?_eq_some_iff,HO.men,HV.men],yO fun i hi=>List.mem_range.1 hi⟩
theorem aD7 (σ:List Nat)(nid:Nat):(List.range σ.length).map (sub σ nid)=σ:=by
 apply List.ext_getElem;all_goals simp_all[List.getElem_map,List.getElem_range,sub,if_pos,List.getD_eq_getElem?_getD,List.getElem?_eq_getElem,Option.getD_some]
theorem bD9 : ∀(bs:List (TypeId×CV)) (ob:Ob) (nid i:Nat),nN ob nid bs i=if nid≤i∧i<nid+bs.length then kX bs (i-nid)else ob i
 |[],ob,nid,i=>by simp_all[nN,List.length_nil,Nat.add_zero,if_neg]
 |x::bs,ob,nid,i=>by
  simp only[nN,bD9 bs,List.length_cons];by_cases h1:i=nid
  · subst h1;rw[if_neg (by omega),aT,if_pos (by omega)];simp[kX]
  ·
   by_cases h2:nid+1≤i∧i<nid+1+bs.length
   · rw[if_pos h2,if_pos (by omega)];obtain⟨k,rfl⟩: ∃k,i=nid+1+k:=⟨i-(nid+1),by omega⟩;grind[kX]
   · rw[if_neg h2,if_neg (by omega),aY _ _ h1]
variable {bs:List (TypeId×CV)}{f gf:FuncId}
theorem uP {av:List Nat}{nid:Nat}{K:HV→Ob→Prop}{args:List CV}(h:bD8 P f gf args bs)(hb:bs.length≤4)(hfree:Free4 ob nid)
  (hK:K (.clo gf (iW (List.range' nid bs.length))) (nN ob nid bs)):HCall P av f (args.map .c) ob nid K:=by
 refine⟨[],args.map .c,cZ,_,h,dT args,⟨List.nodup_nil,by simp⟩,(HV.renL_c _ _).symm,fun j o h=>by simp[cZ]at h,fun r lob' hR _=>?_⟩;obtain⟨rfl,rfl⟩:=hR;have e1:cH ob [] nid (kX bs)=nN ob nid bs:=by
  funext i;rw[bD9];simp only[cH,List.findIdx?_nil,List.length_nil,Nat.zero_add];by_cases h1:nid≤i∧i<nid+4
  ·
   rw[if_pos h1];by_cases h2:i<nid+bs.length
   ·
    rw[if_pos ⟨h1.1,h2⟩];cases hx:kX bs (i-nid)with
    |none=>rfl
    |some o=>
     simp only[kX,Option.map_eq_some_iff]at hx;obtain⟨x,_,rfl⟩:=hx;rfl
   · rw[if_neg (by omega),hfree.all i h1.1 h1.2];grind[kX,List.getElem?_eq_none]
  · rw[if_neg h1,if_neg (by omega)]
 rw[e1];have e2:(HV.clo gf (iW (List.range bs.length))).ren (sub [] nid)= .clo gf (iW (List.range' nid bs.length)):=by
  simp only[HV.ren,sQ];congr 2;rw[List.range_eq_range',List.range'_eq_map_range,List.range'_eq_map_range,List.map_map];refine List.map_congr_left fun i _=>?_;simp[sub]
 grind
theorem aZ2 (v:CV)(h:v.denil=v): ∀ob cl,((HV.c v).close ob cl).norm= .c v:=fun ob cl=>by simp[HV.close,HV.norm,HV.toC,h]
theorem uQ {ids:List Nat}(hl:ids.length=bs.length)(hb:bs.length≤4)(hn:ids.Nodup)(ho: ∀j x,bs[j]? =some x→ob (ids.getD j 0)=some (.box x.1 (.c x.2)))(hd: ∀x∈bs,x.2.denil=x.2):
  iJ 0 (.clo gf (iW ids)) ob (fun r ob'=>r= .clo gf (iW (List.range bs.length))∧ob'=kX bs):=by
 let m:=ids.foldl max 0
 have hm: ∀i∈ids,i≤m:=by
  have: ∀(l:List Nat) (a:Nat),(∀i∈l,i≤l.foldl max a)∧a≤l.foldl max a:=by
   intro l;induction l with
   |nil=>grind
   |cons x l ih=>
    grind
  exact(this ids 0).1
 refine⟨[],sub ids (m+1),.clo gf (iW (List.range bs.length)),kX bs,⟨rfl,rfl⟩,?_,fun _ h=>absurd h (Nat.not_lt_zero _),fun i j hi hj e=>?_,?_,fun j o hj=>?_⟩
 · grind[HV.close,HV.norm,HV.toC,HV.ren,sQ,aD7]
 ·
  simp only[sub]at e;by_cases h1:i<ids.length<;>by_cases h2:j<ids.length
  · rw[if_pos h1,if_pos h2]at e;have e1:=dZ hn h1;have e2:=dZ hn h2;grind
  · rw[if_pos h1,if_neg h2]at e;grind[List.getElem?_eq_getElem,List.getElem_mem]
  · rw[if_neg h1,if_pos h2]at e;grind[List.getElem?_eq_getElem,List.getElem_mem]
  grind
 · grind[HV.men,yO]
 ·
  simp only[kX,Option.map_eq_some_iff]at hj;obtain⟨x,hx,rfl⟩:=hj;have hjl:=(List.getElem?_eq_some_iff.1 hx).1;refine⟨by omega,by simp[HO.men,HV.men],by simp,.box x.1 (.c x.2),?_,?_⟩
  · rw[sub,if_pos (by omega)];grind
  grind[HO.ren,HV.ren,aZ2,List.mem_of_getElem?]
variable {xs:List (List CV)}
theorem aD8 {n k:Nat}{g:Operand}{ps:Array Tmp}{asg body:Code}(ids:List Nat)(frL:Fr)(inv:Nat→Ob)(nx2:Nat)(Φ:Nat→Prop)(h0:Φ 0)
  (hit:aJ8 P gf bs xs) (hg:ev fr g= .clo gf (iW ids)) (hl:ids.length=bs.length) (hnd:ids.Nodup)
  (ho: ∀j x,bs[j]? =some x→ob (ids.getD j 0)=some (.box x.1 (.c x.2))) (hfit:Fits k fr ob frL (inv 0) nx2) (hout: ∀id∈ids,inv 0 id=none)
  (hps: ∀x∈xs,x.length=ps.size) (hpn: ∀p∈ps.toList,p<n) (hnra:dP asg=true) (hnr:dP body=true)
  (hbody: ∀(i:Nat) (hi:i<xs.length),Φ i→ ∀(K:Fr→Ob→Nat→Prop),(∀fr' ob' nx',Hw P n nx2 body (aQ5 Q frL (inv (i+1)) nx2 (Φ (i+1))) fr' ob' nx'→K fr' ob' nx')→Hw P n nx2 asg (hthen K fun _ _ _ _=>False) (yN frL ps.toList xs[i]) (inv i) nx2)
  (hend:Φ xs.length→Q .normal frL (inv xs.length) nx2):Hw P n k (.rangeFunc g ps asg body) Q fr ob nx:=by
 refine aJ6 (σ:=ids) (lob:=kX bs) frL inv nx2 Φ h0 hit hg (by grind[yP]) hnd ?_ (fun j o hj=>?_) hfit hout hps hpn hnra hnr (fun i hi hΦ=>hbody i hi hΦ _ fun _ _ _ h=>h) hend
 · rw[sQ,←hl,aD7]
 · simp only[kX,Option.map_eq_some_iff]at hj;obtain⟨x,hx,rfl⟩:=hj;exact ho j x hx
theorem aD9 {fn:Func}{code:Code}(hf:P.funcs[f]? =some fn)(hb:fn.body=some code)(hok:eO P f=true)(hn:bs.length+1≤fn.ntmps)(hr:fn.results= #[])
  (h: ∀(l:Nat) (J:IterJ),J.Stab→
   (∀(i:Nat) (hi:i<xs.length) (w:World) (X B:Nat→Prop) (vs:List Value),J true i w X B→RepHV w (fun _=>none) (fun b=>X b∨B b) (xs[i].map .c) vs→YieldAt Fence.wide 0 P l vs.toArray w (sM J i w X B))→
   HwI P fn.ntmps J code (fun e _ _ _ g i=>(e= .normal∨e= .ret)∧(g=true→i=xs.length)) (sB 0 (.opq (.func (.yield l) #[] #[])::iW (List.range bs.length))) (kX bs) bs.length true 0):aJ8 P f bs xs:=
 bV4 hf hb hok (yP bs) (by simpa[iW]using hn) hr h
end Go.Hl
