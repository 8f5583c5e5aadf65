/- HL, part It: loops cQ8 functions: iterators with boxes of their own; the caller's rule. By an AI agent. -/
import Derived.RangeFuncIn
import Derived.RangeFuncRecord
import Derived.Test.YtlgckianjabghaaGreatDoorPl18e
set_option linter.unusedSimpArgs false
set_option linter.unusedVariables false
set_option linter.defProp false
namespace Go.Hl
open Go
abbrev IterJ :=Bool→Nat→World→(Nat→Prop)→(Nat→Prop)→Prop
def tE (J:IterJ)(i:Nat)(w:World)(X B:Nat→Prop)(e:Ending)(w':World):Prop:=
 ∃X',Stay2 w X w' X'∧(∀b,X' b→b<w'.heap.size)∧((e= .returned (.bool true)∧J true (i+1) w' X' B)∨(e= .returned (.bool false)∧J false i w' X' B))
def IterJ.Stab (J:IterJ):Prop:= ∀{g i w w' X B B'},J g i w X B→Stay2 w B w' B'→(∀b,B' b→b<w'.heap.size)→J g i w' X B'
def bX4 (P:Program)(gf:FuncId)(caps:List HV)(ob:Ob)(xs:List (List CV)):Prop:=
 fQ P gf=true∧ ∀(l:Nat) (J:IterJ) (W:World) (ρ:Env) (X:Nat→Prop) (cs:List Value),RepS W ρ X ob→RepHV W ρ (Owned ρ X) caps cs→(∀b,X b→b<W.heap.size)→J.Stab→
  (∀(i:Nat) (hi:i<xs.length) (w:World) (X B:Nat→Prop) (vs:List Value),J true i w X B→RepHV w (fun _=>none) (fun b=>X b∨B b) (xs[i].map .c) vs→YieldAt Fence.wide 0 P l vs.toArray w (tE J i w X B))→
  J true 0 W X (Own ρ)→
  CallsIn Fence.wide 0 P gf (#[.func (.yield l) #[] #[]]++cs.toArray) W fun e W'=>(∃v,e= .returned v)∧ ∃X' B',J true xs.length W' X' B'∨ ∃i,J false i W' X' B'
theorem Stay2.widen {w w':World}{A A' C C':Nat→Prop}(h:Stay2 w A w' A')(h1: ∀b,A b→C b)(h2: ∀b,C' b→C b∨A' b):Stay2 w C w' C':=
 ⟨fun b hb hC=>h.block b hb (fun hA=>hC (h1 b hA)),fun b hb=>(h2 b hb).elim .inl fun h3=>(h.own b h3).imp (h1 b) id,h.size,h.os,h.tape,h.output⟩
theorem Stay2.putObj (w:World)(l:Nat)(o:Obj):Stay2 w (· =l) (w.putObj l o) (· =l):=
 ⟨fun _ _ h=>World.putObj_heap_other h,fun _ h=> .inl h,by simp_all,rfl,rfl,rfl⟩
structure RepR (n:Nat)(M:Nat→Prop)(fr:Fr)(ob:Ob)(tm:Array Value)(w:World)(ρ:Env)(X:Nat→Prop):Prop where
 s:RepS w ρ X ob
 f: ∀t,fr t≠ .junk→RepV w ρ (Owned ρ X) (fr t) (tm.getD t undef)
 mf: ∀t,(fr t).men M
 mo: ∀id o,ob id=some o→M id∧o.men M
 size:tm.size=n
 xlt: ∀b,X b→b<w.heap.size
section
variable {n:Nat}{M:Nat→Prop}{fr:Fr}{ob:Ob}{tm:Array Value}{w w':World}{ρ:Env}{X X' B B':Nat→Prop}
theorem RepR.foreign (h:RepR n M fr ob tm w ρ X)(hs:Stay2 w B w' B')(hB: ∀b,B b→X b)(hX: ∀b,X' b→X b∨B' b)(hlt: ∀b,B' b→b<w'.heap.size):RepR n M fr ob tm w' ρ X':=by
 have hst:Stay w (Owned ρ X) w' (Owned ρ X'):=⟨fun b hb hO=>⟨hs.block b hb.lt fun h1=>hO (.inl (hB b h1)),fun h1=>by
  rcases h1 with h1|h1
  ·
   rcases hX b h1 with h2|h2
   · exact hO (.inl h2)
   ·
    rcases hs.own b h2 with h3|h3
    · exact hO (.inl (hB b h3))
    · exact absurd hb.lt (AZ.2 h3)
  · exact hO (.inr h1)⟩⟩
 refine⟨⟨fun id o ho=>RepO.stay hst (Moves.refl M ρ) (h.mo id o ho).2 rfl (fun L b h1 h2=>hs.block b (Owned.lt h.s h1 h2) fun h3=>h.s.xb id L b h1 h2 (hB b h3)) (h.s.objs id o ho),h.s.none,h.s.apart,fun id L b h1 h2 h3=>?_⟩,
  fun t ht=>⟨RepH.stay hst (Moves.refl M ρ) (h.mf t) (h.f t ht).1,(h.f t ht).2⟩,h.mf,h.mo,h.size,fun b hb=>?_⟩
 ·
  rcases hX b h3 with h4|h4
  · exact h.s.xb id L b h1 h2 h4
  ·
   rcases hs.own b h4 with h5|h5
   · exact h.s.xb id L b h1 h2 (hB b h5)
   · exact absurd (Owned.lt h.s h1 h2) (AZ.2 h5)
 ·
  rcases hX b hb with h4|h4
  · exact G7 (h.xlt b h4) hs.size
  grind
end
def yS (fr:Fr):List Tmp→List CV→Fr
 |p::ps,v::vs=>yS (upd fr p (.c v)) ps vs
 |_,_=>fr
def aT1 (tm:Array Value):List Tmp→List Value→Array Value
 |p::ps,v::vs=>aT1 (tm.setIfInBounds p v) ps vs
 |_,_=>tm
theorem cJ3 (ps:Array Tmp)(vs:List Value)(tm:Array Value):(ps.zip vs.toArray).foldl (fun tmps (t,a)=>tmps.setIfInBounds t a) tm=aT1 tm ps.toList vs:=by
 rw[←Array.foldl_toList,Array.toList_zip,AV];generalize ps.toList=l;induction l generalizing tm vs with
 |nil=>cases vs<;>rfl
 |cons p l ih=>cases vs with
  |nil=>rfl
  |cons v vs=>grind[List.zip_cons_cons,aT1]
theorem bO8 (ps:List Tmp)(vs:List Value)(tm:Array Value):(aT1 tm ps vs).size=tm.size:=by
 induction ps generalizing tm vs with
 |nil=>cases vs<;>rfl
 |cons p l ih=>cases vs with
  |nil=>rfl
  |cons v vs=>grind[aT1]
theorem aT2 {w:World}{ρ ρ0:Env}{O:Nat→Prop}: ∀{ps:List Tmp} {vs:List CV} {ys:List Value} {fr:Fr} {tm:Array Value},RepHV w ρ0 O (vs.map .c) ys→(∀p∈ps,p<tm.size)→
  (∀t,fr t≠ .junk→RepV w ρ O (fr t) (tm.getD t undef))→ ∀t,yS fr ps vs t≠ .junk→RepV w ρ O (yS fr ps vs t) ((aT1 tm ps ys).getD t undef)
 |[],vs,ys,fr,tm,_,_,h,t,ht=>by
  cases vs<;>cases ys<;>exact h t ht
 |p::ps,[],ys,fr,tm,hy,_,h,t,ht=>by
  simp only[H1,RepHV]at hy;subst hy;exact h t ht
 |p::ps,v::vs,ys,fr,tm,hy,hp,h,t,ht=>by
  simp only[D0,bY]at hy;obtain⟨y,ys,rfl,h1,h2⟩:=hy;simp only[yS,aT1]at ht⊢;refine aT2 h2 (fun q hq=>by grind) (fun t ht=>?_) t ht;by_cases e:t=p
  · simp_all[aU,undef,F6,Array.getD,RepV,RepH]
  ·
   rw[bJ _ _ e]at ht⊢;have:(tm.setIfInBounds p y).getD t undef=tm.getD t undef:=by
    simp only[K8];grind
   grind
theorem aT3 {M:Nat→Prop}: ∀{ps:List Tmp} {vs:List CV} {fr:Fr},(∀t,(fr t).men M)→ ∀t,(yS fr ps vs t).men M
 |[],vs,fr,h,t=>by cases vs<;>exact h t
 |p::ps,[],fr,h,t=>h t
 |p::ps,v::vs,fr,h,t=>by
  simp only[yS];refine aT3 (fun t=>?_) t;grind[aU,HV.men,bJ]
def aT4 (Q:eW)(frL:Fr)(ob2:Ob)(nx2:Nat)(φ:Prop):eW:=fun e fr' ob' nx'=>
 match e with
 | .normal=>Fits nx2 fr' ob' (fun _=> .junk) ob2 nx2∧φ
 | .exit id=>Q (.exit id) frL ob' nx'
 | .ret=>Q .ret frL ob' nx'
 |_=>False
section
variable {P:Program}{n k:Nat}{Q:eW}{fr:Fr}{ob:Ob}{nx:Nat}
theorem bO9 {c:Ctx}(h:c.R=none):c.F=Fence.wide:=by
 unfold Ctx.F;rw[h];rfl
theorem aT5 {P:Program}{gf:FuncId}(hok:fQ P gf=true)(args:Array Value)(w:World):(callFunc gf args).run P w= .ok (.enter gf args) w:=by
 unfold fQ at hok;cases hfn:P.funcs[gf]? with
 |none=>grind
 |some fn=>
  rw[hfn]at hok;simp only[A6,J8]at hok;have hb:fn.body≠none:=by intro e;rw[e]at hok;simp at hok
  simp_all[callFunc]
theorem aL2 {g:Operand}{ps:Array Tmp}{asg body:Code}{gf:FuncId}{caps lcaps:List HV}{σ:List Nat}{lob:Ob}{xs:List (List CV)}(frL:Fr)(inv:Nat→Ob)(nx2:Nat)(Φ:Nat→Prop)(h0:Φ 0)
  (hit:bX4 P gf lcaps lob xs) (hg:ev fr g= .clo gf caps) (hloc:LocOk σ.length lcaps lob) (hnd:σ.Nodup) (hcaps:caps=HV.renL (sub σ nx) lcaps)
  (hobs: ∀j o,lob j=some o→ob (σ.getD j 0)=some (o.ren (sub σ nx))) (hfit:Fits k fr ob frL (inv 0) nx2) (hout: ∀id∈σ,inv 0 id=none)
  (hps: ∀x∈xs,x.length=ps.size) (hpn: ∀p∈ps.toList,p<n) (hnra:dY asg=true) (hnr:dY body=true)
  (hbody: ∀(i:Nat) (hi:i<xs.length),Φ i→Hw P n nx2 asg (hthen (fun fr' ob' nx'=>Hw P n nx2 body (aT4 Q frL (inv (i+1)) nx2 (Φ (i+1))) fr' ob' nx') fun _ _ _ _=>False) (yS frL ps.toList xs[i]) (inv i) nx2)
  (hend:Φ xs.length→Q .normal frL (inv xs.length) nx2):Hw P n k (.rangeFunc g ps asg body) Q fr ob nx:=by
 intro c a w hn hk hz hA;obtain⟨hmay,hR⟩:c.may=true∧c.R=none:=hz.elim id fun h=>by simp[dY]at h
 rw[bO9 hR];obtain⟨ρ,h⟩:=hA;obtain⟨hok,hcon⟩:=hit;have hrf:=dQ (h.ev g (by rw[hg];simp)) (by rw[hg];rfl);rw[hg]at hrf;simp only[RepH,G4,L8]at hrf;obtain⟨⟨cs,hcs,hcr⟩,_⟩:=hrf;have hget: ∀j,j<σ.length→ ∃o,lob j=some o∧ob (σ.getD j 0)=some (o.ren (sub σ nx)):=fun j hj=>by
  obtain⟨o,ho⟩:=hloc.all j hj;exact⟨o,ho,hobs j o ho⟩
 have hmem: ∀id,id∈σ→ ∃j,j<σ.length∧σ.getD j 0=id:=fun id hid=>by
  obtain⟨j,hj,e⟩:=S2.1 hid;exact⟨j,hj,by rw[C7,B5 hj];exact e⟩
 have hin: ∀j,j<σ.length→σ.getD j 0∈σ:=fun j hj=>by
  rw[C7,B5 hj];exact C0 hj
 have hsubj: ∀j,j<σ.length→sub σ nx j=σ.getD j 0:=fun j hj=>B6 hj;obtain⟨ρi,hρi⟩: ∃ρi:Env,ρi=fun j=>if j<σ.length then ρ (σ.getD j 0)else none:=⟨_,rfl⟩
 have hρi1: ∀j,j<σ.length→ρi j=ρ (σ.getD j 0):=fun j hj=>by rw[hρi];exact B6 hj
 have hρi2: ∀j L,ρi j=some L→j<σ.length∧ρ (σ.getD j 0)=some L:=fun j L hL=>by
  rw[hρi]at hL;simp only at hL;split at hL
  · rename_i hj;exact⟨hj,hL⟩
  · cases hL
 obtain⟨ρ1,hρ1⟩: ∃ρ1:Env,ρ1=fun id=>match inv 0 id with|some _=>ρ id|none=>none:=⟨_,rfl⟩
 have hρ1s: ∀id L,ρ1 id=some L→ρ id=some L∧id∉σ:=fun id L hL=>by
  rw[hρ1]at hL;simp only at hL;split at hL
  · rename_i o ho;exact⟨hL,fun hid=>by rw[hout id hid]at ho;cases ho⟩
  · cases hL
 obtain⟨rec,hrec⟩: ∃rec:FuncId→LoopState→Option Code→Loop,rec=fun fn st pe=>{state:=st,pending:=pe,fn,tmps:=a.tmps,params:=ps,assign:=asg,body,defers:=w.heap.size}:=⟨_,rfl⟩;obtain⟨D,hD⟩: ∃D,D=w.heap.size:=⟨_,rfl⟩;obtain⟨l,hl⟩: ∃l,l=w.heap.size+1:=⟨_,rfl⟩;refine wpIn_rangeFunc fun fn _=>?_;obtain⟨W1,hW1⟩: ∃W1,(w.alloc (.deferred (some []))).alloc (.loop (rec fn .ready none))=W1:=⟨_,rfl⟩;have hW1s:W1.heap.size=w.heap.size+2:=by rw[←hW1];simp[Z4]
 have hL1:W1.heap[l]? =some (.loop (rec fn .ready none)):=by
  rw[←hW1,hl];have:=World.alloc_heap_new (w.alloc (.deferred (some []))) (.loop (rec fn .ready none));rwa [Z4]at this
 have hK1:W1.heap[D]? =some (.deferred (some [])):=by
  rw[←hW1,hD];exact(Q2 _ _ _ (by simp)).trans (World.alloc_heap_new w _)
 have hO1: ∀b,b<w.heap.size→W1.heap[b]? =w.heap[b]? :=fun b hb=>by
  rw[←hW1,Q2 _ _ _ (by rw[Z4];omega),Q2 _ _ _ hb]
 refine⟨l,[{target:= .collected D,args:= #[]}],W1,{target:= .fn (.func gf) cs.toArray,args:= #[.func (.yield l) #[] #[]]},W1,gf, #[.func (.yield l) #[] #[]]++cs.toArray,W1,?_,?_,fun _ _=>trivial,?_,fun h=>(by cases h),?_⟩
 · rw[←hW1,hrec,hl,hD];exact run_enterLoop_outer _ _ _ _ _
 · simp only[resolve,hcs];simp[go_sem]
 · simp[invoke,go_sem,aT5 hok]
 obtain⟨Xi,hXi⟩: ∃Xi:Env→Nat→Prop,Xi=fun ρ1 b=>Own ρ1 b∨c.X b∨b=l∨b=D:=⟨_,rfl⟩;obtain⟨Xc,hXc⟩: ∃Xc:(Nat→Prop)→Nat→Prop,Xc=fun B b=>c.X b∨B b∨b=l∨b=D:=⟨_,rfl⟩;have hcX: ∀b,c.X b→b<w.heap.size:=fun b hb=>G7 (h.xlt b hb) h.base.size;have hst0:Stay2 w (Own ρ) W1 (fun b=>Own ρ b∨b=l∨b=D):=
  ⟨fun b hb _=>hO1 b hb,fun b hb=>hb.imp id fun h=>by omega,by omega,by rw[←hW1];rfl,by rw[←hW1];rfl,by rw[←hW1];rfl⟩
 let J:IterJ:=fun go i W X B=> ∃(ρ1:Env) (ob1:Ob) (nx1:Nat) (st:LoopState) (jump:Option Code),
  (∀b,X b↔Xi ρ1 b)∧RepR n (· <nx1) frL ob1 a.tmps W ρ1 (Xc B)∧nx2≤nx1∧Stay2 w (Own ρ) W (fun b=>Own ρ1 b∨B b∨b=l∨b=D)∧Moves (· <nx2) ρ ρ1∧
  W.heap[l]? =some (.loop (rec fn st jump))∧W.heap[D]? =some (.deferred (some []))∧(∀b,B b→ ¬c.X b∧b≠l∧b≠D)∧
  (go=true→i≤xs.length∧ob1=inv i∧nx2=nx1∧st= .ready∧jump=none∧Φ i)∧(go=false→st= .done∧((jump=some .ret∧Q .ret frL ob1 nx1)∨ ∃id,jump=some (.exit id)∧Q (.exit id) frL ob1 nx1))
 have hmenF: ∀t,(frL t).men (· <nx2):=hfit.mf;have hown1: ∀b,Own ρ1 b→Own ρ b∧ ¬Own ρi b:=fun b ⟨id,L,h1,h2⟩=>⟨⟨id,L,(hρ1s id L h1).1,h2⟩,fun⟨j,L',h3,h4⟩=>by
  obtain⟨h5,h6⟩:=hρi2 j L' h3;have:=h.s.apart _ _ L L' b (hρ1s id L h1).1 h6 h2 h4;exact(hρ1s id L h1).2 (this▸hin j h5)⟩
 have howni: ∀b,Own ρi b→Own ρ b:=fun b ⟨j,L,h1,h2⟩=>⟨_,L,(hρi2 j L h1).2,h2⟩;have hownlt: ∀b,Own ρ b→b<w.heap.size:=fun b ⟨id,L,h1,h2⟩=>Owned.lt h.s h1 h2;have hsti:Stay w (Owned ρ c.X) W1 (Owned ρi (Xi ρ1)):=⟨fun b hb hO=>⟨hO1 b hb.lt,fun h'=>by
  rw[hXi]at h';have:=hb.lt;rcases h' with(h'|h'|h'|h')|h'
  · exact hO (.inr (hown1 b h').1)
  · exact hO (.inl h')
  · omega
  · omega
  · exact hO (.inr (howni b h'))⟩⟩
 have hst1:Stay w (Owned ρ c.X) W1 (Owned ρ1 (Xc (Own ρi))):=⟨fun b hb hO=>⟨hO1 b hb.lt,fun h'=>by
  rw[hXc]at h';have:=hb.lt;rcases h' with(h'|h'|h'|h')|h'
  · exact hO (.inl h')
  · exact hO (.inr (howni b h'))
  · omega
  · omega
  · exact hO (.inr (hown1 b h').1)⟩⟩
 have hmvi:Moves (· <σ.length) (fun i=>ρ (sub σ nx i)) ρi:=Moves.of_eq (fun i hi=>by rw[hρi1 i hi,hsubj i hi]);have hRSi:RepS W1 ρi (Xi ρ1) lob:=by
  refine⟨fun j o ho=>?_,fun j hj=>?_,fun j j' L L' b h1 h2 h3 h4=>?_,fun j L b h1 h2 h3=>?_⟩
  · have hj:=(hloc.none j o ho).1;have:=h.s.objs _ _ (hobs j o ho);rw[←hsubj j hj]at this;have h0:RepO W1 ρ (Owned ρi (Xi ρ1)) (sub σ nx j) (o.ren (sub σ nx)):=RepO.stay (M:=fun _=>True) hsti (Moves.refl _ _) (HO.men_ren.2 (HO.men_mono (fun _ _=>trivial) (hloc.none j o ho).2)) rfl (fun L b h1 h2=>hO1 b (Owned.lt h.s h1 h2)) this;exact RepO.sub (w:=W1) (Stay.same (fun b _ hb=>hb)) hmvi (hloc.none j o ho).2 (by rw[hρi1 j hj,hsubj j hj]) h0
  ·
   by_cases hjl:j<σ.length
   · obtain⟨o,ho⟩:=hloc.all j hjl;rw[ho]at hj;cases hj
   · rw[hρi];exact A7 hjl
  · obtain⟨e1,e2⟩:=hρi2 j L h1;obtain⟨e3,e4⟩:=hρi2 j' L' h2;have:=h.s.apart _ _ L L' b e2 e4 h3 h4;have f1:=eR hnd e1;have f2:=eR hnd e3;rw[this]at f1;rw[f1]at f2;cases f2;rfl
  ·
   obtain⟨e1,e2⟩:=hρi2 j L h1;have hlt:=Owned.lt h.s e2 h2;rw[hXi]at h3;rcases h3 with h3|h3|h3|h3
   · exact(hown1 b h3).2 ⟨j,L,h1,h2⟩
   · exact h.s.xb _ L b e2 h2 h3
   · omega
   · omega
 have hcapr:RepHV W1 ρi (Owned ρi (Xi ρ1)) lcaps cs:=by
  rw[hcaps]at hcr;have h0:=mP.1 hcr;exact RepHV.stay (w:=w) (O:=Owned ρ c.X) hsti hmvi hloc.args h0
 have hXilt: ∀b,Xi ρ1 b→b<W1.heap.size:=fun b hb=>by
  rw[hXi]at hb;rcases hb with hb|hb|hb|hb
  · have:=hownlt b (hown1 b hb).1;omega
  · have:=hcX b hb;omega
  · omega
  · omega
 have hmv1: ∀M,Moves M ρ ρ1:=fun M id L _ hL=>⟨L,(hρ1s id L hL).1,.inl rfl⟩;have hR1:RepR n (· <nx2) frL (inv 0) a.tmps W1 ρ1 (Xc (Own ρi)):=by
  refine⟨⟨fun id o ho=>?_,fun id hid=>?_,fun id id' L L' b h1 h2 h3 h4=>h.s.apart id id' L L' b (hρ1s _ _ h1).1 (hρ1s _ _ h2).1 h3 h4,fun id L b h1 h2 h3=>?_⟩,fun t ht=>?_,hfit.mf,hfit.mo,by rw[h.size,hn],fun b hb=>?_⟩
  ·
   have hid:ρ1 id=ρ id:=by rw[hρ1];simp only[ho]
   exact RepO.stay hst1 (hmv1 (fun _=>True)) (HO.men_mono (fun _ _=>trivial) (hfit.mo id o ho).2) hid (fun L b h1 h2=>hO1 b (Owned.lt h.s h1 h2)) (h.s.objs id o (hfit.o id o ho))
  · rw[hρ1];simp only[hid]
  ·
   have hlt:=Owned.lt h.s (hρ1s id L h1).1 h2;rw[hXc]at h3;rcases h3 with h3|h3|h3|h3
   · exact h.s.xb _ L b (hρ1s id L h1).1 h2 h3
   · exact(hown1 b ⟨id,L,h1,h2⟩).2 h3
   · omega
   · omega
  ·
   rcases hfit.f t with e|e
   · exact absurd e ht
   · rw[e]at ht⊢;exact⟨RepH.stay hst1 (hmv1 _) (h.mf t) (h.f t ht).1,(h.f t ht).2⟩
  ·
   rw[hXc]at hb;rcases hb with hb|hb|hb|hb
   · have:=hcX b hb;omega
   · have:=hownlt b (howni b hb);omega
   · omega
   · omega
 have hJ0:J true 0 W1 (Xi ρ1) (Own ρi):=⟨ρ1,inv 0,nx2,.ready,none,fun _=>W8,hR1,F2 _,
  hst0.trans ⟨fun _ _ _=>rfl,fun b hb=>hb.elim (fun h=> .inl (.inl (hown1 b h).1)) fun h=>h.elim (fun h=> .inl (.inl (howni b h))) fun h=> .inl (.inr h),F2 _,rfl,rfl,rfl⟩,
  hmv1 _,hL1,hK1,fun b hb=>⟨fun hx=>by obtain⟨j,L,h1,h2⟩:=hb;exact h.s.xb _ L b (hρi2 j L h1).2 h2 hx,by have:=hownlt b (howni b hb);omega,by have:=hownlt b (howni b hb);omega⟩,fun _=>⟨F9 _,rfl,rfl,rfl,rfl,h0⟩,fun h=>by cases h⟩
 have hStab:J.Stab:=by
  rintro go i W W' X B B' ⟨ρ1,ob1,nx1,st,jump,j1,j2,j3,j4,j5,j6,j7,j8,j9,j10⟩ hs hlt;have hll:l<W.heap.size:=(G6.1 j6).1;have hDl:D<W.heap.size:=(G6.1 j7).1;refine⟨ρ1,ob1,nx1,st,jump,j1,j2.foreign hs (fun b hb=>by rw[hXc];exact .inr (.inl hb)) (fun b hb=>?_) hlt,j3,j4.trans (hs.widen (fun b hb=> .inr (.inl hb)) (fun b hb=>?_)),j5,?_,?_,fun b hb=>?_,j9,j10⟩
  ·
   rw[hXc]at hb⊢;rcases hb with hb|hb|hb
   · exact .inl (.inl hb)
   · exact .inr hb
   · exact .inl (.inr (.inr hb))
  ·
   rcases hb with hb|hb|hb
   · exact .inl (.inl hb)
   · exact .inr hb
   · exact .inl (.inr (.inr hb))
  · rw[hs.block l hll (fun hb=>(j8 l hb).2.1 rfl)];exact j6
  · rw[hs.block D hDl (fun hb=>(j8 D hb).2.2 rfl)];exact j7
  ·
   rcases hs.own b hb with h1|h1
   · exact j8 b h1
   · refine⟨fun hx=>?_,by omega,by omega⟩;have:=j2.xlt b (by rw[hXc];exact .inl hx);omega
 refine(hcon l J W1 ρi (Xi ρ1) cs hRSi hcapr hXilt hStab ?_ hJ0).mono ?_
 ·
  rintro i hi W X B vs ⟨ρ2,ob1,nx1,st,jump,j1,j2,j3,j4,j5,j6,j7,j8,j9,_⟩ hvs;obtain⟨_,rfl,rfl,rfl,rfl,hΦ⟩:=j9 rfl;have hll:l<W.heap.size:=(G6.1 j6).1;have hDl:D<W.heap.size:=(G6.1 j7).1;have hlen:vs.length=ps.size:=by
   rw[←hps xs[i] (C0 hi)];have: ∀{l:List CV} {ys:List Value} {ρ:Env} {O:Nat→Prop},RepHV W ρ O (l.map .c) ys→ys.length=l.length:=by
    intro l;induction l with
    |nil=>intro ys ρ O h;simp only[H1,RepHV]at h;simp[h]
    |cons x l ih=>intro ys ρ O h;simp only[D0,bY]at h;obtain⟨y,ys,rfl,_,h2⟩:=h;simp[ih h2]
   exact this hvs
  have hy:=run_yield (P:=P) (args:=vs.toArray) j6 (by rw[hrec];simpa using hlen);rw[hrec]at hy
  let c1:Ctx:={w0:=W,ρ0:=ρ2,X:=Xc B,M0:=(· <nx2),n:=n,R:=some l,may:=false}
  have hxl:Xc B l:=by rw[hXc];exact .inr (.inr (.inl rfl))
  have hxD:Xc B D:=by rw[hXc];exact .inr (.inr (.inr rfl))
  have hvs2:RepHV W (fun _=>none) (Owned ρ2 (Xc B)) (xs[i].map .c) vs:=by
   refine RepHV.stay (M:=fun _=>False) (w:=W) (O:=fun b=>X b∨B b) ⟨fun b hb hO=>⟨rfl,fun h'=>?_⟩⟩ (Moves.refl _ _) HV.menL_c hvs;rcases h' with h'|h'
   ·
    rw[hXc]at h';rcases h' with h'|h'|h'|h'
    · exact hO (.inl ((j1 b).2 (by rw[hXi];exact .inr (.inl h'))))
    · exact hO (.inr h')
    · exact hO (.inl ((j1 b).2 (by rw[hXi];exact .inr (.inr (.inl h')))))
    · exact hO (.inl ((j1 b).2 (by rw[hXi];exact .inr (.inr (.inr h')))))
   · exact hO (.inl ((j1 b).2 (by rw[hXi];exact .inl h')))
  have hA1:RepA c1 (· <nx2) (yS frL ps.toList xs[i]) (inv i) {tmps:=aT1 a.tmps ps.toList vs,defers:=[]} W:=
   ⟨ρ2,j2.s,aT2 hvs2 (fun p hp=>by rw[j2.size];exact hpn p hp) j2.f,aT3 j2.mf,j2.mo,fun _ h=>h,Stay2.refl _ _,Moves.refl _ _,DefOk.nil _ _ _,by rw[bO8];exact j2.size,j2.xlt⟩
  have ha:=hbody i hi hΦ c1 _ W rfl rfl (.inr hnra) hA1;have hF:c1.F=Fence.wide.inRound l:=rfl;rw[hF]at ha;refine⟨fn,_,asg,body,hy,roundIn_of_wpIn trivial ?_⟩;rw[cJ3];refine Q4 ha ?_;rintro e aA WA ⟨frA,obA,nxA,hqA,ρA,hAA⟩;cases e with
  |exit _=>exact hqA.elim
  |goto _=>exact hqA.elim
  |ret=>exact hqA.elim
  |panic _=>exact hqA.elim
  |outgrown=>exact hqA.elim
  |normal=>
  have hnlA: ∀b,Xc B b→ ¬Own ρ2 b:=fun b hx ⟨id,L,e1,e2⟩=>j2.s.xb id L b e1 e2 hx;have j6A:WA.heap[l]? =some (.loop (rec fn .ready none)):=(hAA.base.block l hll (hnlA l hxl)).trans j6;have j7A:WA.heap[D]? =some (.deferred (some [])):=(hAA.base.block D hDl (hnlA D hxD)).trans j7;have hllA:l<WA.heap.size:=(G6.1 j6A).1;have hnA:nx2≤nxA:=by
   rcases H0 nxA nx2 with h'|h'
   · have:nxA<nxA:=hAA.m0 nxA h';omega
   · exact h'
  refine⟨_,run_beginRound j6A (by rw[hrec]),?_⟩;obtain⟨W2,hW2⟩: ∃W2,WA.putObj l (.loop {rec fn .ready none with state:= .busy})=W2:=⟨_,rfl⟩;rw[hW2];have hs2:Stay2 WA (· =l) W2 (· =l):=by rw[←hW2];exact Stay2.putObj _ _ _
  have hl2:W2.heap[l]? =some (.loop {rec fn .ready none with state:= .busy}):=by rw[←hW2];exact World.putObj_heap_same hllA
  have hD2:W2.heap[D]? =some (.deferred (some [])):=by rw[←hW2];exact(World.putObj_heap_other (by omega)).trans j7A
  have hsz2:W2.heap.size=WA.heap.size:=by rw[←hW2];exact World.putObj_size
  have hstA:Stay W (Owned ρ2 (Xc B)) WA (Owned ρA (Xc B)):=hAA.base.stay _;have kA:RepR n (· <nxA) frL obA a.tmps WA ρA (Xc B):=⟨hAA.s,fun t ht=>⟨RepH.stay hstA hAA.moves (hmenF t) (j2.f t ht).1,(j2.f t ht).2⟩,fun t=>HV.men_mono (fun i hi=>G7 hi hnA) (hmenF t),hAA.mo,j2.size,fun b hb=>G7 (j2.xlt b hb) hAA.base.size⟩;have k2:RepR n (· <nxA) frL obA a.tmps W2 ρA (Xc B):=kA.foreign hs2 (fun b hb=>hb▸hxl) (fun b hb=> .inl hb) (fun b hb=>by omega);have kB:RepR n (· <nxA) frA obA aA.tmps W2 ρA (Xc B):=RepR.foreign (w:=WA) ⟨hAA.s,hAA.f,hAA.mf,hAA.mo,hAA.size,kA.xlt⟩ hs2 (fun b hb=>hb▸hxl) (fun b hb=> .inl hb) (fun b hb=>by omega)
  let c2:Ctx:={w0:=W2,ρ0:=ρA,X:=Xc B,M0:=(· <nx2),n:=n,R:=some l,may:=false}
  have hA2:RepA c2 (· <nxA) frA obA aA W2:=⟨ρA,kB.s,kB.f,kB.mf,kB.mo,hAA.m0,Stay2.refl _ _,Moves.refl _ _,by rw[hAA.defers.2 rfl];exact DefOk.nil _ _ _,kB.size,kB.xlt⟩;have hb:=hqA c2 aA W2 rfl rfl (.inr hnr) hA2;have hF:c2.F=Fence.wide.inRound l:=rfl;rw[hF]at hb;have pre1:Stay2 W (Xi ρ2) W2 (Xi ρA):=(Stay2.widen (C:=Xi ρ2) (C':=Xi ρA) hAA.base (fun b hb=>by rw[hXi];exact .inl hb) (fun b hb=>by
    rw[hXi]at hb⊢;rcases hb with hb|hb
    · exact .inr hb
    · exact .inl (.inr hb))).trans (hs2.widen (fun b hb=>by rw[hXi];exact .inr (.inr (.inl hb))) (fun b hb=> .inl hb))
  have pre2:Stay2 W (fun b=>Own ρ2 b∨B b∨b=l∨b=D) W2 (fun b=>Own ρA b∨B b∨b=l∨b=D):=(Stay2.widen (C:=fun b=>Own ρ2 b∨B b∨b=l∨b=D) (C':=fun b=>Own ρA b∨B b∨b=l∨b=D) hAA.base (fun b hb=> .inl hb) (fun b hb=>by
    rcases hb with hb|hb
    · exact .inr hb
    · exact .inl (.inr hb))).trans (hs2.widen (fun b hb=> .inr (.inr (.inl hb))) (fun b hb=> .inl hb))
  refine Q4 hb ?_;rintro e a3 W3 ⟨fr',ob',nx',hq,hA3⟩;have fin: ∀(jump:Option Code) (ρ3:Env) (ob3:Ob) (nx3:Nat) (fr3:Fr) (a3:Act),RepA' c2 (· <nx3) fr3 ob3 a3 W3 ρ3→
    ∃w',(Instr.endRound l jump).run P W3= .ok (.bool jump.isNone) w'∧Stay2 W (Xi ρ2) w' (Xi ρ3)∧(∀b,Xi ρ3 b→b<w'.heap.size)∧RepR n (· <nx3) frL ob3 a.tmps w' ρ3 (Xc B)∧nx2≤nx3∧Stay2 w (Own ρ) w' (fun b=>Own ρ3 b∨B b∨b=l∨b=D)∧
     Moves (· <nx2) ρ ρ3∧w'.heap[l]? =some (.loop (rec fn (if jump.isNone then .ready else .done) jump))∧w'.heap[D]? =some (.deferred (some [])):=by
   intro jump ρ3 ob3 nx3 fr3 a3 h3;have hnl: ∀b,Xc B b→ ¬Own ρA b:=fun b hx ⟨id,L,e1,e2⟩=>k2.s.xb id L b e1 e2 hx;have hl3:W3.heap[l]? =some (.loop {rec fn .ready none with state:= .busy}):=(h3.base.block l (by show l<W2.heap.size;omega) (hnl l hxl)).trans hl2;have hD3:W3.heap[D]? =some (.deferred (some [])):=(h3.base.block D (by show D<W2.heap.size;omega) (hnl D hxD)).trans hD2;have hll3:l<W3.heap.size:=(G6.1 hl3).1;have hend:=run_endRound (P:=P) jump hl3;have hn3:nx2≤nx3:=by
    rcases H0 nx3 nx2 with h'|h'
    · have:nx3<nx3:=h3.m0 nx3 h';omega
    · exact h'
   have hst:Stay W2 (Owned ρA (Xc B)) W3 (Owned ρ3 (Xc B)):=h3.base.stay _;have k3:RepR n (· <nx3) frL ob3 a.tmps W3 ρ3 (Xc B):=⟨h3.s,fun t ht=>⟨RepH.stay hst h3.moves (hmenF t) (k2.f t ht).1,(k2.f t ht).2⟩,fun t=>HV.men_mono (fun i hi=>G7 hi hn3) (hmenF t),h3.mo,k2.size,fun b hb=>G7 (k2.xlt b hb) h3.base.size⟩;refine⟨_,hend,?_,?_,k3.foreign (Stay2.putObj _ _ _) (fun b hb=>hb▸hxl) (fun b hb=> .inl hb) (fun b hb=>by rw[World.putObj_size];omega),hn3,?_,Moves.trans (fun _ h=>h) (Moves.trans (fun _ h=>h) j5 hAA.moves) h3.moves,?_,?_⟩
   ·
    have e2:Stay2 W2 (Xi ρA) W3 (Xi ρ3):=Stay2.widen h3.base (fun b hb=>by rw[hXi];exact .inl hb) (fun b hb=>by
     rw[hXi]at hb⊢;rcases hb with hb|hb
     · exact .inr hb
     · exact .inl (.inr hb))
    exact pre1.trans (e2.trans (Stay2.widen (Stay2.putObj _ _ _) (fun b hb=>by rw[hXi];exact .inr (.inr (.inl hb))) (fun b hb=> .inl hb)))
   ·
    intro b hb;rw[World.putObj_size];rw[hXi]at hb;rcases hb with⟨id,L,e1,e2⟩|hb|hb|hb
    · exact Owned.lt h3.s e1 e2
    · exact k3.xlt b (by rw[hXc];exact .inl hb)
    · omega
    · exact k3.xlt b (by rw[hXc];exact .inr (.inr (.inr hb)))
   ·
    have e2:Stay2 W2 (fun b=>Own ρA b∨B b∨b=l∨b=D) W3 (fun b=>Own ρ3 b∨B b∨b=l∨b=D):=Stay2.widen h3.base (fun b hb=> .inl hb) (fun b hb=>by
     rcases hb with hb|hb
     · exact .inr hb
     · exact .inl (.inr hb))
    exact j4.trans (pre2.trans (e2.trans (Stay2.widen (Stay2.putObj _ _ _) (fun b hb=> .inr (.inr (.inl hb))) (fun b hb=> .inl hb))))
   · rw[World.putObj_heap_same hll3];rw[hrec]
   · exact(World.putObj_heap_other (by omega)).trans hD3
  have hX2: ∀{w':World} {X':Nat→Prop},Stay2 W (Xi ρ2) w' X'→Stay2 W X w' X':=fun hs=>⟨fun b hb hx=>hs.block b hb fun h'=>hx ((j1 b).2 h'),fun b hb=>(hs.own b hb).imp (fun h'=>(j1 b).2 h') id,hs.size,hs.os,hs.tape,hs.output⟩;cases e with
  |normal=>
   obtain⟨ρ3,h3⟩:=hA3.fits (k:=nx2) rfl hq.1;obtain⟨w',r1,r2,r3,r4,r5,r6,r7,r8,r9⟩:=fin none ρ3 _ nx2 _ a3 h3;exact⟨_,w',r1,Xi ρ3,hX2 r2,r3,.inl ⟨rfl,ρ3,inv (i+1),nx2,.ready,none,fun _=>W8,r4,r5,r6,r7,r8,r9,j8,fun _=>⟨hi,rfl,rfl,rfl,rfl,hq.2⟩,fun h=>by cases h⟩⟩
  |ret=>
   obtain⟨ρ3,h3⟩:=hA3;obtain⟨w',r1,r2,r3,r4,r5,r6,r7,r8,r9⟩:=fin (some .ret) ρ3 _ nx' _ a3 h3;exact⟨_,w',r1,Xi ρ3,hX2 r2,r3,.inr ⟨rfl,ρ3,ob',nx',.done,some .ret,fun _=>W8,r4,r5,r6,r7,r8,r9,j8,fun h=>(by cases h),fun _=>⟨rfl,.inl ⟨rfl,hq⟩⟩⟩⟩
  |exit id=>
   obtain⟨ρ3,h3⟩:=hA3;obtain⟨w',r1,r2,r3,r4,r5,r6,r7,r8,r9⟩:=fin (some (.exit id)) ρ3 _ nx' _ a3 h3;exact⟨_,w',r1,Xi ρ3,hX2 r2,r3,.inr ⟨rfl,ρ3,ob',nx',.done,some (.exit id),fun _=>W8,r4,r5,r6,r7,r8,r9,j8,fun h=>(by cases h),fun _=>⟨rfl,.inr ⟨id,rfl,hq⟩⟩⟩⟩
  |goto t=>exact hq.elim
  |panic ch=>exact hq.elim
  |outgrown=>exact hq.elim
 ·
  rintro e W2 ⟨⟨v,rfl⟩,X',B,hJ⟩;have key: ∀go i,J go i W2 X' B→rangePost Fence.wide 0 P l (fun e a' w'=> ∃fr' ob' nx',Q e fr' ob' nx'∧RepA c (· <nx') fr' ob' a' w') {a with defers:=[{target:= .collected D,args:= #[]}]++a.defers} (.returned v) W2∨(go=true∧i≠xs.length):=by
   rintro go i ⟨ρ3,ob1,nx1,st,jump,j1,j2,j3,j4,j5,j6,j7,j8,j9,j10⟩;have hll:l<W2.heap.size:=(G6.1 j6).1;have hnb:(rec fn st jump).state≠ .busy:=by
    rw[hrec];cases go with
    |true=>obtain⟨_,_,_,rfl,_⟩:=j9 rfl;simp
    |false=>obtain⟨rfl,_⟩:=j10 rfl;simp
   have hel:=run_endLoop (P:=P) j6 hnb;have k3:RepR n (· <nx1) frL ob1 a.tmps (W2.putObj l (.loop {rec fn st jump with state:= .exhausted})) ρ3 (Xc B):=j2.foreign (Stay2.putObj _ _ _) (fun b hb=>by rw[hXc];exact .inr (.inr (.inl hb))) (fun b hb=> .inl hb) (fun b hb=>by rw[World.putObj_size];omega);obtain⟨W4,hW4⟩: ∃W4,W2.putObj l (.loop {rec fn st jump with state:= .exhausted})=W4:=⟨_,rfl⟩;rw[hW4]at hel k3;have hs4:Stay2 w (Own ρ) W4 (Own ρ3):=by
    rw[←hW4];have e1:=j4.trans (Stay2.widen (C:=fun b=>Own ρ3 b∨B b∨b=l∨b=D) (C':=fun b=>Own ρ3 b∨B b∨b=l∨b=D) (Stay2.putObj W2 l (.loop {rec fn st jump with state:= .exhausted})) (fun b hb=> .inr (.inr (.inl hb))) (fun b hb=> .inl hb));exact⟨e1.block,fun b hb=>e1.own b (.inl hb),e1.size,e1.os,e1.tape,e1.output⟩
   have hD4:W4.heap[D]? =some (.deferred (some [])):=by rw[←hW4];exact(World.putObj_heap_other (by omega)).trans j7
   have hstx:Stay W4 (Owned ρ3 (Xc B)) W4 (Owned ρ3 c.X):=Stay.same fun b _ hb=>hb.imp (fun h'=>by rw[hXc];exact .inl h') id;have hdef:DefOk c.may c.w0.heap.size W4 ([{target:= .collected D,args:= #[]}]++a.defers):=by
    obtain⟨⟨Ds,d1,d2,d3⟩,d4⟩:=h.defers;refine⟨⟨D::Ds,by rw[d1];rfl,AA.2 ⟨fun hx=>?_,d2⟩,fun b hb=>?_⟩,fun hf=>by rw[hmay]at hf;cases hf⟩
    · have:=(G6.1 (d3 D hx).2).1;omega
    ·
     rcases E9.1 hb with rfl|hb
     · exact⟨by rw[hD];exact h.base.size,hD4⟩
     · refine⟨(d3 b hb).1,?_⟩;rw[hs4.block b (G6.1 (d3 b hb).2).1 fun ho=>uF h.s ho (d3 b hb).2];exact(d3 b hb).2
   have hA4:RepA c (· <nx1) frL ob1 {a with defers:=[{target:= .collected D,args:= #[]}]++a.defers} W4:=
    ⟨ρ3,⟨fun id o ho=>RepO.stay hstx (Moves.refl (fun _=>True) ρ3) (HO.men_mono (fun _ _=>trivial) (k3.mo id o ho).2) rfl (fun _ _ _ _=>rfl) (k3.s.objs id o ho),k3.s.none,k3.s.apart,fun id L b h1 h2 h3=>k3.s.xb id L b h1 h2 (by rw[hXc];exact .inl h3)⟩,
     fun t ht=>⟨RepH.stay hstx (Moves.refl (fun _=>True) ρ3) (HV.men_mono (fun _ _=>trivial) (k3.mf t)) (k3.f t ht).1,(k3.f t ht).2⟩,k3.mf,k3.mo,fun id hid=>by rw[hk]at hid;exact G7 (G7 hid hfit.k) j3,
     h.base.trans hs4,Moves.trans (fun id hid=>by rw[hk]at hid;exact G7 hid hfit.k) h.moves j5,hdef,h.size,h.xlt⟩
   cases go with
   |true=>
    obtain⟨_,rfl,rfl,rfl,rfl,hΦ⟩:=j9 rfl;by_cases hi:i=xs.length
    · subst hi;refine .inl ⟨none,W4,by rw[hrec]at hel;exact hel,?_⟩;exact⟨_,_,_,hend hΦ,hA4⟩
    · exact .inr ⟨rfl,hi⟩
   |false=>
    obtain⟨rfl,hj⟩:=j10 rfl;rcases hj with⟨rfl,hq⟩|⟨id,rfl,hq⟩
    · refine .inl ⟨some .ret,W4,by rw[hrec]at hel;exact hel,?_⟩;exact wpIn_ret ⟨_,_,_,hq,hA4⟩
    · refine .inl ⟨some (.exit id),W4,by rw[hrec]at hel;exact hel,?_⟩;exact wpIn_exit ⟨_,_,_,hq,hA4⟩
  rcases hJ with hJ|⟨i,hJ⟩
  · exact(key true _ hJ).resolve_right fun h=>h.2 rfl
  · exact(key false i hJ).resolve_right fun h=>by cases h.1
end
section
variable {P:Program}{b:Frame}{a:Act}{k:List Item}{cs:List Frame}{w:World}{F:Fence}{n:Nat}{Q:Exit→Act→World→Prop}
theorem iU {c:Code}:step P (lone (b.atR a (.code (.scope c)::k)) cs w)= .next (lone (b.atR a (.code c:: .inScope c::k)) cs w):=
 step_lone_go (by simp[stepG,stepG.exec,Frame.atR])
theorem aB4 {c:Code}:step P (lone (b.atR a (.inScope c::k)) cs w)= .next (lone (b.atR a k) cs w):=
 step_lone_go (by simp[stepG,stepG.exec,Frame.atR])
theorem bC4 {c:Code}(h:c.wpIn F n P (Exit.noGoto Q) a w):(Code.scope c).wpIn F n P Q a w:=by
 intro b k cs hro hb hr;have h0:(lone (b.atR a (.code (.scope c)::k)) cs w).fenced P F:=V8 hb hr rfl;obtain⟨e,a₁,w₁,hq,harr⟩:=h b (.inScope c::k) cs hro hb hr;cases e with
 |normal=>exact⟨.normal,a₁,w₁,hq,.head h0 iU (AW harr (.one (V8 hb hr rfl) aB4))⟩
 |exit id=>
  have hx:exitTo id (.inScope c::k)=exitTo id k:=by simp[exitTo]
  exact⟨.exit id,a₁,w₁,hq,fun k' hk=> .head h0 iU (harr.1 k' (by grind)),
   fun hr' hk=>let⟨k₁,h1,h2⟩:=harr.2 hr' (by grind);⟨k₁,h1,.head h0 iU h2⟩⟩
 |goto l=>exact hq.elim
 |ret=>exact⟨_,a₁,w₁,hq,.of_steps (.one h0 iU) harr⟩
 |panic ch=>exact⟨_,a₁,w₁,hq,.of_steps (.one h0 iU) harr⟩
 |outgrown=>exact⟨_,a₁,w₁,hq,.of_steps (.one h0 iU) harr⟩
end
def aL3 (Q:eW):eW
 | .goto _=>fun _ _ _=>False
 |e=>Q e
variable {nx:Nat}{ob:Ob}{fr:Fr}{Q:eW}{P:Program}
theorem bX5 {n k:Nat}{x:Code}(h:Hw P n k x (aL3 Q) fr ob nx):Hw P n k (.scope x) Q fr ob nx:=by
 intro c a w hn hk hz hA;refine bC4 (Q4 (h c a w hn hk hz.scope hA) ?_);rintro e a' w' ⟨fr',ob',nx',hq,hA'⟩;cases e with
 |goto l=>exact hq.elim
 |_=>exact⟨fr',ob',nx',hq,hA'⟩
def RepI (n:Nat)(J:IterJ)(fr:Fr)(ob:Ob)(nx:Nat)(g:Bool)(i:Nat)(a:Act)(w:World):Prop:=
 ∃ρ X,RepR n (· <nx) fr ob a.tmps w ρ X∧a.defers=[]∧J g i w X (Own ρ)
abbrev tF :=Exit→Fr→Ob→Nat→Bool→Nat→Prop
def HwI (P:Program)(n:Nat)(J:IterJ)(code:Code)(Q:tF)(fr:Fr)(ob:Ob)(nx:Nat)(g:Bool)(i:Nat):Prop:=
 ∀(a:Act) (w:World),RepI n J fr ob nx g i a w→code.wpIn Fence.wide 0 P (fun e a' w'=> ∃fr' ob' nx' g' i',Q e fr' ob' nx' g' i'∧RepI n J fr' ob' nx' g' i' a' w') a w
def aT6 (K:Fr→Ob→Nat→Bool→Nat→Prop)(Q:tF):tF
 | .normal=>K
 |e=>Q e
def bX6 (id:Nat)(Q:tF):tF
 | .exit id'=>if id'=id then Q .normal else Q (.exit id')
 |e=>Q e
section
variable {P:Program}{n:Nat}{J:IterJ}{Q:tF}{fr:Fr}{ob:Ob}{nx:Nat}{g:Bool}{i:Nat}
theorem RepI.ctx {a:Act}{w:World}{ρ:Env}{X:Nat→Prop}(h:RepR n (· <nx) fr ob a.tmps w ρ X)(hd:a.defers=[]):
  RepA' {w0:=w,ρ0:=ρ,X:=X,M0:=(· <0),n:=n,may:=false} (· <nx) fr ob a w ρ:=
 ⟨h.s,h.f,h.mf,h.mo,fun _ hi=>absurd hi (Q7 _),Stay2.refl _ _,Moves.refl _ _,by grind[DefOk.nil],h.size,h.xlt⟩
theorem RepI.of {c:Ctx}{a:Act}{w:World}{ρ:Env}(h:RepA' c (· <nx) fr ob a w ρ)(hm:c.may=false)(hJ:J g i w c.X (Own ρ)):RepI c.n J fr ob nx g i a w:=
 ⟨ρ,c.X,⟨h.s,h.f,h.mf,h.mo,h.size,fun b hb=>G7 (h.xlt b hb) h.base.size⟩,h.defers.2 hm,hJ⟩
theorem oU {code:Code}(hS:J.Stab)(hz:dY code=true)(h:Hw P n 0 code (fun e fr ob nx=>Q e fr ob nx g i) fr ob nx):HwI P n J code Q fr ob nx g i:=by
 rintro a w ⟨ρ,X,hR,hd,hJ⟩;have h1:=h {w0:=w,ρ0:=ρ,X:=X,M0:=(· <0),n:=n,may:=false} a w rfl rfl (.inr hz) ⟨ρ,RepI.ctx hR hd⟩;refine Q4 h1 ?_;rintro e a' w' ⟨fr',ob',nx',hq,ρ',hA'⟩;exact⟨fr',ob',nx',g,i,hq,RepI.of hA' rfl (hS hJ hA'.base fun b ⟨id,L,e1,e2⟩=>Owned.lt hA'.s e1 e2)⟩
theorem HwI.mono {code:Code}{Q':tF}(h:HwI P n J code Q fr ob nx g i)(hq: ∀e fr ob nx g i,Q e fr ob nx g i→Q' e fr ob nx g i):HwI P n J code Q' fr ob nx g i:=
 fun a w hA=>Q4 (h a w hA) fun _ _ _ ⟨fr',ob',nx',g',i',h1,h2⟩=>⟨fr',ob',nx',g',i',hq _ _ _ _ _ _ h1,h2⟩
theorem oV (h:Q .normal fr ob nx g i):HwI P n J .skip Q fr ob nx g i:=fun _ _ hA=>wpIn_skip ⟨fr,ob,nx,g,i,h,hA⟩
theorem aT7 {id:Nat}(h:Q (.exit id) fr ob nx g i):HwI P n J (.exit id) Q fr ob nx g i:=fun _ _ hA=>wpIn_exit ⟨fr,ob,nx,g,i,h,hA⟩
theorem bI0 (h:Q .ret fr ob nx g i):HwI P n J .ret Q fr ob nx g i:=fun _ _ hA=>wpIn_ret ⟨fr,ob,nx,g,i,h,hA⟩
theorem gD {x y:Code}(h: ∀K:Fr→Ob→Nat→Bool→Nat→Prop,(∀fr ob nx g i,HwI P n J y Q fr ob nx g i→K fr ob nx g i)→HwI P n J x (aT6 K Q) fr ob nx g i):HwI P n J (.seq x y) Q fr ob nx g i:=by
 intro a w hA;refine wpIn_seq (Q4 (h (HwI P n J y Q) (fun _ _ _ _ _ h=>h) a w hA) fun e a' w' hx=>?_);obtain⟨fr',ob',nx',g',i',h1,h2⟩:=hx;cases e with
 |normal=>exact h1 a' w' h2
 |_=>exact⟨fr',ob',nx',g',i',h1,h2⟩
theorem lF {x y:Code}{o:Operand}{b:Bool}(hb:ev fr o= .c (.bool b))(h1:b=true→HwI P n J x Q fr ob nx g i)(h2:b=false→HwI P n J y Q fr ob nx g i):HwI P n J (.cond o x y) Q fr ob nx g i:=by
 intro a w hA;obtain⟨ρ,X,hR,hd,hJ⟩:=hA;have:=pO (RepI.ctx hR hd) hb;exact wpIn_cond_split this (fun e=>h1 e a w ⟨ρ,X,hR,hd,hJ⟩) (fun e=>h2 e a w ⟨ρ,X,hR,hd,hJ⟩)
theorem qH {id:Nat}{x:Code}(h:HwI P n J x (bX6 id Q) fr ob nx g i):HwI P n J (.block id x) Q fr ob nx g i:=by
 intro a w hA;refine wpIn_block (Q4 (h a w hA) fun e a' w' hx=>?_);obtain⟨fr',ob',nx',g',i',h1,h2⟩:=hx;cases e with
 |exit id'=>
  simp only[Exit.inBlock,bX6]at h1⊢;grind
 |_=>exact⟨fr',ob',nx',g',i',h1,h2⟩
theorem RepI.fits {a:Act}{w:World}{fr2:Fr}{ob2:Ob}{nx2:Nat}(hS:J.Stab)(h:RepI n J fr ob nx g i a w)(hf:Fits 0 fr ob fr2 ob2 nx2):RepI n J fr2 ob2 nx2 g i a w:=by
 obtain⟨ρ,X,hR,hd,hJ⟩:=h;obtain⟨ρ2,h2⟩:=RepA.fits (k:=0) rfl ⟨ρ,RepI.ctx hR hd⟩ hf;exact RepI.of h2 rfl (hS hJ h2.base fun b ⟨id,L,e1,e2⟩=>Owned.lt h2.s e1 e2)
theorem aT8 {α:Type}{x:Code}(hS:J.Stab)(inv:α→Fr×Ob)(st:α→Nat)(nx2:Nat)(μ:α→Nat)(x0:α)(hg:g=true)(h0:Fits 0 fr ob (inv x0).1 (inv x0).2 nx2)(hi:i=st x0)
  (round: ∀y,HwI P n J x (aT6 (fun fr' ob' _ g' i'=> ∃y',Fits 0 fr' ob' (inv y').1 (inv y').2 nx2∧g'=true∧i'=st y'∧μ y'<μ y) Q) (inv y).1 (inv y).2 nx2 true (st y)):HwI P n J (.loop x) Q fr ob nx g i:=by
 subst hg;subst hi;intro a w hA b kk cs hro hbf hrm;have key: ∀(m:Nat) (y:α) (a:Act) (w:World),μ y=m→RepI n J (inv y).1 (inv y).2 nx2 true (st y) a w→
   ∃e a' w',(∃fr' ob' nx' g' i',Q e fr' ob' nx' g' i'∧RepI n J fr' ob' nx' g' i' a' w')∧ArrivesIn (Machine.fenced P Fence.wide) P (lone (b.atR a (.code x:: .inLoop x::kk)) cs w) b kk cs e a' w':=by
  intro m;induction m using Nat.strongRecOn with
  |_ m ih=>
   intro y a w hy hA;obtain⟨e,a₁,w₁,hq,harr⟩:=round y a w hA b (.inLoop x::kk) cs hro hbf hrm;cases e with
   |normal=>
    obtain⟨fr',ob',nx',g',i',⟨y',hf,rfl,rfl,hlt⟩,hA'⟩:=hq;obtain⟨e₂,a₂,w₂,hq₂,harr₂⟩:=ih (μ y') (by omega) y' a₁ w₁ rfl (hA'.fits hS hf);exact⟨e₂,a₂,w₂,hq₂,.of_steps (AW harr (.one (V8 hbf hrm rfl) stepR_inLoop)) harr₂⟩
   |exit id=>exact⟨_,a₁,w₁,hq,.pass (x:= .inLoop x) rfl (fun _ _=> .inl (by simp)) harr⟩
   |goto l=>exact⟨_,a₁,w₁,hq,.pass (x:= .inLoop x) rfl (fun _ _=> .inl (by simp)) harr⟩
   |ret=>exact⟨_,a₁,w₁,hq,.pass (x:= .inLoop x) rfl (fun _ _=> .inl (by simp)) harr⟩
   |panic ch=>exact⟨_,a₁,w₁,hq,.pass (x:= .inLoop x) rfl (fun _ _=> .inl (by simp)) harr⟩
   |outgrown=>exact⟨_,a₁,w₁,hq,.pass (x:= .inLoop x) rfl (fun _ _=> .inl (by simp)) harr⟩
 obtain⟨e,a',w',hq,harr⟩:=key _ x0 a w rfl (hA.fits hS h0);exact⟨e,a',w',hq,.of_steps (.one (V8 hbf hrm rfl) stepR_loop) harr⟩
end
section
variable {P:Program}{n:Nat}{J:IterJ}{Q:tF}{fr:Fr}{ob:Ob}{nx:Nat}{g:Bool}{i:Nat}
theorem aE5 {c:Ctx}{Q:Exit→Act→World→Prop}{ops:Array Oper}{nx:Nat}{K:Fr→Ob→Prop}{rest:List Nat}(hd: ∀o∈ops,∀k,o.dst=some k→k<c.n)(N:Nat)
  (hQ: ∀fr ob a w,K fr ob→RepA c (· <nx+4*N) fr ob a w→wpOpsIn c.F 0 P ops Q rest a w): ∀(n k:Nat) (fr:Fr) (ob:Ob) (a:Act) (w:World),k+n=N→RepA c (· <nx+4*k) fr ob a w→hlexG P ops nx K (List.range' k n) fr ob→wpOpsIn c.F 0 P ops Q (List.range' k n++rest) a w
 |0,k,fr,ob,a,w,hk,h,hl=>by
  simp only[List.range'_zero,hlexG,I9]at hl⊢;exact hQ fr ob a w hl (by simp_all)
 |n+1,k,fr,ob,a,w,hk,h,hl=>by
  simp only[V2,hlexG,J4,wpOpsIn_cons]at hl⊢;refine wpOpIn_mono (fun a' w' hx=>?_) (oN (Q:=Q) (M':=(· <nx+4*(k+1))) h (fun t ht=>by omega) (fun i hi=>by omega) (fun t ht=>by omega) hd hl);obtain⟨fr',ob',hK,hA⟩:=hx;exact aE5 hd N hQ n (k+1) fr' ob' a' w' (by omega) hA hK
theorem bX7 {l:Nat}{o:Oper}{cl:Call}{f:Operand}{a:Act}{w:World}{R:Ending→World→Prop}{next:Act→World→Prop}{Q:Exit→Act→World→Prop}(ho:o.op= .call cl)(hc:cl.callee= .value f)(hf:a.eval f= .func (.yield l) #[] #[])
  (hy:YieldAt Fence.wide 0 P l (cl.args.map a.eval) w R) (hR: ∀e w',R e w'→ ∃v,e= .returned v∧next (a.put o.dst v) w'):o.wpIn Fence.wide 0 P a w next Q:=by
 refine⟨fun _ _=>trivial,?_⟩;rw[V4 _ _ _ (by grind)];obtain⟨fn,tmps,assign,body,hrun,hround⟩:=hy;have h1:(execOp a.eval o).run P w= .ok (.round l fn tmps assign body) w:=by simp[execOp,ho,resolve,hc,hf,Deferred.ofValue,invoke,hrun]
 rw[h1,Oper.uponIn_round];refine⟨fun h=>(by cases h),hround.mono ?_⟩;grind
theorem uX {l:Nat}{id:Nat}{ops:Array Oper}{xs:List (List CV)}(j:Nat)(hS:J.Stab)
  (hY: ∀(i:Nat) (hi:i<xs.length) (w:World) (X B:Nat→Prop) (vs:List Value),J true i w X B→RepHV w (fun _=>none) (fun b=>X b∨B b) (xs[i].map .c) vs→YieldAt Fence.wide 0 P l vs.toArray w (tE J i w X B))
  (hg:g=true) (hd:jH n ops=true) (hj:j<ops.size)
  (h:hlex P ops nx (fun fr' ob'=> ∃(o:Oper) (cl:Call) (f:Operand) (hi:i<xs.length),ops[j]? =some o∧o.op= .call cl∧cl.callee= .value f∧hguard ops o fr'=some true∧ev fr' f= .opq (.func (.yield l) #[] #[])∧
   (cl.args.toList.map fun x=>ev fr' x)=xs[i].map .c∧
   hlex P ops nx (fun fr2 ob2=>Q .normal fr2 ob2 (nx+4*ops.size) true (i+1)) (List.range' (j+1) (ops.size-(j+1))) (updo fr' o.dst (.c (.bool true))) ob'∧
   hlex P ops nx (fun fr2 ob2=>Q .normal fr2 ob2 (nx+4*ops.size) false i) (List.range' (j+1) (ops.size-(j+1))) (updo fr' o.dst (.c (.bool false))) ob') (List.range' 0 j) fr ob):
  HwI P n J (.region id ops false) Q fr ob nx g i:=by
 subst hg;rintro a w ⟨ρ,X,hR,hdf,hJ⟩;refine wpIn_region ?_;have hr:List.range ops.size=List.range' 0 j++(j::List.range' (j+1) (ops.size-(j+1))):=by
  have e1:=List.range'_append_1 (s:=0) (m:=j) (n:=ops.size-(j+1)+1);rw[F3]at e1;rw[R8,←List.range'_succ (s:=j) (step:=1),e1];congr 1;omega
 rw[hr]
 let c:Ctx:={w0:=w,ρ0:=ρ,X:=X,M0:=(· <0),n:=n,may:=false}
 refine aE5 (c:=c) (lB hd) j (fun fr' ob' a' w' hK hA=>?_) j 0 fr ob a w (by omega) ⟨ρ,RepI.ctx hR hdf⟩ (aK2 h);obtain⟨o,cl,f,hi,ho,hop,hcl,hgu,hf,hargs,hT,hN⟩:=hK;obtain⟨ρ',hA'⟩:=hA;have hJ':J true i w' X (Own ρ'):=hS hJ hA'.base fun b ⟨id,L,e1,e2⟩=>Owned.lt hA'.s e1 e2;show wpOpIn Fence.wide 0 P ops _ j _ a' w';unfold wpOpIn;rw[ho];simp only[qZ hA' hgu,F7];have hrf:=dQ (hA'.ev f (by rw[hf];simp)) (by rw[hf];rfl);rw[hf]at hrf;have hfv:a'.eval f= .func (.yield l) #[] #[]:=by
  have:=hrf.1;simp only[RepH,G4,L8]at this;first|exact this.1|exact this
 have hvs: ∀(ys:List Operand) (cs:List CV),(ys.map fun x=>ev fr' x)=cs.map .c→RepHV w' (fun _=>none) (fun b=>X b∨Own ρ' b) (cs.map .c) (ys.map a'.eval):=by
  intro ys;induction ys with
  |nil=>
   intro cs he;cases cs with
   |nil=>simp[RepHV]
   |cons _ _=>simp at he
  |cons x ys ih=>
   intro cs he;cases cs with
   |nil=>simp at he
   |cons c cs=>
    simp only[D0,G4]at he;have h1:=hA'.ev x (by rw[he.1];simp);rw[he.1]at h1;simp only[D0,bY];refine⟨_,_,rfl,?_,ih cs he.2⟩;simp only[RepV,RepH]at h1⊢;exact h1
 have hy:=hY i hi w' X (Own ρ') (cl.args.toList.map a'.eval) hJ' (hvs _ _ hargs);have harr:(cl.args.toList.map a'.eval).toArray=cl.args.map a'.eval:=by rw[←Array.toList_map,I4]
 rw[harr]at hy;have hdst: ∀k,o.dst=some k→k<n:=lB hd o (P4 ho);refine bX7 hop hcl hfv hy ?_;rintro e w2 ⟨X',hs,hlt,hE⟩;have k2:RepR n (· <nx+4*j) fr' ob' a'.tmps w2 ρ' X':=RepR.foreign (w:=w') (X:=X) ⟨hA'.s,hA'.f,hA'.mf,hA'.mo,hA'.size,fun b hb=>G7 (hA'.xlt b hb) hA'.base.size⟩ hs (fun _ hb=>hb) (fun _ hb=> .inr hb) hlt;have fin: ∀(b g':Bool) (i':Nat),J g' i' w2 X' (Own ρ')→hlex P ops nx (fun fr2 ob2=>Q .normal fr2 ob2 (nx+4*ops.size) g' i') (List.range' (j+1) (ops.size-(j+1))) (updo fr' o.dst (.c (.bool b))) ob'→
   wpOpsIn Fence.wide 0 P ops (fun e a' w'=> ∃fr' ob' nx' g' i',Q e fr' ob' nx' g' i'∧RepI n J fr' ob' nx' g' i' a' w') (List.range' (j+1) (ops.size-(j+1))) (a'.put o.dst (.bool b)) w2:=by
  intro b g' i' hJ2 hl
  let c2:Ctx:={w0:=w2,ρ0:=ρ',X:=X',M0:=(· <0),n:=n,may:=false}
  have h2:RepA' c2 (· <nx+4*j) fr' ob' a' w2 ρ':=RepI.ctx k2 (hA'.defers.2 rfl);have h3:RepA' c2 (· <nx+4*(j+1)) (updo fr' o.dst (.c (.bool b))) ob' (a'.put o.dst (.bool b)) w2 ρ':=(h2.value (.inr (by simp[RepV,RepH,RepC,Value.cells,HV.isAgg,CV.isAgg,Value.isAgg'])) (by simp[HV.men]) hdst).weaken (fun i hi=>by omega);refine oO (c:=c2) (lB hd) ops.size (fun fr3 ob3 a3 w3 hK3 hA3=>?_) (ops.size-(j+1)) (j+1) _ ob' _ w2 (by omega) ⟨ρ',h3⟩ (aK2 hl);obtain⟨ρ3,hA3⟩:=hA3;exact⟨fr3,ob3,_,g',i',hK3,RepI.of hA3 rfl (hS hJ2 hA3.base fun b ⟨id,L,e1,e2⟩=>Owned.lt hA3.s e1 e2)⟩
 rcases hE with⟨rfl,hJ2⟩|⟨rfl,hJ2⟩
 · exact⟨_,rfl,fin true true (i+1) hJ2 hT⟩
 · exact⟨_,rfl,fin false false i hJ2 hN⟩
theorem bX8 {f:FuncId}{fn:Func}{code:Code}{caps:List HV}{k:Nat}{xs:List (List CV)}(hf:P.funcs[f]? =some fn)(hb:fn.body=some code)(hok:fQ P f=true)(hloc:LocOk k caps ob)(hn:caps.length+1≤fn.ntmps)(hr:fn.results= #[])
  (h: ∀(l:Nat) (J:IterJ),J.Stab→
   (∀(i:Nat) (hi:i<xs.length) (w:World) (X B:Nat→Prop) (vs:List Value),J true i w X B→RepHV w (fun _=>none) (fun b=>X b∨B b) (xs[i].map .c) vs→YieldAt Fence.wide 0 P l vs.toArray w (tE J i w X B))→
   HwI P fn.ntmps J code (fun e _ _ _ g i=>(e= .normal∨e= .ret)∧(g=true→i=xs.length)) (sT 0 (.opq (.func (.yield l) #[] #[])::caps)) ob k true 0):bX4 P f caps ob xs:=by
 refine⟨hok,fun l J W ρ X cs hS hC hX hStab hY hJ=>?_⟩;have hlen:cs.length=caps.length:=by
  clear h hn hloc;induction caps generalizing cs with
  |nil=>simp only[RepHV]at hC;simp[hC]
  |cons x l ih=>rw[bY]at hC;obtain⟨y,ys,rfl,_,h2⟩:=hC;simp[ih ys h2]
 refine callsIn_of_wp_marks (F:=Fence.wide) (n:=0) hf hb trivial ?_;have hget: ∀(l:List HV) (ys:List Value) (t:Nat),RepHV W ρ (Owned ρ X) l ys→t<l.length→RepV W ρ (Owned ρ X) (l.getD t .junk) (ys.getD t undef):=by
  intro l;induction l with
  |nil=>intro ys t _ ht;simp at ht
  |cons x l ih=>
   intro ys t hl ht;rw[bY]at hl;obtain⟨y,ys',rfl,h1,h2⟩:=hl;cases t with
   |zero=>simpa using h1
   |succ t=>simpa using ih ys' t h2 (by simpa using ht)
 have hmen: ∀(l:List HV) (t:Nat),HV.menL (· <k) l→(l.getD t .junk).men (· <k):=by
  intro l;induction l with
  |nil=>intro t _;simp[HV.men]
  |cons x l ih=>
   intro t hl;simp only[HV.menL]at hl;cases t with
   |zero=>simpa using hl.1
   |succ t=>simpa using ih t hl.2
 have hall:RepHV W ρ (Owned ρ X) (.opq (.func (.yield l) #[] #[])::caps) (.func (.yield l) #[] #[]::cs):=by
  rw[bY];exact⟨_,_,rfl,⟨by simp[RepH,Value.cells,Value.oneCell'],rfl⟩,hC⟩
 have hmenA:HV.menL (· <k) (.opq (.func (.yield l) #[] #[])::caps):=by simp only[HV.menL,HV.men,V5];exact hloc.args
 have e0:(#[.func (.yield l) #[] #[]]++cs.toArray:Array Value)=(Value.func (.yield l) #[] #[]::cs).toArray:=by simp
 rw[e0];have h0:RepI fn.ntmps J (sT 0 (.opq (.func (.yield l) #[] #[])::caps)) ob k true 0 {tmps:=(Value.func (.yield l) #[] #[]::cs).toArray++Array.replicate (fn.ntmps-(Value.func (.yield l) #[] #[]::cs).toArray.size) undef,defers:=[]} W:=by
  refine⟨ρ,X,⟨hS,fun t ht=>?_,fun t=>?_,hloc.none,by simp;omega,hX⟩,rfl,hJ⟩
  ·
   rw[xC,A7 (Q7 _),G8]at ht⊢;have htl:t<(HV.opq (.func (.yield l) #[] #[])::caps).length:=by
    rcases H0 t (HV.opq (.func (.yield l) #[] #[])::caps).length with h'|h'
    · exact h'
    · exact absurd (by rw[C7,P5 h'];rfl) ht
   have:=hget _ _ t hall htl;have e:((Value.func (.yield l) #[] #[]::cs).toArray++Array.replicate (fn.ntmps-(Value.func (.yield l) #[] #[]::cs).toArray.size) undef).getD t undef=(Value.func (.yield l) #[] #[]::cs).getD t undef:=by
    rw[K8,X3 (by simp only[I6,B0]at htl⊢;omega)];simp
   rw[e];exact this
  · rw[xC,A7 (Q7 _)];exact hmen _ _ hmenA
 refine Q4 (h l J hStab hY _ W h0) ?_;rintro e a1 w1 ⟨fr',ob',nx',g',i',⟨he,hg'⟩,ρ',X',hR',hd',hJ'⟩;have fin:LeavesInM Fence.wide 0 P fn a1.tmps (fun e W'=>(∃v,e= .returned v)∧ ∃X' B',J true xs.length W' X' B'∨ ∃i,J false i W' X' B') a1.defers .returning w1:=by
  rw[hd'];refine nI [] w1 I3 (by simp) ⟨.tuple #[],?_,⟨_,rfl⟩,X',Own ρ',?_⟩
  · show(results fn a1.tmps).run P w1= .ok _ w1;unfold results;rw[hr,S6];simp
  ·
   cases g' with
   |true=>rw[←hg' rfl];exact .inl hJ'
   |false=>exact .inr ⟨i',hJ'⟩
 rcases he with rfl|rfl
 · exact fin
 · exact fin
end
section
variable (Q:eW)(frL fr:Fr)(ob2 ob:Ob)(nx2 nx id:Nat)(K:Fr→Ob→Nat→Prop)(I:tF)(KI:Fr→Ob→Nat→Bool→Nat→Prop)(g:Bool)(i:Nat)
theorem rpost_normal (φ:Prop):aT4 Q frL ob2 nx2 φ .normal fr ob nx=(Fits nx2 fr ob (fun _=> .junk) ob2 nx2∧φ):=rfl
theorem rpost_exit (φ:Prop):aT4 Q frL ob2 nx2 φ (.exit id) fr ob nx=Q (.exit id) frL ob nx:=rfl
theorem rpost_ret (φ:Prop):aT4 Q frL ob2 nx2 φ .ret fr ob nx=Q .ret frL ob nx:=rfl
theorem hscope_normal :aL3 Q .normal=Q .normal:=rfl
theorem hscope_exit :aL3 Q (.exit id)=Q (.exit id):=rfl
theorem hscope_ret :aL3 Q .ret=Q .ret:=rfl
theorem ithen_normal :aT6 KI I .normal=KI:=rfl
theorem ithen_exit :aT6 KI I (.exit id)=I (.exit id):=rfl
theorem ithen_ret :aT6 KI I .ret=I .ret:=rfl
theorem iblk_normal :bX6 id I .normal=I .normal:=rfl
theorem iblk_exit (id':Nat):bX6 id I (.exit id')=if id'=id then I .normal else I (.exit id'):=rfl
theorem iblk_ret :bX6 id I .ret=I .ret:=rfl
end
def lL (bs:List (TypeId×CV)):Ob:=fun j=>(bs[j]?).map fun x=> .box x.1 (.c x.2)
def iZ (ids:List Nat):List HV:=ids.map fun i=> .ptr i 0
def oW (ob:Ob)(nid:Nat):List (TypeId×CV)→Ob
 |[]=>ob
 |x::bs=>oW (upd ob nid (some (.box x.1 (.c x.2)))) (nid+1) bs
def aL4 (P:Program)(gf:FuncId)(bs:List (TypeId×CV))(xs:List (List CV)):Prop:=bX4 P gf (iZ (List.range bs.length)) (lL bs) xs
def bI1 (P:Program)(f gf:FuncId)(args:List CV)(bs:List (TypeId×CV)):Prop:=
 HFn P f (args.map .c) 0 dK (fun r ob'=>r= .clo gf (iZ (List.range bs.length))∧ob'=lL bs)
theorem yT {M:Nat→Prop}: ∀{ids:List Nat},(∀i∈ids,M i)→HV.menL M (iZ ids)
 |[],_=>by simp[iZ,HV.menL]
 |i::ids,h=>by simp only[iZ,D0,HV.menL,HV.men];exact⟨h i F6,yT fun j hj=>h j (F5 _ hj)⟩
theorem tG {m:Nat→Nat}: ∀(ids:List Nat),HV.renL m (iZ ids)=iZ (ids.map m)
 |[]=>rfl
 |i::ids=>by
  have:=tG (m:=m) ids;grind[iZ,HV.renL,HV.ren]
theorem yU (bs:List (TypeId×CV)):LocOk bs.length (iZ (List.range bs.length)) (lL bs):=
 ⟨fun j hj=>⟨_,by simp only[lL,B5 hj,H8];rfl⟩,fun id o ho=>by
  simp only[lL,C8]at ho;obtain⟨x,hx,rfl⟩:=ho;grind[List.getElem?_eq_some_iff,HO.men,HV.men],yT fun i hi=>List.mem_range.1 hi⟩
theorem aE6 (σ:List Nat)(nid:Nat):(List.range σ.length).map (sub σ nid)=σ:=by
 apply Z5;all_goals simp_all[List.getElem_map,List.getElem_range,sub,B6,C7,B5,E0]
theorem bI2 : ∀(bs:List (TypeId×CV)) (ob:Ob) (nid i:Nat),oW ob nid bs i=if nid≤i∧i<nid+bs.length then lL bs (i-nid)else ob i
 |[],ob,nid,i=>by simp_all[oW,E5,N0,A7]
 |x::bs,ob,nid,i=>by
  simp only[oW,bI2 bs,B0];by_cases h1:i=nid
  · subst h1;rw[A7 (by omega),aU,B6 (by omega)];simp[lL]
  ·
   by_cases h2:nid+1≤i∧i<nid+1+bs.length
   · rw[B6 h2,B6 (by omega)];obtain⟨k,rfl⟩: ∃k,i=nid+1+k:=⟨i-(nid+1),by omega⟩;grind[lL]
   · rw[A7 h2,A7 (by omega),bJ _ _ h1]
variable {bs:List (TypeId×CV)}{f gf:FuncId}
theorem uY {av:List Nat}{nid:Nat}{K:HV→Ob→Prop}{args:List CV}(h:bI1 P f gf args bs)(hb:bs.length≤4)(hfree:Free4 ob nid)
  (hK:K (.clo gf (iZ (List.range' nid bs.length))) (oW ob nid bs)):HCall P av f (args.map .c) ob nid K:=by
 refine⟨[],args.map .c,dK,_,h,kR args,⟨I3,by simp⟩,(HV.renL_c _ _).symm,fun j o h=>by simp[dK]at h,fun r lob' hR _=>?_⟩;obtain⟨rfl,rfl⟩:=hR;have e1:cJ ob [] nid (lL bs)=oW ob nid bs:=by
  funext i;rw[bI2];simp only[cJ,U6,E5,F3];by_cases h1:nid≤i∧i<nid+4
  ·
   rw[B6 h1];by_cases h2:i<nid+bs.length
   ·
    rw[B6 ⟨h1.1,h2⟩];cases hx:lL bs (i-nid)with
    |none=>rfl
    |some o=>
     simp only[lL,C8]at hx;obtain⟨x,_,rfl⟩:=hx;rfl
   · rw[A7 (by omega),hfree.all i h1.1 h1.2];grind[lL,List.getElem?_eq_none]
  · rw[A7 h1,A7 (by omega)]
 rw[e1];have e2:(HV.clo gf (iZ (List.range bs.length))).ren (sub [] nid)= .clo gf (iZ (List.range' nid bs.length)):=by
  simp only[HV.ren,tG];congr 2;rw[R8,Y9,Y9,P7];refine N7 fun i _=>?_;simp[sub]
 grind
theorem bC5 (v:CV)(h:v.denil=v): ∀ob cl,((HV.c v).close ob cl).norm= .c v:=fun ob cl=>by simp[HV.close,HV.norm,HV.toC,h]
theorem uZ {ids:List Nat}(hl:ids.length=bs.length)(hb:bs.length≤4)(hn:ids.Nodup)(ho: ∀j x,bs[j]? =some x→ob (ids.getD j 0)=some (.box x.1 (.c x.2)))(hd: ∀x∈bs,x.2.denil=x.2):
  lC 0 (.clo gf (iZ ids)) ob (fun r ob'=>r= .clo gf (iZ (List.range bs.length))∧ob'=lL bs):=by
 let m:=ids.foldl max 0
 have hm: ∀i∈ids,i≤m:=by
  have: ∀(l:List Nat) (a:Nat),(∀i∈l,i≤l.foldl max a)∧a≤l.foldl max a:=by
   intro l;induction l with
   |nil=>grind
   |cons x l ih=>
    grind
  exact(this ids 0).1
 refine⟨[],sub ids (m+1),.clo gf (iZ (List.range bs.length)),lL bs,⟨rfl,rfl⟩,?_,fun _ h=>absurd h (Q7 _),fun i j hi hj e=>?_,?_,fun j o hj=>?_⟩
 · grind[HV.close,HV.norm,HV.toC,HV.ren,tG,aE6]
 ·
  simp only[sub]at e;by_cases h1:i<ids.length<;>by_cases h2:j<ids.length
  · rw[B6 h1,B6 h2]at e;have e1:=eR hn h1;have e2:=eR hn h2;grind
  · rw[B6 h1,A7 h2]at e;grind[List.getElem?_eq_getElem,List.getElem_mem]
  · rw[A7 h1,B6 h2]at e;grind[List.getElem?_eq_getElem,List.getElem_mem]
  grind
 · grind[HV.men,yT]
 ·
  simp only[lL,C8]at hj;obtain⟨x,hx,rfl⟩:=hj;have hjl:=(I2.1 hx).1;refine⟨by omega,by simp[HO.men,HV.men],by simp,.box x.1 (.c x.2),?_,?_⟩
  · rw[sub,B6 (by omega)];grind
  grind[HO.ren,HV.ren,bC5,List.mem_of_getElem?]
variable {xs:List (List CV)}
theorem aE7 {n k:Nat}{g:Operand}{ps:Array Tmp}{asg body:Code}(ids:List Nat)(frL:Fr)(inv:Nat→Ob)(nx2:Nat)(Φ:Nat→Prop)(h0:Φ 0)
  (hit:aL4 P gf bs xs) (hg:ev fr g= .clo gf (iZ ids)) (hl:ids.length=bs.length) (hnd:ids.Nodup)
  (ho: ∀j x,bs[j]? =some x→ob (ids.getD j 0)=some (.box x.1 (.c x.2))) (hfit:Fits k fr ob frL (inv 0) nx2) (hout: ∀id∈ids,inv 0 id=none)
  (hps: ∀x∈xs,x.length=ps.size) (hpn: ∀p∈ps.toList,p<n) (hnra:dY asg=true) (hnr:dY body=true)
  (hbody: ∀(i:Nat) (hi:i<xs.length),Φ i→ ∀(K:Fr→Ob→Nat→Prop),(∀fr' ob' nx',Hw P n nx2 body (aT4 Q frL (inv (i+1)) nx2 (Φ (i+1))) fr' ob' nx'→K fr' ob' nx')→Hw P n nx2 asg (hthen K fun _ _ _ _=>False) (yS frL ps.toList xs[i]) (inv i) nx2)
  (hend:Φ xs.length→Q .normal frL (inv xs.length) nx2):Hw P n k (.rangeFunc g ps asg body) Q fr ob nx:=by
 refine aL2 (σ:=ids) (lob:=lL bs) frL inv nx2 Φ h0 hit hg (by grind[yU]) hnd ?_ (fun j o hj=>?_) hfit hout hps hpn hnra hnr (fun i hi hΦ=>hbody i hi hΦ _ fun _ _ _ h=>h) hend
 · rw[tG,←hl,aE6]
 · simp only[lL,C8]at hj;obtain⟨x,hx,rfl⟩:=hj;exact ho j x hx
theorem aE8 {fn:Func}{code:Code}(hf:P.funcs[f]? =some fn)(hb:fn.body=some code)(hok:fQ P f=true)(hn:bs.length+1≤fn.ntmps)(hr:fn.results= #[])
  (h: ∀(l:Nat) (J:IterJ),J.Stab→
   (∀(i:Nat) (hi:i<xs.length) (w:World) (X B:Nat→Prop) (vs:List Value),J true i w X B→RepHV w (fun _=>none) (fun b=>X b∨B b) (xs[i].map .c) vs→YieldAt Fence.wide 0 P l vs.toArray w (tE J i w X B))→
   HwI P fn.ntmps J code (fun e _ _ _ g i=>(e= .normal∨e= .ret)∧(g=true→i=xs.length)) (sT 0 (.opq (.func (.yield l) #[] #[])::iZ (List.range bs.length))) (lL bs) bs.length true 0):aL4 P f bs xs:=
 bX8 hf hb hok (yU bs) (by simpa[iZ]using hn) hr h
end Go.Hl
