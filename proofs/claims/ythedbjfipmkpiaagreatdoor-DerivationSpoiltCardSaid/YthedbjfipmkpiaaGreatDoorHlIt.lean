/- HL, part It: loops dC3 functions: iterators with boxes of their own; the caller's rule. By an AI agent. -/
import Derived.RangeFuncIn
import Derived.RangeFuncRecord
import Derived.Test.YthedbjfipmkpiaaGreatDoorPl11
set_option linter.unusedSimpArgs false
set_option linter.unusedVariables false
set_option linter.defProp false
namespace Go.Hl
open Go
abbrev IterJ :=Bool→Nat→World→(Nat→Prop)→(Nat→Prop)→Prop
def uQ (J:IterJ)(i:Nat)(w:World)(X B:Nat→Prop)(e:Ending)(w':World):Prop:=
 ∃X',Stay2 w X w' X'∧(∀b,X' b→b<w'.heap.size)∧((e= .returned (.bool true)∧J true (i+1) w' X' B)∨(e= .returned (.bool false)∧J false i w' X' B))
def IterJ.Stab (J:IterJ):Prop:= ∀{g i w w' X B B'},J g i w X B→Stay2 w B w' B'→(∀b,B' b→b<w'.heap.size)→J g i w' X B'
def cG1 (P:Program)(gf:FuncId)(caps:List HV)(ob:Ob)(xs:List (List CV)):Prop:=
 fC P gf=true∧ ∀(l:Nat) (J:IterJ) (W:World) (ρ:Env) (X:Nat→Prop) (cs:List Value),RepS W ρ X ob→RepHV W ρ (Owned ρ X) caps cs→(∀b,X b→b<W.heap.size)→J.Stab→
  (∀(i:Nat) (hi:i<xs.length) (w:World) (X B:Nat→Prop) (vs:List Value),J true i w X B→RepHV w (fun _=>none) (fun b=>X b∨B b) (xs[i].map .c) vs→YieldAt Fence.wide 0 P l vs.toArray w (uQ J i w X B))→
  J true 0 W X (Own ρ)→
  CallsIn Fence.wide 0 P gf (#[.func (.yield l) #[] #[]]++cs.toArray) W fun e W'=>(∃v,e= .returned v)∧ ∃X' B',J true xs.length W' X' B'∨ ∃i,J false i W' X' B'
theorem Stay2.widen {w w':World}{A A' C C':Nat→Prop}(h:Stay2 w A w' A')(h1: ∀b,A b→C b)(h2: ∀b,C' b→C b∨A' b):Stay2 w C w' C':=
 ⟨fun b U hC=>h.block b U (fun hA=>hC (h1 b hA)),fun b U=>(h2 b U).elim .inl fun h3=>(h.own b h3).imp (h1 b) id,h.size,h.os,h.tape,h.output⟩
theorem Stay2.putObj (w:World)(l:Nat)(o:Obj):Stay2 w (· =l) (w.putObj l o) (· =l):=
 ⟨fun _ _ h=>World.putObj_heap_other h,fun _ h=> .inl h,by simp_all,rfl,rfl,rfl⟩
structure RepR (n:Nat)(M:Nat→Prop)(fr:Fr)(ob:Ob)(tm:Array Value)(w:World)(ρ:Env)(X:Nat→Prop):Prop where
 s:RepS w ρ X ob
 f: ∀t,fr t≠ .junk→RepV w ρ (Owned ρ X) (fr t) (tm.getD t undef)
 mf: ∀t,(fr t).men M
 mo: ∀id o,ob id=some o→M id∧o.men M
 size:tm.size=n
 xlt: ∀b,X b→b<w.heap.size
section
variable {n:Nat}{M:Nat→Prop}{fr:Fr}{ob:Ob}{tm:Array Value}{w w':World}{ρ:Env}{X X' B B':Nat→Prop}
theorem RepR.foreign (h:RepR n M fr ob tm w ρ X)(hs:Stay2 w B w' B')(hB: ∀b,B b→X b)(hX: ∀b,X' b→X b∨B' b)(ab: ∀b,B' b→b<w'.heap.size):RepR n M fr ob tm w' ρ X':=by
 have aa:Stay w (Owned ρ X) w' (Owned ρ X'):=⟨fun b hb hO=>⟨hs.block b hb.lt fun U=>hO (.inl (hB b U)),fun U=>by
  rcases U with U|U
  ·
   rcases hX b U with h2|h2
   · exact hO (.inl h2)
   ·
    rcases hs.own b h2 with h3|h3
    · exact hO (.inl (hB b h3))
    · exact absurd hb.lt (BZ.2 h3)
  · exact hO (.inr U)⟩⟩
 refine⟨⟨fun id o ho=>RepO.stay aa (Moves.refl M ρ) (h.mo id o ho).2 rfl (fun L b U h2=>hs.block b (Owned.lt h.s U h2) fun h3=>h.s.xb id L b U h2 (hB b h3)) (h.s.objs id o ho),h.s.none,h.s.apart,fun id L b U h2 h3=>?_⟩,
  fun t ht=>⟨RepH.stay aa (Moves.refl M ρ) (h.mf t) (h.f t ht).1,(h.f t ht).2⟩,h.mf,h.mo,h.size,fun b hb=>?_⟩
 ·
  rcases hX b h3 with h4|h4
  · exact h.s.xb id L b U h2 h4
  ·
   rcases hs.own b h4 with h5|h5
   · exact h.s.xb id L b U h2 (hB b h5)
   · exact absurd (Owned.lt h.s U h2) (BZ.2 h5)
 ·
  rcases hX b hb with h4|h4
  · exact I0 (h.xlt b h4) hs.size
  grind
end
def aC9 (fr:Fr):List Tmp→List CV→Fr
 |p::ps,v::vs=>aC9 (upd fr p (.c v)) ps vs
 |_,_=>fr
def aZ7 (tm:Array Value):List Tmp→List Value→Array Value
 |p::ps,v::vs=>aZ7 (tm.setIfInBounds p v) ps vs
 |_,_=>tm
theorem cT3 (ps:Array Tmp)(U:List Value)(tm:Array Value):(ps.zip U.toArray).foldl (fun tmps (t,a)=>tmps.setIfInBounds t a) tm=aZ7 tm ps.toList U:=by
 rw[←Array.foldl_toList,Array.toList_zip,BP];generalize ps.toList=l;induction l generalizing tm U with
 |nil=>cases U<;>rfl
 |cons p l ih=>cases U with
  |nil=>rfl
  |cons v U=>grind[List.zip_cons_cons,aZ7]
theorem bW1 (ps:List Tmp)(U:List Value)(tm:Array Value):(aZ7 tm ps U).size=tm.size:=by
 induction ps generalizing tm U with
 |nil=>cases U<;>rfl
 |cons p l ih=>cases U with
  |nil=>rfl
  |cons v U=>grind[aZ7]
theorem aZ8 {w:World}{ρ ρ0:Env}{O:Nat→Prop}: ∀{ps:List Tmp} {vs:List CV} {ys:List Value} {fr:Fr} {tm:Array Value},RepHV w ρ0 O (vs.map .c) ys→(∀p∈ps,p<tm.size)→
  (∀t,fr t≠ .junk→RepV w ρ O (fr t) (tm.getD t undef))→ ∀t,aC9 fr ps vs t≠ .junk→RepV w ρ O (aC9 fr ps vs t) ((aZ7 tm ps ys).getD t undef)
 |[],vs,ys,fr,tm,_,_,h,t,U=>by
  cases vs<;>cases ys<;>exact h t U
 |p::ps,[],ys,fr,tm,hy,_,h,t,U=>by
  simp only[F2,RepHV]at hy;subst hy;exact h t U
 |p::ps,v::vs,ys,fr,tm,hy,hp,h,t,U=>by
  simp only[B8,bJ]at hy;obtain⟨y,ys,rfl,h1,h2⟩:=hy;simp only[aC9,aZ7]at U⊢;refine aZ8 h2 (fun q hq=>by grind) (fun t U=>?_) t U;by_cases e:t=p
  · simp_all[aR,undef,H9,Array.getD,RepV,RepH]
  ·
   rw[bE _ _ e]at U⊢;have:(tm.setIfInBounds p y).getD t undef=tm.getD t undef:=by
    simp only[K8];grind
   grind
theorem aZ9 {M:Nat→Prop}: ∀{ps:List Tmp} {U:List CV} {fr:Fr},(∀t,(fr t).men M)→ ∀t,(aC9 fr ps U t).men M
 |[],U,fr,h,t=>by cases U<;>exact h t
 |p::ps,[],fr,h,t=>h t
 |p::ps,v::U,fr,h,t=>by
  simp only[aC9];refine aZ9 (fun t=>?_) t;grind[aR,HV.men,bE]
def bA0 (Q:eI)(frL:Fr)(ob2:Ob)(nx2:Nat)(φ:Prop):eI:=fun e fr' ob' nx'=>
 match e with
 | .normal=>Fits nx2 fr' ob' (fun _=> .junk) ob2 nx2∧φ
 | .exit id=>Q (.exit id) frL ob' nx'
 | .ret=>Q .ret frL ob' nx'
 |_=>False
section
variable {P:Program}{n k:Nat}{Q:eI}{fr:Fr}{ob:Ob}{nx:Nat}
theorem bW2 {c:Ctx}(h:c.R=none):c.F=Fence.wide:=by
 unfold Ctx.F;rw[h];rfl
theorem bA1 {P:Program}{gf:FuncId}(U:fC P gf=true)(args:Array Value)(w:World):(callFunc gf args).run P w= .ok (.enter gf args) w:=by
 unfold fC at U;cases aa:P.funcs[gf]? with
 |none=>grind
 |some fn=>
  rw[aa]at U;simp only[B3,N1]at U;have hb:fn.body≠none:=by intro e;rw[e]at U;simp at U
  simp_all[callFunc]
theorem aS6 {g:Operand}{ps:Array Tmp}{bk body:Code}{gf:FuncId}{caps au:List HV}{σ:List Nat}{lob:Ob}{xs:List (List CV)}(frL:Fr)(inv:Nat→Ob)(nx2:Nat)(Φ:Nat→Prop)(h0:Φ 0)
  (hit:cG1 P gf au lob xs) (hg:ev fr g= .clo gf caps) (ar:LocOk σ.length au lob) (dw:σ.Nodup) (cg:caps=HV.renL (sub σ nx) au)
  (bt: ∀j o,lob j=some o→ob (σ.getD j 0)=some (o.ren (sub σ nx))) (ai:Fits k fr ob frL (inv 0) nx2) (ds: ∀id∈σ,inv 0 id=none)
  (ey: ∀x∈xs,x.length=ps.size) (ew: ∀p∈ps.toList,p<n) (dd:eA bk=true) (ez:eA body=true)
  (ct: ∀(i:Nat) (hi:i<xs.length),Φ i→Hw P n nx2 bk (hthen (fun fr' ob' ay=>Hw P n nx2 body (bA0 Q frL (inv (i+1)) nx2 (Φ (i+1))) fr' ob' ay) fun _ _ _ _=>False) (aC9 frL ps.toList xs[i]) (inv i) nx2)
  (bh:Φ xs.length→Q .normal frL (inv xs.length) nx2):Hw P n k (.rangeFunc g ps bk body) Q fr ob nx:=by
 intro c a w hn hk hz hA;obtain⟨dr,hR⟩:c.may=true∧c.R=none:=hz.elim id fun h=>by simp[eA]at h
 rw[bW2 hR];obtain⟨ρ,h⟩:=hA;obtain⟨ei,dt⟩:=hit;have cu:=dO (h.ev g (by rw[hg];simp)) (by rw[hg];rfl);rw[hg]at cu;simp only[RepH,F8,J9]at cu;obtain⟨⟨cs,et,da⟩,_⟩:=cu;have fa: ∀j,j<σ.length→ ∃o,lob j=some o∧ob (σ.getD j 0)=some (o.ren (sub σ nx)):=fun j hj=>by
  obtain⟨o,ho⟩:=ar.all j hj;exact⟨o,ho,bt j o ho⟩
 have fb: ∀id,id∈σ→ ∃j,j<σ.length∧σ.getD j 0=id:=fun id hid=>by
  obtain⟨j,hj,e⟩:=X5.1 hid;exact⟨j,hj,by rw[B4,A9 hj];exact e⟩
 have ec: ∀j,j<σ.length→σ.getD j 0∈σ:=fun j hj=>by
  rw[B4,A9 hj];exact B5 hj
 have bb: ∀j,j<σ.length→sub σ nx j=σ.getD j 0:=fun j hj=>B1 hj;obtain⟨ρi,ck⟩: ∃ρi:Env,ρi=fun j=>if j<σ.length then ρ (σ.getD j 0)else none:=⟨_,rfl⟩
 have bq: ∀j,j<σ.length→ρi j=ρ (σ.getD j 0):=fun j hj=>by rw[ck];exact B1 hj
 have aq: ∀j L,ρi j=some L→j<σ.length∧ρ (σ.getD j 0)=some L:=fun j L hL=>by
  rw[ck]at hL;simp only at hL;split at hL
  · rename_i hj;exact⟨hj,hL⟩
  · cases hL
 obtain⟨ρ1,cn⟩: ∃ρ1:Env,ρ1=fun id=>match inv 0 id with|some _=>ρ id|none=>none:=⟨_,rfl⟩
 have ah: ∀id L,ρ1 id=some L→ρ id=some L∧id∉σ:=fun id L hL=>by
  rw[cn]at hL;simp only at hL;split at hL
  · rename_i o ho;exact⟨hL,fun hid=>by rw[ds id hid]at ho;cases ho⟩
  · cases hL
 obtain⟨rec,ab⟩: ∃rec:FuncId→LoopState→Option Code→Loop,rec=fun fn st pe=>{state:=st,pending:=pe,fn,tmps:=a.tmps,params:=ps,assign:=bk,body,defers:=w.heap.size}:=⟨_,rfl⟩;obtain⟨D,hD⟩: ∃D,D=w.heap.size:=⟨_,rfl⟩;obtain⟨l,hl⟩: ∃l,l=w.heap.size+1:=⟨_,rfl⟩;refine wpIn_rangeFunc fun fn _=>?_;obtain⟨W1,az⟩: ∃W1,(w.alloc (.deferred (some []))).alloc (.loop (rec fn .ready none))=W1:=⟨_,rfl⟩;have fe:W1.heap.size=w.heap.size+2:=by rw[←az];simp[AK]
 have eg:W1.heap[l]? =some (.loop (rec fn .ready none)):=by
  rw[←az,hl];have:=World.alloc_heap_new (w.alloc (.deferred (some []))) (.loop (rec fn .ready none));rwa [AK]at this
 have ee:W1.heap[D]? =some (.deferred (some [])):=by
  rw[←az,hD];exact(Q8 _ _ _ (by simp)).trans (World.alloc_heap_new w _)
 have bj: ∀b,b<w.heap.size→W1.heap[b]? =w.heap[b]? :=fun b U=>by
  rw[←az,Q8 _ _ _ (by rw[AK];omega),Q8 _ _ _ U]
 refine⟨l,[{target:= .collected D,args:= #[]}],W1,{target:= .fn (.func gf) cs.toArray,args:= #[.func (.yield l) #[] #[]]},W1,gf, #[.func (.yield l) #[] #[]]++cs.toArray,W1,?_,?_,fun _ _=>trivial,?_,fun h=>(by cases h),?_⟩
 · rw[←az,ab,hl,hD];exact run_enterLoop_outer _ _ _ _ _
 · simp only[resolve,et];simp[go_sem]
 · simp[invoke,go_sem,bA1 ei]
 obtain⟨Xi,ad⟩: ∃Xi:Env→Nat→Prop,Xi=fun ρ1 b=>Own ρ1 b∨c.X b∨b=l∨b=D:=⟨_,rfl⟩;obtain⟨Xc,ae⟩: ∃Xc:(Nat→Prop)→Nat→Prop,Xc=fun B b=>c.X b∨B b∨b=l∨b=D:=⟨_,rfl⟩;have dy: ∀b,c.X b→b<w.heap.size:=fun b U=>I0 (h.xlt b U) h.base.size;have dq:Stay2 w (Own ρ) W1 (fun b=>Own ρ b∨b=l∨b=D):=
  ⟨fun b U _=>bj b U,fun b U=>U.imp id fun h=>by omega,by omega,by rw[←az];rfl,by rw[←az];rfl,by rw[←az];rfl⟩
 let J:IterJ:=fun go i W X B=> ∃(ρ1:Env) (an:Ob) (ak:Nat) (st:LoopState) (jump:Option Code),
  (∀b,X b↔Xi ρ1 b)∧RepR n (· <ak) frL an a.tmps W ρ1 (Xc B)∧nx2≤ak∧Stay2 w (Own ρ) W (fun b=>Own ρ1 b∨B b∨b=l∨b=D)∧Moves (· <nx2) ρ ρ1∧
  W.heap[l]? =some (.loop (rec fn st jump))∧W.heap[D]? =some (.deferred (some []))∧(∀b,B b→ ¬c.X b∧b≠l∧b≠D)∧
  (go=true→i≤xs.length∧an=inv i∧nx2=ak∧st= .ready∧jump=none∧Φ i)∧(go=false→st= .done∧((jump=some .ret∧Q .ret frL an ak)∨ ∃id,jump=some (.exit id)∧Q (.exit id) frL an ak))
 have aw: ∀t,(frL t).men (· <nx2):=ai.mf;have ag: ∀b,Own ρ1 b→Own ρ b∧ ¬Own ρi b:=fun b ⟨id,L,h1,h2⟩=>⟨⟨id,L,(ah id L h1).1,h2⟩,fun⟨j,L',h3,h4⟩=>by
  obtain⟨h5,h6⟩:=aq j L' h3;have:=h.s.apart _ _ L L' b (ah id L h1).1 h6 h2 h4;exact(ah id L h1).2 (this▸ec j h5)⟩
 have af: ∀b,Own ρi b→Own ρ b:=fun b ⟨j,L,h1,h2⟩=>⟨_,L,(aq j L h1).2,h2⟩;have aj: ∀b,Own ρ b→b<w.heap.size:=fun b ⟨id,L,h1,h2⟩=>Owned.lt h.s h1 h2;have br:Stay w (Owned ρ c.X) W1 (Owned ρi (Xi ρ1)):=⟨fun b U hO=>⟨bj b U.lt,fun h'=>by
  rw[ad]at h';have:=U.lt;rcases h' with(h'|h'|h'|h')|h'
  · exact hO (.inr (ag b h').1)
  · exact hO (.inl h')
  · omega
  · omega
  · exact hO (.inr (af b h'))⟩⟩
 have bu:Stay w (Owned ρ c.X) W1 (Owned ρ1 (Xc (Own ρi))):=⟨fun b U hO=>⟨bj b U.lt,fun h'=>by
  rw[ae]at h';have:=U.lt;rcases h' with(h'|h'|h'|h')|h'
  · exact hO (.inl h')
  · exact hO (.inr (af b h'))
  · omega
  · omega
  · exact hO (.inr (ag b h').1)⟩⟩
 have bz:Moves (· <σ.length) (fun i=>ρ (sub σ nx i)) ρi:=Moves.of_eq (fun i hi=>by rw[bq i hi,bb i hi]);have cz:RepS W1 ρi (Xi ρ1) lob:=by
  refine⟨fun j o ho=>?_,fun j hj=>?_,fun j j' L L' b h1 h2 h3 h4=>?_,fun j L b h1 h2 h3=>?_⟩
  · have hj:=(ar.none j o ho).1;have:=h.s.objs _ _ (bt j o ho);rw[←bb j hj]at this;have h0:RepO W1 ρ (Owned ρi (Xi ρ1)) (sub σ nx j) (o.ren (sub σ nx)):=RepO.stay (M:=fun _=>True) br (Moves.refl _ _) (HO.men_ren.2 (HO.men_mono (fun _ _=>trivial) (ar.none j o ho).2)) rfl (fun L b h1 h2=>bj b (Owned.lt h.s h1 h2)) this;exact RepO.sub (w:=W1) (Stay.same (fun b _ U=>U)) bz (ar.none j o ho).2 (by rw[bq j hj,bb j hj]) h0
  ·
   by_cases dm:j<σ.length
   · obtain⟨o,ho⟩:=ar.all j dm;rw[ho]at hj;cases hj
   · rw[ck];exact A7 dm
  · obtain⟨e1,e2⟩:=aq j L h1;obtain⟨e3,e4⟩:=aq j' L' h2;have:=h.s.apart _ _ L L' b e2 e4 h3 h4;have f1:=eP dw e1;have f2:=eP dw e3;rw[this]at f1;rw[f1]at f2;cases f2;rfl
  ·
   obtain⟨e1,e2⟩:=aq j L h1;have cj:=Owned.lt h.s e2 h2;rw[ad]at h3;rcases h3 with h3|h3|h3|h3
   · exact(ag b h3).2 ⟨j,L,h1,h2⟩
   · exact h.s.xb _ L b e2 h2 h3
   · omega
   · omega
 have cq:RepHV W1 ρi (Owned ρi (Xi ρ1)) au cs:=by
  rw[cg]at da;have h0:=nP.1 da;exact RepHV.stay (w:=w) (O:=Owned ρ c.X) br bz ar.args h0
 have cb: ∀b,Xi ρ1 b→b<W1.heap.size:=fun b U=>by
  rw[ad]at U;rcases U with U|U|U|U
  · have:=aj b (ag b U).1;omega
  · have:=dy b U;omega
  · omega
  · omega
 have bg: ∀M,Moves M ρ ρ1:=fun M id L _ hL=>⟨L,(ah id L hL).1,.inl rfl⟩;have ej:RepR n (· <nx2) frL (inv 0) a.tmps W1 ρ1 (Xc (Own ρi)):=by
  refine⟨⟨fun id o ho=>?_,fun id hid=>?_,fun id id' L L' b h1 h2 h3 h4=>h.s.apart id id' L L' b (ah _ _ h1).1 (ah _ _ h2).1 h3 h4,fun id L b h1 h2 h3=>?_⟩,fun t ht=>?_,ai.mf,ai.mo,by rw[h.size,hn],fun b U=>?_⟩
  ·
   have hid:ρ1 id=ρ id:=by rw[cn];simp only[ho]
   exact RepO.stay bu (bg (fun _=>True)) (HO.men_mono (fun _ _=>trivial) (ai.mo id o ho).2) hid (fun L b h1 h2=>bj b (Owned.lt h.s h1 h2)) (h.s.objs id o (ai.o id o ho))
  · rw[cn];simp only[hid]
  ·
   have cj:=Owned.lt h.s (ah id L h1).1 h2;rw[ae]at h3;rcases h3 with h3|h3|h3|h3
   · exact h.s.xb _ L b (ah id L h1).1 h2 h3
   · exact(ag b ⟨id,L,h1,h2⟩).2 h3
   · omega
   · omega
  ·
   rcases ai.f t with e|e
   · exact absurd e ht
   · rw[e]at ht⊢;exact⟨RepH.stay bu (bg _) (h.mf t) (h.f t ht).1,(h.f t ht).2⟩
  ·
   rw[ae]at U;rcases U with U|U|U|U
   · have:=dy b U;omega
   · have:=aj b (af b U);omega
   · omega
   · omega
 have ef:J true 0 W1 (Xi ρ1) (Own ρi):=⟨ρ1,inv 0,nx2,.ready,none,fun _=>Y5,ej,E3 _,
  dq.trans ⟨fun _ _ _=>rfl,fun b U=>U.elim (fun h=> .inl (.inl (ag b h).1)) fun h=>h.elim (fun h=> .inl (.inl (af b h))) fun h=> .inl (.inr h),E3 _,rfl,rfl,rfl⟩,
  bg _,eg,ee,fun b U=>⟨fun hx=>by obtain⟨j,L,h1,h2⟩:=U;exact h.s.xb _ L b (aq j L h1).2 h2 hx,by have:=aj b (af b U);omega,by have:=aj b (af b U);omega⟩,fun _=>⟨I1 _,rfl,rfl,rfl,rfl,h0⟩,fun h=>by cases h⟩
 have cd:J.Stab:=by
  rintro go i W W' X B B' ⟨ρ1,an,ak,st,jump,j1,j2,j3,j4,j5,j6,j7,j8,j9,bm⟩ hs cj;have bp:l<W.heap.size:=(G1.1 j6).1;have cr:D<W.heap.size:=(G1.1 j7).1;refine⟨ρ1,an,ak,st,jump,j1,j2.foreign hs (fun b U=>by rw[ae];exact .inr (.inl U)) (fun b U=>?_) cj,j3,j4.trans (hs.widen (fun b U=> .inr (.inl U)) (fun b U=>?_)),j5,?_,?_,fun b U=>?_,j9,bm⟩
  ·
   rw[ae]at U⊢;rcases U with U|U|U
   · exact .inl (.inl U)
   · exact .inr U
   · exact .inl (.inr (.inr U))
  ·
   rcases U with U|U|U
   · exact .inl (.inl U)
   · exact .inr U
   · exact .inl (.inr (.inr U))
  · rw[hs.block l bp (fun U=>(j8 l U).2.1 rfl)];exact j6
  · rw[hs.block D cr (fun U=>(j8 D U).2.2 rfl)];exact j7
  ·
   rcases hs.own b U with h1|h1
   · exact j8 b h1
   · refine⟨fun hx=>?_,by omega,by omega⟩;have:=j2.xlt b (by rw[ae];exact .inl hx);omega
 refine(dt l J W1 ρi (Xi ρ1) cs cz cq cb cd ?_ ef).mono ?_
 ·
  rintro i hi W X B vs ⟨ρ2,an,ak,st,jump,j1,j2,j3,j4,j5,j6,j7,j8,j9,_⟩ dx;obtain⟨_,rfl,rfl,rfl,rfl,hΦ⟩:=j9 rfl;have bp:l<W.heap.size:=(G1.1 j6).1;have cr:D<W.heap.size:=(G1.1 j7).1;have hlen:vs.length=ps.size:=by
   rw[←ey xs[i] (B5 hi)];have: ∀{l:List CV} {ys:List Value} {ρ:Env} {O:Nat→Prop},RepHV W ρ O (l.map .c) ys→ys.length=l.length:=by
    intro l;induction l with
    |nil=>intro ys ρ O h;simp only[F2,RepHV]at h;simp[h]
    |cons x l ih=>intro ys ρ O h;simp only[B8,bJ]at h;obtain⟨y,ys,rfl,_,h2⟩:=h;simp[ih h2]
   exact this dx
  have hy:=run_yield (P:=P) (args:=vs.toArray) j6 (by rw[ab];simpa using hlen);rw[ab]at hy
  let c1:Ctx:={w0:=W,ρ0:=ρ2,X:=Xc B,M0:=(· <nx2),n:=n,R:=some l,may:=false}
  have bf:Xc B l:=by rw[ae];exact .inr (.inr (.inl rfl))
  have df:Xc B D:=by rw[ae];exact .inr (.inr (.inr rfl))
  have cx:RepHV W (fun _=>none) (Owned ρ2 (Xc B)) (xs[i].map .c) vs:=by
   refine RepHV.stay (M:=fun _=>False) (w:=W) (O:=fun b=>X b∨B b) ⟨fun b U hO=>⟨rfl,fun h'=>?_⟩⟩ (Moves.refl _ _) HV.menL_c dx;rcases h' with h'|h'
   ·
    rw[ae]at h';rcases h' with h'|h'|h'|h'
    · exact hO (.inl ((j1 b).2 (by rw[ad];exact .inr (.inl h'))))
    · exact hO (.inr h')
    · exact hO (.inl ((j1 b).2 (by rw[ad];exact .inr (.inr (.inl h')))))
    · exact hO (.inl ((j1 b).2 (by rw[ad];exact .inr (.inr (.inr h')))))
   · exact hO (.inl ((j1 b).2 (by rw[ad];exact .inl h')))
  have en:RepA c1 (· <nx2) (aC9 frL ps.toList xs[i]) (inv i) {tmps:=aZ7 a.tmps ps.toList vs,defers:=[]} W:=
   ⟨ρ2,j2.s,aZ8 cx (fun p hp=>by rw[j2.size];exact ew p hp) j2.f,aZ9 j2.mf,j2.mo,fun _ h=>h,Stay2.refl _ _,Moves.refl _ _,DefOk.nil _ _ _,by rw[bW1];exact j2.size,j2.xlt⟩
  have ha:=ct i hi hΦ c1 _ W rfl rfl (.inr dd) en;have hF:c1.F=Fence.wide.inRound l:=rfl;rw[hF]at ha;refine⟨fn,_,bk,body,hy,roundIn_of_wpIn trivial ?_⟩;rw[cT3];refine R3 ha ?_;rintro e aA WA ⟨db,bn,ax,bc,ρA,aa⟩;cases e with
  |exit _=>exact bc.elim
  |goto _=>exact bc.elim
  |ret=>exact bc.elim
  |panic _=>exact bc.elim
  |outgrown=>exact bc.elim
  |normal=>
  have ca: ∀b,Xc B b→ ¬Own ρ2 b:=fun b hx ⟨id,L,e1,e2⟩=>j2.s.xb id L b e1 e2 hx;have di:WA.heap[l]? =some (.loop (rec fn .ready none)):=(aa.base.block l bp (ca l bf)).trans j6;have eh:WA.heap[D]? =some (.deferred (some [])):=(aa.base.block D cr (ca D df)).trans j7;have dz:l<WA.heap.size:=(G1.1 di).1;have el:nx2≤ax:=by
   rcases H4 ax nx2 with h'|h'
   · have:ax<ax:=aa.m0 ax h';omega
   · exact h'
  refine⟨_,run_beginRound di (by rw[ab]),?_⟩;obtain⟨W2,bd⟩: ∃W2,WA.putObj l (.loop {rec fn .ready none with state:= .busy})=W2:=⟨_,rfl⟩;rw[bd];have bo:Stay2 WA (· =l) W2 (· =l):=by rw[←bd];exact Stay2.putObj _ _ _
  have eu:W2.heap[l]? =some (.loop {rec fn .ready none with state:= .busy}):=by rw[←bd];exact World.putObj_heap_same dz
  have ed:W2.heap[D]? =some (.deferred (some [])):=by rw[←bd];exact(World.putObj_heap_other (by omega)).trans eh
  have fc:W2.heap.size=WA.heap.size:=by rw[←bd];exact World.putObj_size
  have dj:Stay W (Owned ρ2 (Xc B)) WA (Owned ρA (Xc B)):=aa.base.stay _;have kA:RepR n (· <ax) frL bn a.tmps WA ρA (Xc B):=⟨aa.s,fun t ht=>⟨RepH.stay dj aa.moves (aw t) (j2.f t ht).1,(j2.f t ht).2⟩,fun t=>HV.men_mono (fun i hi=>I0 hi el) (aw t),aa.mo,j2.size,fun b U=>I0 (j2.xlt b U) aa.base.size⟩;have k2:RepR n (· <ax) frL bn a.tmps W2 ρA (Xc B):=kA.foreign bo (fun b U=>U▸bf) (fun b U=> .inl U) (fun b U=>by omega);have kB:RepR n (· <ax) db bn aA.tmps W2 ρA (Xc B):=RepR.foreign (w:=WA) ⟨aa.s,aa.f,aa.mf,aa.mo,aa.size,kA.xlt⟩ bo (fun b U=>U▸bf) (fun b U=> .inl U) (fun b U=>by omega)
  let c2:Ctx:={w0:=W2,ρ0:=ρA,X:=Xc B,M0:=(· <nx2),n:=n,R:=some l,may:=false}
  have eb:RepA c2 (· <ax) db bn aA W2:=⟨ρA,kB.s,kB.f,kB.mf,kB.mo,aa.m0,Stay2.refl _ _,Moves.refl _ _,by rw[aa.defers.2 rfl];exact DefOk.nil _ _ _,kB.size,kB.xlt⟩;have U:=bc c2 aA W2 rfl rfl (.inr ez) eb;have hF:c2.F=Fence.wide.inRound l:=rfl;rw[hF]at U;have du:Stay2 W (Xi ρ2) W2 (Xi ρA):=(Stay2.widen (C:=Xi ρ2) (C':=Xi ρA) aa.base (fun b U=>by rw[ad];exact .inl U) (fun b U=>by
    rw[ad]at U⊢;rcases U with U|U
    · exact .inr U
    · exact .inl (.inr U))).trans (bo.widen (fun b U=>by rw[ad];exact .inr (.inr (.inl U))) (fun b U=> .inl U))
  have cy:Stay2 W (fun b=>Own ρ2 b∨B b∨b=l∨b=D) W2 (fun b=>Own ρA b∨B b∨b=l∨b=D):=(Stay2.widen (C:=fun b=>Own ρ2 b∨B b∨b=l∨b=D) (C':=fun b=>Own ρA b∨B b∨b=l∨b=D) aa.base (fun b U=> .inl U) (fun b U=>by
    rcases U with U|U
    · exact .inr U
    · exact .inl (.inr U))).trans (bo.widen (fun b U=> .inr (.inr (.inl U))) (fun b U=> .inl U))
  refine R3 U ?_;rintro e a3 W3 ⟨fr',ob',ay,hq,cf⟩;have fin: ∀(jump:Option Code) (ρ3:Env) (bl:Ob) (ao:Nat) (dv:Fr) (a3:Act),RepA' c2 (· <ao) dv bl a3 W3 ρ3→
    ∃w',(Instr.endRound l jump).run P W3= .ok (.bool jump.isNone) w'∧Stay2 W (Xi ρ2) w' (Xi ρ3)∧(∀b,Xi ρ3 b→b<w'.heap.size)∧RepR n (· <ao) frL bl a.tmps w' ρ3 (Xc B)∧nx2≤ao∧Stay2 w (Own ρ) w' (fun b=>Own ρ3 b∨B b∨b=l∨b=D)∧
     Moves (· <nx2) ρ ρ3∧w'.heap[l]? =some (.loop (rec fn (if jump.isNone then .ready else .done) jump))∧w'.heap[D]? =some (.deferred (some [])):=by
   intro jump ρ3 bl ao dv a3 h3;have dp: ∀b,Xc B b→ ¬Own ρA b:=fun b hx ⟨id,L,e1,e2⟩=>k2.s.xb id L b e1 e2 hx;have dh:W3.heap[l]? =some (.loop {rec fn .ready none with state:= .busy}):=(h3.base.block l (by show l<W2.heap.size;omega) (dp l bf)).trans eu;have ep:W3.heap[D]? =some (.deferred (some [])):=(h3.base.block D (by show D<W2.heap.size;omega) (dp D df)).trans ed;have ea:l<W3.heap.size:=(G1.1 dh).1;have bh:=run_endRound (P:=P) jump dh;have dc:nx2≤ao:=by
    rcases H4 ao nx2 with h'|h'
    · have:ao<ao:=h3.m0 ao h';omega
    · exact h'
   have eo:Stay W2 (Owned ρA (Xc B)) W3 (Owned ρ3 (Xc B)):=h3.base.stay _;have k3:RepR n (· <ao) frL bl a.tmps W3 ρ3 (Xc B):=⟨h3.s,fun t ht=>⟨RepH.stay eo h3.moves (aw t) (k2.f t ht).1,(k2.f t ht).2⟩,fun t=>HV.men_mono (fun i hi=>I0 hi dc) (aw t),h3.mo,k2.size,fun b U=>I0 (k2.xlt b U) h3.base.size⟩;refine⟨_,bh,?_,?_,k3.foreign (Stay2.putObj _ _ _) (fun b U=>U▸bf) (fun b U=> .inl U) (fun b U=>by rw[World.putObj_size];omega),dc,?_,Moves.trans (fun _ h=>h) (Moves.trans (fun _ h=>h) j5 aa.moves) h3.moves,?_,?_⟩
   ·
    have e2:Stay2 W2 (Xi ρA) W3 (Xi ρ3):=Stay2.widen h3.base (fun b U=>by rw[ad];exact .inl U) (fun b U=>by
     rw[ad]at U⊢;rcases U with U|U
     · exact .inr U
     · exact .inl (.inr U))
    exact du.trans (e2.trans (Stay2.widen (Stay2.putObj _ _ _) (fun b U=>by rw[ad];exact .inr (.inr (.inl U))) (fun b U=> .inl U)))
   ·
    intro b U;rw[World.putObj_size];rw[ad]at U;rcases U with⟨id,L,e1,e2⟩|U|U|U
    · exact Owned.lt h3.s e1 e2
    · exact k3.xlt b (by rw[ae];exact .inl U)
    · omega
    · exact k3.xlt b (by rw[ae];exact .inr (.inr (.inr U)))
   ·
    have e2:Stay2 W2 (fun b=>Own ρA b∨B b∨b=l∨b=D) W3 (fun b=>Own ρ3 b∨B b∨b=l∨b=D):=Stay2.widen h3.base (fun b U=> .inl U) (fun b U=>by
     rcases U with U|U
     · exact .inr U
     · exact .inl (.inr U))
    exact j4.trans (cy.trans (e2.trans (Stay2.widen (Stay2.putObj _ _ _) (fun b U=> .inr (.inr (.inl U))) (fun b U=> .inl U))))
   · rw[World.putObj_heap_same ea];rw[ab]
   · exact(World.putObj_heap_other (by omega)).trans ep
  have cm: ∀{w':World} {X':Nat→Prop},Stay2 W (Xi ρ2) w' X'→Stay2 W X w' X':=fun hs=>⟨fun b U hx=>hs.block b U fun h'=>hx ((j1 b).2 h'),fun b U=>(hs.own b U).imp (fun h'=>(j1 b).2 h') id,hs.size,hs.os,hs.tape,hs.output⟩;cases e with
  |normal=>
   obtain⟨ρ3,h3⟩:=cf.fits (k:=nx2) rfl hq.1;obtain⟨w',r1,r2,r3,r4,r5,r6,r7,r8,r9⟩:=fin none ρ3 _ nx2 _ a3 h3;exact⟨_,w',r1,Xi ρ3,cm r2,r3,.inl ⟨rfl,ρ3,inv (i+1),nx2,.ready,none,fun _=>Y5,r4,r5,r6,r7,r8,r9,j8,fun _=>⟨hi,rfl,rfl,rfl,rfl,hq.2⟩,fun h=>by cases h⟩⟩
  |ret=>
   obtain⟨ρ3,h3⟩:=cf;obtain⟨w',r1,r2,r3,r4,r5,r6,r7,r8,r9⟩:=fin (some .ret) ρ3 _ ay _ a3 h3;exact⟨_,w',r1,Xi ρ3,cm r2,r3,.inr ⟨rfl,ρ3,ob',ay,.done,some .ret,fun _=>Y5,r4,r5,r6,r7,r8,r9,j8,fun h=>(by cases h),fun _=>⟨rfl,.inl ⟨rfl,hq⟩⟩⟩⟩
  |exit id=>
   obtain⟨ρ3,h3⟩:=cf;obtain⟨w',r1,r2,r3,r4,r5,r6,r7,r8,r9⟩:=fin (some (.exit id)) ρ3 _ ay _ a3 h3;exact⟨_,w',r1,Xi ρ3,cm r2,r3,.inr ⟨rfl,ρ3,ob',ay,.done,some (.exit id),fun _=>Y5,r4,r5,r6,r7,r8,r9,j8,fun h=>(by cases h),fun _=>⟨rfl,.inr ⟨id,rfl,hq⟩⟩⟩⟩
  |goto t=>exact hq.elim
  |panic ch=>exact hq.elim
  |outgrown=>exact hq.elim
 ·
  rintro e W2 ⟨⟨v,rfl⟩,X',B,hJ⟩;have key: ∀go i,J go i W2 X' B→rangePost Fence.wide 0 P l (fun e a' w'=> ∃fr' ob' ay,Q e fr' ob' ay∧RepA c (· <ay) fr' ob' a' w') {a with defers:=[{target:= .collected D,args:= #[]}]++a.defers} (.returned v) W2∨(go=true∧i≠xs.length):=by
   rintro go i ⟨ρ3,an,ak,st,jump,j1,j2,j3,j4,j5,j6,j7,j8,j9,bm⟩;have bp:l<W2.heap.size:=(G1.1 j6).1;have er:(rec fn st jump).state≠ .busy:=by
    rw[ab];cases go with
    |true=>obtain⟨_,_,_,rfl,_⟩:=j9 rfl;simp
    |false=>obtain⟨rfl,_⟩:=bm rfl;simp
   have ba:=run_endLoop (P:=P) j6 er;have k3:RepR n (· <ak) frL an a.tmps (W2.putObj l (.loop {rec fn st jump with state:= .exhausted})) ρ3 (Xc B):=j2.foreign (Stay2.putObj _ _ _) (fun b U=>by rw[ae];exact .inr (.inr (.inl U))) (fun b U=> .inl U) (fun b U=>by rw[World.putObj_size];omega);obtain⟨W4,cp⟩: ∃W4,W2.putObj l (.loop {rec fn st jump with state:= .exhausted})=W4:=⟨_,rfl⟩;rw[cp]at ba k3;have de:Stay2 w (Own ρ) W4 (Own ρ3):=by
    rw[←cp];have e1:=j4.trans (Stay2.widen (C:=fun b=>Own ρ3 b∨B b∨b=l∨b=D) (C':=fun b=>Own ρ3 b∨B b∨b=l∨b=D) (Stay2.putObj W2 l (.loop {rec fn st jump with state:= .exhausted})) (fun b U=> .inr (.inr (.inl U))) (fun b U=> .inl U));exact⟨e1.block,fun b U=>e1.own b (.inl U),e1.size,e1.os,e1.tape,e1.output⟩
   have ek:W4.heap[D]? =some (.deferred (some [])):=by rw[←cp];exact(World.putObj_heap_other (by omega)).trans j7
   have bx:Stay W4 (Owned ρ3 (Xc B)) W4 (Owned ρ3 c.X):=Stay.same fun b _ U=>U.imp (fun h'=>by rw[ae];exact .inl h') id;have dk:DefOk c.may c.w0.heap.size W4 ([{target:= .collected D,args:= #[]}]++a.defers):=by
    obtain⟨⟨Ds,d1,d2,d3⟩,d4⟩:=h.defers;refine⟨⟨D::Ds,by rw[d1];rfl,X8.2 ⟨fun hx=>?_,d2⟩,fun b U=>?_⟩,fun hf=>by rw[dr]at hf;cases hf⟩
    · have:=(G1.1 (d3 D hx).2).1;omega
    ·
     rcases E0.1 U with rfl|U
     · exact⟨by rw[hD];exact h.base.size,ek⟩
     · refine⟨(d3 b U).1,?_⟩;rw[de.block b (G1.1 (d3 b U).2).1 fun ho=>wJ h.s ho (d3 b U).2];exact(d3 b U).2
   have cc:RepA c (· <ak) frL an {a with defers:=[{target:= .collected D,args:= #[]}]++a.defers} W4:=
    ⟨ρ3,⟨fun id o ho=>RepO.stay bx (Moves.refl (fun _=>True) ρ3) (HO.men_mono (fun _ _=>trivial) (k3.mo id o ho).2) rfl (fun _ _ _ _=>rfl) (k3.s.objs id o ho),k3.s.none,k3.s.apart,fun id L b h1 h2 h3=>k3.s.xb id L b h1 h2 (by rw[ae];exact .inl h3)⟩,
     fun t ht=>⟨RepH.stay bx (Moves.refl (fun _=>True) ρ3) (HV.men_mono (fun _ _=>trivial) (k3.mf t)) (k3.f t ht).1,(k3.f t ht).2⟩,k3.mf,k3.mo,fun id hid=>by rw[hk]at hid;exact I0 (I0 hid ai.k) j3,
     h.base.trans de,Moves.trans (fun id hid=>by rw[hk]at hid;exact I0 hid ai.k) h.moves j5,dk,h.size,h.xlt⟩
   cases go with
   |true=>
    obtain⟨_,rfl,rfl,rfl,rfl,hΦ⟩:=j9 rfl;by_cases hi:i=xs.length
    · subst hi;refine .inl ⟨none,W4,by rw[ab]at ba;exact ba,?_⟩;exact⟨_,_,_,bh hΦ,cc⟩
    · exact .inr ⟨rfl,hi⟩
   |false=>
    obtain⟨rfl,hj⟩:=bm rfl;rcases hj with⟨rfl,hq⟩|⟨id,rfl,hq⟩
    · refine .inl ⟨some .ret,W4,by rw[ab]at ba;exact ba,?_⟩;exact wpIn_ret ⟨_,_,_,hq,cc⟩
    · refine .inl ⟨some (.exit id),W4,by rw[ab]at ba;exact ba,?_⟩;exact wpIn_exit ⟨_,_,_,hq,cc⟩
  rcases hJ with hJ|⟨i,hJ⟩
  · exact(key true _ hJ).resolve_right fun h=>h.2 rfl
  · exact(key false i hJ).resolve_right fun h=>by cases h.1
end
section
variable {P:Program}{b:Frame}{a:Act}{k:List Item}{cs:List Frame}{w:World}{F:Fence}{n:Nat}{Q:Exit→Act→World→Prop}
theorem jS {c:Code}:step P (lone (b.atR a (.code (.scope c)::k)) cs w)= .next (lone (b.atR a (.code c:: .inScope c::k)) cs w):=
 step_lone_go (by simp[stepG,stepG.exec,Frame.atR])
theorem aI8 {c:Code}:step P (lone (b.atR a (.inScope c::k)) cs w)= .next (lone (b.atR a k) cs w):=
 step_lone_go (by simp[stepG,stepG.exec,Frame.atR])
theorem bJ6 {c:Code}(h:c.wpIn F n P (Exit.noGoto Q) a w):(Code.scope c).wpIn F n P Q a w:=by
 intro b k cs aa hb hr;have h0:(lone (b.atR a (.code (.scope c)::k)) cs w).fenced P F:=X4 hb hr rfl;obtain⟨e,a₁,w₁,hq,U⟩:=h b (.inScope c::k) cs aa hb hr;cases e with
 |normal=>exact⟨.normal,a₁,w₁,hq,.head h0 jS (BW U (.one (X4 hb hr rfl) aI8))⟩
 |exit id=>
  have hx:exitTo id (.inScope c::k)=exitTo id k:=by simp[exitTo]
  exact⟨.exit id,a₁,w₁,hq,fun k' hk=> .head h0 jS (U.1 k' (by grind)),
   fun ab hk=>let⟨k₁,h1,h2⟩:=U.2 ab (by grind);⟨k₁,h1,.head h0 jS h2⟩⟩
 |goto l=>exact hq.elim
 |ret=>exact⟨_,a₁,w₁,hq,.of_steps (.one h0 jS) U⟩
 |panic ch=>exact⟨_,a₁,w₁,hq,.of_steps (.one h0 jS) U⟩
 |outgrown=>exact⟨_,a₁,w₁,hq,.of_steps (.one h0 jS) U⟩
end
def aS7 (Q:eI):eI
 | .goto _=>fun _ _ _=>False
 |e=>Q e
variable {nx:Nat}{ob:Ob}{fr:Fr}{Q:eI}{P:Program}
theorem cG2 {n k:Nat}{x:Code}(h:Hw P n k x (aS7 Q) fr ob nx):Hw P n k (.scope x) Q fr ob nx:=by
 intro c a w hn hk hz hA;refine bJ6 (R3 (h c a w hn hk hz.scope hA) ?_);rintro e a' w' ⟨fr',ob',aa,hq,U⟩;cases e with
 |goto l=>exact hq.elim
 |_=>exact⟨fr',ob',aa,hq,U⟩
def RepI (n:Nat)(J:IterJ)(fr:Fr)(ob:Ob)(nx:Nat)(g:Bool)(i:Nat)(a:Act)(w:World):Prop:=
 ∃ρ X,RepR n (· <nx) fr ob a.tmps w ρ X∧a.defers=[]∧J g i w X (Own ρ)
abbrev uR :=Exit→Fr→Ob→Nat→Bool→Nat→Prop
def HwI (P:Program)(n:Nat)(J:IterJ)(code:Code)(Q:uR)(fr:Fr)(ob:Ob)(nx:Nat)(g:Bool)(i:Nat):Prop:=
 ∀(a:Act) (w:World),RepI n J fr ob nx g i a w→code.wpIn Fence.wide 0 P (fun e a' w'=> ∃fr' ob' nx' g' i',Q e fr' ob' nx' g' i'∧RepI n J fr' ob' nx' g' i' a' w') a w
def bA2 (K:Fr→Ob→Nat→Bool→Nat→Prop)(Q:uR):uR
 | .normal=>K
 |e=>Q e
def cG3 (id:Nat)(Q:uR):uR
 | .exit id'=>if id'=id then Q .normal else Q (.exit id')
 |e=>Q e
section
variable {P:Program}{n:Nat}{J:IterJ}{Q:uR}{fr:Fr}{ob:Ob}{nx:Nat}{g:Bool}{i:Nat}
theorem RepI.ctx {a:Act}{w:World}{ρ:Env}{X:Nat→Prop}(h:RepR n (· <nx) fr ob a.tmps w ρ X)(U:a.defers=[]):
  RepA' {w0:=w,ρ0:=ρ,X:=X,M0:=(· <0),n:=n,may:=false} (· <nx) fr ob a w ρ:=
 ⟨h.s,h.f,h.mf,h.mo,fun _ hi=>absurd hi (V0 _),Stay2.refl _ _,Moves.refl _ _,by grind[DefOk.nil],h.size,h.xlt⟩
theorem RepI.of {c:Ctx}{a:Act}{w:World}{ρ:Env}(h:RepA' c (· <nx) fr ob a w ρ)(hm:c.may=false)(U:J g i w c.X (Own ρ)):RepI c.n J fr ob nx g i a w:=
 ⟨ρ,c.X,⟨h.s,h.f,h.mf,h.mo,h.size,fun b hb=>I0 (h.xlt b hb) h.base.size⟩,h.defers.2 hm,U⟩
theorem qE {code:Code}(hS:J.Stab)(hz:eA code=true)(h:Hw P n 0 code (fun e fr ob nx=>Q e fr ob nx g i) fr ob nx):HwI P n J code Q fr ob nx g i:=by
 rintro a w ⟨ρ,X,hR,hd,hJ⟩;have h1:=h {w0:=w,ρ0:=ρ,X:=X,M0:=(· <0),n:=n,may:=false} a w rfl rfl (.inr hz) ⟨ρ,RepI.ctx hR hd⟩;refine R3 h1 ?_;rintro e a' w' ⟨fr',ob',aa,hq,ρ',U⟩;exact⟨fr',ob',aa,g,i,hq,RepI.of U rfl (hS hJ U.base fun b ⟨id,L,e1,e2⟩=>Owned.lt U.s e1 e2)⟩
theorem HwI.mono {code:Code}{Q':uR}(h:HwI P n J code Q fr ob nx g i)(hq: ∀e fr ob nx g i,Q e fr ob nx g i→Q' e fr ob nx g i):HwI P n J code Q' fr ob nx g i:=
 fun a w hA=>R3 (h a w hA) fun _ _ _ ⟨fr',ob',U,g',i',h1,h2⟩=>⟨fr',ob',U,g',i',hq _ _ _ _ _ _ h1,h2⟩
theorem qF (h:Q .normal fr ob nx g i):HwI P n J .skip Q fr ob nx g i:=fun _ _ U=>wpIn_skip ⟨fr,ob,nx,g,i,h,U⟩
theorem bA3 {id:Nat}(h:Q (.exit id) fr ob nx g i):HwI P n J (.exit id) Q fr ob nx g i:=fun _ _ U=>wpIn_exit ⟨fr,ob,nx,g,i,h,U⟩
theorem bO5 (h:Q .ret fr ob nx g i):HwI P n J .ret Q fr ob nx g i:=fun _ _ U=>wpIn_ret ⟨fr,ob,nx,g,i,h,U⟩
theorem iD {x y:Code}(h: ∀K:Fr→Ob→Nat→Bool→Nat→Prop,(∀fr ob nx g i,HwI P n J y Q fr ob nx g i→K fr ob nx g i)→HwI P n J x (bA2 K Q) fr ob nx g i):HwI P n J (.seq x y) Q fr ob nx g i:=by
 intro a w hA;refine wpIn_seq (R3 (h (HwI P n J y Q) (fun _ _ _ _ _ h=>h) a w hA) fun e a' w' hx=>?_);obtain⟨fr',ob',U,g',i',h1,h2⟩:=hx;cases e with
 |normal=>exact h1 a' w' h2
 |_=>exact⟨fr',ob',U,g',i',h1,h2⟩
theorem lZ {x y:Code}{o:Operand}{b:Bool}(hb:ev fr o= .c (.bool b))(h1:b=true→HwI P n J x Q fr ob nx g i)(h2:b=false→HwI P n J y Q fr ob nx g i):HwI P n J (.cond o x y) Q fr ob nx g i:=by
 intro a w hA;obtain⟨ρ,X,hR,U,hJ⟩:=hA;have:=qU (RepI.ctx hR U) hb;exact wpIn_cond_split this (fun e=>h1 e a w ⟨ρ,X,hR,U,hJ⟩) (fun e=>h2 e a w ⟨ρ,X,hR,U,hJ⟩)
theorem rD {id:Nat}{x:Code}(h:HwI P n J x (cG3 id Q) fr ob nx g i):HwI P n J (.block id x) Q fr ob nx g i:=by
 intro a w hA;refine wpIn_block (R3 (h a w hA) fun e a' w' hx=>?_);obtain⟨fr',ob',U,g',i',h1,h2⟩:=hx;cases e with
 |exit id'=>
  simp only[Exit.inBlock,cG3]at h1⊢;grind
 |_=>exact⟨fr',ob',U,g',i',h1,h2⟩
theorem RepI.fits {a:Act}{w:World}{fr2:Fr}{ob2:Ob}{nx2:Nat}(hS:J.Stab)(h:RepI n J fr ob nx g i a w)(hf:Fits 0 fr ob fr2 ob2 nx2):RepI n J fr2 ob2 nx2 g i a w:=by
 obtain⟨ρ,X,hR,hd,hJ⟩:=h;obtain⟨ρ2,U⟩:=RepA.fits (k:=0) rfl ⟨ρ,RepI.ctx hR hd⟩ hf;exact RepI.of U rfl (hS hJ U.base fun b ⟨id,L,e1,e2⟩=>Owned.lt U.s e1 e2)
theorem bA4 {α:Type}{x:Code}(hS:J.Stab)(inv:α→Fr×Ob)(st:α→Nat)(nx2:Nat)(μ:α→Nat)(x0:α)(hg:g=true)(h0:Fits 0 fr ob (inv x0).1 (inv x0).2 nx2)(hi:i=st x0)
  (round: ∀y,HwI P n J x (bA2 (fun fr' ob' _ g' i'=> ∃y',Fits 0 fr' ob' (inv y').1 (inv y').2 nx2∧g'=true∧i'=st y'∧μ y'<μ y) Q) (inv y).1 (inv y).2 nx2 true (st y)):HwI P n J (.loop x) Q fr ob nx g i:=by
 subst hg;subst hi;intro a w hA b kk cs ag aa ab;have key: ∀(m:Nat) (y:α) (a:Act) (w:World),μ y=m→RepI n J (inv y).1 (inv y).2 nx2 true (st y) a w→
   ∃e a' w',(∃fr' ob' ae g' i',Q e fr' ob' ae g' i'∧RepI n J fr' ob' ae g' i' a' w')∧ArrivesIn (Machine.fenced P Fence.wide) P (lone (b.atR a (.code x:: .inLoop x::kk)) cs w) b kk cs e a' w':=by
  intro m;induction m using Nat.strongRecOn with
  |_ m ih=>
   intro y a w hy hA;obtain⟨e,a₁,w₁,hq,U⟩:=round y a w hA b (.inLoop x::kk) cs ag aa ab;cases e with
   |normal=>
    obtain⟨fr',ob',ae,g',i',⟨y',hf,rfl,rfl,ai⟩,af⟩:=hq;obtain⟨e₂,a₂,w₂,ah,ad⟩:=ih (μ y') (by omega) y' a₁ w₁ rfl (af.fits hS hf);exact⟨e₂,a₂,w₂,ah,.of_steps (BW U (.one (X4 aa ab rfl) stepR_inLoop)) ad⟩
   |exit id=>exact⟨_,a₁,w₁,hq,.pass (x:= .inLoop x) rfl (fun _ _=> .inl (by simp)) U⟩
   |goto l=>exact⟨_,a₁,w₁,hq,.pass (x:= .inLoop x) rfl (fun _ _=> .inl (by simp)) U⟩
   |ret=>exact⟨_,a₁,w₁,hq,.pass (x:= .inLoop x) rfl (fun _ _=> .inl (by simp)) U⟩
   |panic ch=>exact⟨_,a₁,w₁,hq,.pass (x:= .inLoop x) rfl (fun _ _=> .inl (by simp)) U⟩
   |outgrown=>exact⟨_,a₁,w₁,hq,.pass (x:= .inLoop x) rfl (fun _ _=> .inl (by simp)) U⟩
 obtain⟨e,a',w',hq,U⟩:=key _ x0 a w rfl (hA.fits hS h0);exact⟨e,a',w',hq,.of_steps (.one (X4 aa ab rfl) stepR_loop) U⟩
end
section
variable {P:Program}{n:Nat}{J:IterJ}{Q:uR}{fr:Fr}{ob:Ob}{nx:Nat}{g:Bool}{i:Nat}
theorem aM0 {c:Ctx}{Q:Exit→Act→World→Prop}{ops:Array Oper}{nx:Nat}{K:Fr→Ob→Prop}{rest:List Nat}(hd: ∀o∈ops,∀k,o.dst=some k→k<c.n)(N:Nat)
  (U: ∀fr ob a w,K fr ob→RepA c (· <nx+4*N) fr ob a w→wpOpsIn c.F 0 P ops Q rest a w): ∀(n k:Nat) (fr:Fr) (ob:Ob) (a:Act) (w:World),k+n=N→RepA c (· <nx+4*k) fr ob a w→hlexG P ops nx K (List.range' k n) fr ob→wpOpsIn c.F 0 P ops Q (List.range' k n++rest) a w
 |0,k,fr,ob,a,w,hk,h,hl=>by
  simp only[AJ,hlexG,J1]at hl⊢;exact U fr ob a w hl (by simp_all)
 |n+1,k,fr,ob,a,w,hk,h,hl=>by
  simp only[U2,hlexG,J4,wpOpsIn_cons]at hl⊢;refine wpOpIn_mono (fun a' w' hx=>?_) (mT (Q:=Q) (M':=(· <nx+4*(k+1))) h (fun t ht=>by omega) (fun i hi=>by omega) (fun t ht=>by omega) hd hl);obtain⟨fr',ob',hK,hA⟩:=hx;exact aM0 hd N U n (k+1) fr' ob' a' w' (by omega) hA hK
theorem cG4 {l:Nat}{o:Oper}{cl:Call}{f:Operand}{a:Act}{w:World}{R:Ending→World→Prop}{next:Act→World→Prop}{Q:Exit→Act→World→Prop}(ho:o.op= .call cl)(hc:cl.callee= .value f)(hf:a.eval f= .func (.yield l) #[] #[])
  (hy:YieldAt Fence.wide 0 P l (cl.args.map a.eval) w R) (hR: ∀e w',R e w'→ ∃v,e= .returned v∧next (a.put o.dst v) w'):o.wpIn Fence.wide 0 P a w next Q:=by
 refine⟨fun _ _=>trivial,?_⟩;rw[U9 _ _ _ (by grind)];obtain⟨fn,tmps,assign,body,aa,U⟩:=hy;have h1:(execOp a.eval o).run P w= .ok (.round l fn tmps assign body) w:=by simp[execOp,ho,resolve,hc,hf,Deferred.ofValue,invoke,aa]
 rw[h1,Oper.uponIn_round];refine⟨fun h=>(by cases h),U.mono ?_⟩;grind
theorem wY {l:Nat}{id:Nat}{ops:Array Oper}{xs:List (List CV)}(j:Nat)(hS:J.Stab)
  (hY: ∀(i:Nat) (hi:i<xs.length) (w:World) (X B:Nat→Prop) (vs:List Value),J true i w X B→RepHV w (fun _=>none) (fun b=>X b∨B b) (xs[i].map .c) vs→YieldAt Fence.wide 0 P l vs.toArray w (uQ J i w X B))
  (hg:g=true) (hd:gQ n ops=true) (hj:j<ops.size)
  (h:hlex P ops nx (fun fr' ob'=> ∃(o:Oper) (cl:Call) (f:Operand) (hi:i<xs.length),ops[j]? =some o∧o.op= .call cl∧cl.callee= .value f∧hguard ops o fr'=some true∧ev fr' f= .opq (.func (.yield l) #[] #[])∧
   (cl.args.toList.map fun x=>ev fr' x)=xs[i].map .c∧
   hlex P ops nx (fun fr2 ob2=>Q .normal fr2 ob2 (nx+4*ops.size) true (i+1)) (List.range' (j+1) (ops.size-(j+1))) (updo fr' o.dst (.c (.bool true))) ob'∧
   hlex P ops nx (fun fr2 ob2=>Q .normal fr2 ob2 (nx+4*ops.size) false i) (List.range' (j+1) (ops.size-(j+1))) (updo fr' o.dst (.c (.bool false))) ob') (List.range' 0 j) fr ob):
  HwI P n J (.region id ops false) Q fr ob nx g i:=by
 subst hg;rintro a w ⟨ρ,X,hR,ax,hJ⟩;refine DR ?_;have hr:List.range ops.size=List.range' 0 j++(j::List.range' (j+1) (ops.size-(j+1))):=by
  have e1:=List.range'_append_1 (s:=0) (m:=j) (n:=ops.size-(j+1)+1);rw[F0]at e1;rw[Q3,←List.range'_succ (s:=j) (step:=1),e1];congr 1;omega
 rw[hr]
 let c:Ctx:={w0:=w,ρ0:=ρ,X:=X,M0:=(· <0),n:=n,may:=false}
 refine aM0 (c:=c) (jL hd) j (fun fr' ob' a' w' hK hA=>?_) j 0 fr ob a w (by omega) ⟨ρ,RepI.ctx hR ax⟩ (aR9 h);obtain⟨o,cl,f,hi,ho,hop,ak,ao,hf,ad,hT,hN⟩:=hK;obtain⟨ρ',U⟩:=hA;have ai:J true i w' X (Own ρ'):=hS hJ U.base fun b ⟨id,L,e1,e2⟩=>Owned.lt U.s e1 e2;show wpOpIn Fence.wide 0 P ops _ j _ a' w';unfold wpOpIn;rw[ho];simp only[sC U ao,G4];have ah:=dO (U.ev f (by rw[hf];simp)) (by rw[hf];rfl);rw[hf]at ah;have au:a'.eval f= .func (.yield l) #[] #[]:=by
  have:=ah.1;simp only[RepH,F8,J9]at this;first|exact this.1|exact this
 have ar: ∀(ys:List Operand) (cs:List CV),(ys.map fun x=>ev fr' x)=cs.map .c→RepHV w' (fun _=>none) (fun b=>X b∨Own ρ' b) (cs.map .c) (ys.map a'.eval):=by
  intro ys;induction ys with
  |nil=>
   intro cs he;cases cs with
   |nil=>simp[RepHV]
   |cons _ _=>simp at he
  |cons x ys ih=>
   intro cs he;cases cs with
   |nil=>simp at he
   |cons c cs=>
    simp only[B8,F8]at he;have h1:=U.ev x (by rw[he.1];simp);rw[he.1]at h1;simp only[B8,bJ];refine⟨_,_,rfl,?_,ih cs he.2⟩;simp only[RepV,RepH]at h1⊢;exact h1
 have hy:=hY i hi w' X (Own ρ') (cl.args.toList.map a'.eval) ai (ar _ _ ad);have af:(cl.args.toList.map a'.eval).toArray=cl.args.map a'.eval:=by rw[←Array.toList_map,T7]
 rw[af]at hy;have ae: ∀k,o.dst=some k→k<n:=jL hd o (P2 ho);refine cG4 hop ak au hy ?_;rintro e w2 ⟨X',hs,aj,hE⟩;have k2:RepR n (· <nx+4*j) fr' ob' a'.tmps w2 ρ' X':=RepR.foreign (w:=w') (X:=X) ⟨U.s,U.f,U.mf,U.mo,U.size,fun b hb=>I0 (U.xlt b hb) U.base.size⟩ hs (fun _ hb=>hb) (fun _ hb=> .inr hb) aj;have fin: ∀(b g':Bool) (i':Nat),J g' i' w2 X' (Own ρ')→hlex P ops nx (fun fr2 ob2=>Q .normal fr2 ob2 (nx+4*ops.size) g' i') (List.range' (j+1) (ops.size-(j+1))) (updo fr' o.dst (.c (.bool b))) ob'→
   wpOpsIn Fence.wide 0 P ops (fun e a' w'=> ∃fr' ob' ag g' i',Q e fr' ob' ag g' i'∧RepI n J fr' ob' ag g' i' a' w') (List.range' (j+1) (ops.size-(j+1))) (a'.put o.dst (.bool b)) w2:=by
  intro b g' i' aa hl
  let c2:Ctx:={w0:=w2,ρ0:=ρ',X:=X',M0:=(· <0),n:=n,may:=false}
  have h2:RepA' c2 (· <nx+4*j) fr' ob' a' w2 ρ':=RepI.ctx k2 (U.defers.2 rfl);have h3:RepA' c2 (· <nx+4*(j+1)) (updo fr' o.dst (.c (.bool b))) ob' (a'.put o.dst (.bool b)) w2 ρ':=(h2.value (.inr (by simp[RepV,RepH,RepC,Value.cells,HV.isAgg,CV.isAgg,Value.isAgg'])) (by simp[HV.men]) ae).weaken (fun i hi=>by omega);refine pV (c:=c2) (jL hd) ops.size (fun aq an a3 w3 aw ab=>?_) (ops.size-(j+1)) (j+1) _ ob' _ w2 (by omega) ⟨ρ',h3⟩ (aR9 hl);obtain⟨ρ3,ab⟩:=ab;exact⟨aq,an,_,g',i',aw,RepI.of ab rfl (hS aa ab.base fun b ⟨id,L,e1,e2⟩=>Owned.lt ab.s e1 e2)⟩
 rcases hE with⟨rfl,aa⟩|⟨rfl,aa⟩
 · exact⟨_,rfl,fin true true (i+1) aa hT⟩
 · exact⟨_,rfl,fin false false i aa hN⟩
theorem cG5 {f:FuncId}{fn:Func}{code:Code}{caps:List HV}{k:Nat}{xs:List (List CV)}(hf:P.funcs[f]? =some fn)(hb:fn.body=some code)(an:fC P f=true)(U:LocOk k caps ob)(hn:caps.length+1≤fn.ntmps)(hr:fn.results= #[])
  (h: ∀(l:Nat) (J:IterJ),J.Stab→
   (∀(i:Nat) (hi:i<xs.length) (w:World) (X B:Nat→Prop) (vs:List Value),J true i w X B→RepHV w (fun _=>none) (fun b=>X b∨B b) (xs[i].map .c) vs→YieldAt Fence.wide 0 P l vs.toArray w (uQ J i w X B))→
   HwI P fn.ntmps J code (fun e _ _ _ g i=>(e= .normal∨e= .ret)∧(g=true→i=xs.length)) (uF 0 (.opq (.func (.yield l) #[] #[])::caps)) ob k true 0):cG1 P f caps ob xs:=by
 refine⟨an,fun l J W ρ X cs hS hC hX ab hY hJ=>?_⟩;have hlen:cs.length=caps.length:=by
  clear h hn U;induction caps generalizing cs with
  |nil=>simp only[RepHV]at hC;simp[hC]
  |cons x l ih=>rw[bJ]at hC;obtain⟨y,ys,rfl,_,h2⟩:=hC;simp[ih ys h2]
 refine callsIn_of_wp_marks (F:=Fence.wide) (n:=0) hf hb trivial ?_;have ag: ∀(l:List HV) (ys:List Value) (t:Nat),RepHV W ρ (Owned ρ X) l ys→t<l.length→RepV W ρ (Owned ρ X) (l.getD t .junk) (ys.getD t undef):=by
  intro l;induction l with
  |nil=>intro ys t _ ht;simp at ht
  |cons x l ih=>
   intro ys t hl ht;rw[bJ]at hl;obtain⟨y,ak,rfl,h1,h2⟩:=hl;cases t with
   |zero=>simpa using h1
   |succ t=>simpa using ih ak t h2 (by simpa using ht)
 have ae: ∀(l:List HV) (t:Nat),HV.menL (· <k) l→(l.getD t .junk).men (· <k):=by
  intro l;induction l with
  |nil=>intro t _;simp[HV.men]
  |cons x l ih=>
   intro t hl;simp only[HV.menL]at hl;cases t with
   |zero=>simpa using hl.1
   |succ t=>simpa using ih t hl.2
 have ah:RepHV W ρ (Owned ρ X) (.opq (.func (.yield l) #[] #[])::caps) (.func (.yield l) #[] #[]::cs):=by
  rw[bJ];exact⟨_,_,rfl,⟨by simp[RepH,Value.cells,Value.oneCell'],rfl⟩,hC⟩
 have aa:HV.menL (· <k) (.opq (.func (.yield l) #[] #[])::caps):=by simp only[HV.menL,HV.men,Q9];exact U.args
 have e0:(#[.func (.yield l) #[] #[]]++cs.toArray:Array Value)=(Value.func (.yield l) #[] #[]::cs).toArray:=by simp
 rw[e0];have h0:RepI fn.ntmps J (uF 0 (.opq (.func (.yield l) #[] #[])::caps)) ob k true 0 {tmps:=(Value.func (.yield l) #[] #[]::cs).toArray++Array.replicate (fn.ntmps-(Value.func (.yield l) #[] #[]::cs).toArray.size) undef,defers:=[]} W:=by
  refine⟨ρ,X,⟨hS,fun t ht=>?_,fun t=>?_,U.none,by simp;omega,hX⟩,rfl,hJ⟩
  ·
   rw[zJ,A7 (V0 _),H6]at ht⊢;have af:t<(HV.opq (.func (.yield l) #[] #[])::caps).length:=by
    rcases H4 t (HV.opq (.func (.yield l) #[] #[])::caps).length with h'|h'
    · exact h'
    · exact absurd (by rw[B4,I5 h'];rfl) ht
   have:=ag _ _ t ah af;have e:((Value.func (.yield l) #[] #[]::cs).toArray++Array.replicate (fn.ntmps-(Value.func (.yield l) #[] #[]::cs).toArray.size) undef).getD t undef=(Value.func (.yield l) #[] #[]::cs).getD t undef:=by
    rw[K8,Q0 (by simp only[I8,A8]at af⊢;omega)];simp
   rw[e];exact this
  · rw[zJ,A7 (V0 _)];exact ae _ _ aa
 refine R3 (h l J ab hY _ W h0) ?_;rintro e a1 w1 ⟨fr',ob',aq,g',i',⟨he,ai⟩,ρ',X',ao,aj,ad⟩;have fin:LeavesInM Fence.wide 0 P fn a1.tmps (fun e W'=>(∃v,e= .returned v)∧ ∃X' B',J true xs.length W' X' B'∨ ∃i,J false i W' X' B') a1.defers .returning w1:=by
  rw[aj];refine oN [] w1 N3 (by simp) ⟨.tuple #[],?_,⟨_,rfl⟩,X',Own ρ',?_⟩
  · show(results fn a1.tmps).run P w1= .ok _ w1;unfold results;rw[hr,U5];simp
  ·
   cases g' with
   |true=>rw[←ai rfl];exact .inl ad
   |false=>exact .inr ⟨i',ad⟩
 rcases he with rfl|rfl
 · exact fin
 · exact fin
end
section
variable (Q:eI)(frL fr:Fr)(ob2 ob:Ob)(nx2 nx id:Nat)(K:Fr→Ob→Nat→Prop)(I:uR)(KI:Fr→Ob→Nat→Bool→Nat→Prop)(g:Bool)(i:Nat)
theorem rpost_normal (φ:Prop):bA0 Q frL ob2 nx2 φ .normal fr ob nx=(Fits nx2 fr ob (fun _=> .junk) ob2 nx2∧φ):=rfl
theorem rpost_exit (φ:Prop):bA0 Q frL ob2 nx2 φ (.exit id) fr ob nx=Q (.exit id) frL ob nx:=rfl
theorem rpost_ret (φ:Prop):bA0 Q frL ob2 nx2 φ .ret fr ob nx=Q .ret frL ob nx:=rfl
theorem hscope_normal :aS7 Q .normal=Q .normal:=rfl
theorem hscope_exit :aS7 Q (.exit id)=Q (.exit id):=rfl
theorem hscope_ret :aS7 Q .ret=Q .ret:=rfl
theorem ithen_normal :bA2 KI I .normal=KI:=rfl
theorem ithen_exit :bA2 KI I (.exit id)=I (.exit id):=rfl
theorem ithen_ret :bA2 KI I .ret=I .ret:=rfl
theorem iblk_normal :cG3 id I .normal=I .normal:=rfl
theorem iblk_exit (id':Nat):cG3 id I (.exit id')=if id'=id then I .normal else I (.exit id'):=rfl
theorem iblk_ret :cG3 id I .ret=I .ret:=rfl
end
def mN (bs:List (TypeId×CV)):Ob:=fun j=>(bs[j]?).map fun x=> .box x.1 (.c x.2)
def kE (ids:List Nat):List HV:=ids.map fun i=> .ptr i 0
def qG (ob:Ob)(nid:Nat):List (TypeId×CV)→Ob
 |[]=>ob
 |x::bs=>qG (upd ob nid (some (.box x.1 (.c x.2)))) (nid+1) bs
def aS8 (P:Program)(gf:FuncId)(bs:List (TypeId×CV))(xs:List (List CV)):Prop:=cG1 P gf (kE (List.range bs.length)) (mN bs) xs
def bO6 (P:Program)(f gf:FuncId)(args:List CV)(bs:List (TypeId×CV)):Prop:=
 HFn P f (args.map .c) 0 cZ (fun r ob'=>r= .clo gf (kE (List.range bs.length))∧ob'=mN bs)
theorem aD0 {M:Nat→Prop}: ∀{ids:List Nat},(∀i∈ids,M i)→HV.menL M (kE ids)
 |[],_=>by simp[kE,HV.menL]
 |i::ids,h=>by simp only[kE,B8,HV.menL,HV.men];exact⟨h i H9,aD0 fun j U=>h j (H2 _ U)⟩
theorem uS {m:Nat→Nat}: ∀(ids:List Nat),HV.renL m (kE ids)=kE (ids.map m)
 |[]=>rfl
 |i::ids=>by
  have:=uS (m:=m) ids;grind[kE,HV.renL,HV.ren]
theorem aD1 (bs:List (TypeId×CV)):LocOk bs.length (kE (List.range bs.length)) (mN bs):=
 ⟨fun j hj=>⟨_,by simp only[mN,A9 hj,I2];rfl⟩,fun id o U=>by
  simp only[mN,C9]at U;obtain⟨x,hx,rfl⟩:=U;grind[List.getElem?_eq_some_iff,HO.men,HV.men],aD0 fun i hi=>List.mem_range.1 hi⟩
theorem aM1 (σ:List Nat)(nid:Nat):(List.range σ.length).map (sub σ nid)=σ:=by
 apply List.ext_getElem;all_goals simp_all[AL,CC,sub,B1,B4,A9,E9]
theorem bO7 : ∀(bs:List (TypeId×CV)) (ob:Ob) (nid i:Nat),qG ob nid bs i=if nid≤i∧i<nid+bs.length then mN bs (i-nid)else ob i
 |[],ob,nid,i=>by simp_all[qG,C0,L4,A7]
 |x::bs,ob,nid,i=>by
  simp only[qG,bO7 bs,A8];by_cases U:i=nid
  · subst U;rw[A7 (by omega),aR,B1 (by omega)];simp[mN]
  ·
   by_cases h2:nid+1≤i∧i<nid+1+bs.length
   · rw[B1 h2,B1 (by omega)];obtain⟨k,rfl⟩: ∃k,i=nid+1+k:=⟨i-(nid+1),by omega⟩;grind[mN]
   · rw[A7 h2,A7 (by omega),bE _ _ U]
variable {bs:List (TypeId×CV)}{f gf:FuncId}
theorem wZ {av:List Nat}{nid:Nat}{K:HV→Ob→Prop}{args:List CV}(h:bO6 P f gf args bs)(hb:bs.length≤4)(U:Free4 ob nid)
  (hK:K (.clo gf (kE (List.range' nid bs.length))) (qG ob nid bs)):HCall P av f (args.map .c) ob nid K:=by
 refine⟨[],args.map .c,cZ,_,h,lL args,⟨N3,by simp⟩,(HV.renL_c _ _).symm,fun j o h=>by simp[cZ]at h,fun r aa hR _=>?_⟩;obtain⟨rfl,rfl⟩:=hR;have e1:bY ob [] nid (mN bs)=qG ob nid bs:=by
  funext i;rw[bO7];simp only[bY,Q5,C0,F0];by_cases h1:nid≤i∧i<nid+4
  ·
   rw[B1 h1];by_cases h2:i<nid+bs.length
   ·
    rw[B1 ⟨h1.1,h2⟩];cases hx:mN bs (i-nid)with
    |none=>rfl
    |some o=>
     simp only[mN,C9]at hx;obtain⟨x,_,rfl⟩:=hx;rfl
   · rw[A7 (by omega),U.all i h1.1 h1.2];grind[mN,List.getElem?_eq_none]
  · rw[A7 h1,A7 (by omega)]
 rw[e1];have e2:(HV.clo gf (kE (List.range bs.length))).ren (sub [] nid)= .clo gf (kE (List.range' nid bs.length)):=by
  simp only[HV.ren,uS];congr 2;rw[Q3,AA,AA,Q4];refine O6 fun i _=>?_;simp[sub]
 grind
theorem bJ7 (v:CV)(h:v.denil=v): ∀ob cl,((HV.c v).close ob cl).norm= .c v:=fun ob cl=>by simp[HV.close,HV.norm,HV.toC,h]
theorem xA {ids:List Nat}(hl:ids.length=bs.length)(hb:bs.length≤4)(hn:ids.Nodup)(ho: ∀j x,bs[j]? =some x→ob (ids.getD j 0)=some (.box x.1 (.c x.2)))(hd: ∀x∈bs,x.2.denil=x.2):
  gR 0 (.clo gf (kE ids)) ob (fun r ob'=>r= .clo gf (kE (List.range bs.length))∧ob'=mN bs):=by
 let m:=ids.foldl max 0
 have hm: ∀i∈ids,i≤m:=by
  have: ∀(l:List Nat) (a:Nat),(∀i∈l,i≤l.foldl max a)∧a≤l.foldl max a:=by
   intro l;induction l with
   |nil=>grind
   |cons x l ih=>
    grind
  exact(this ids 0).1
 refine⟨[],sub ids (m+1),.clo gf (kE (List.range bs.length)),mN bs,⟨rfl,rfl⟩,?_,fun _ h=>absurd h (V0 _),fun i j hi hj e=>?_,?_,fun j o hj=>?_⟩
 · grind[HV.close,HV.norm,HV.toC,HV.ren,uS,aM1]
 ·
  simp only[sub]at e;by_cases h1:i<ids.length<;>by_cases U:j<ids.length
  · rw[B1 h1,B1 U]at e;have e1:=eP hn h1;have e2:=eP hn U;grind
  · rw[B1 h1,A7 U]at e;grind[List.getElem?_eq_getElem,List.getElem_mem]
  · rw[A7 h1,B1 U]at e;grind[List.getElem?_eq_getElem,List.getElem_mem]
  grind
 · grind[HV.men,aD0]
 ·
  simp only[mN,C9]at hj;obtain⟨x,hx,rfl⟩:=hj;have aa:=(H3.1 hx).1;refine⟨by omega,by simp[HO.men,HV.men],by simp,.box x.1 (.c x.2),?_,?_⟩
  · rw[sub,B1 (by omega)];grind
  grind[HO.ren,HV.ren,bJ7,List.mem_of_getElem?]
variable {xs:List (List CV)}
theorem aM2 {n k:Nat}{g:Operand}{ps:Array Tmp}{aa body:Code}(ids:List Nat)(frL:Fr)(inv:Nat→Ob)(nx2:Nat)(Φ:Nat→Prop)(h0:Φ 0)
  (hit:aS8 P gf bs xs) (hg:ev fr g= .clo gf (kE ids)) (hl:ids.length=bs.length) (aj:ids.Nodup)
  (ho: ∀j x,bs[j]? =some x→ob (ids.getD j 0)=some (.box x.1 (.c x.2))) (ae:Fits k fr ob frL (inv 0) nx2) (ad: ∀id∈ids,inv 0 id=none)
  (ah: ∀x∈xs,x.length=ps.size) (ai: ∀p∈ps.toList,p<n) (ab:eA aa=true) (ak:eA body=true)
  (U: ∀(i:Nat) (hi:i<xs.length),Φ i→ ∀(K:Fr→Ob→Nat→Prop),(∀fr' ob' af,Hw P n nx2 body (bA0 Q frL (inv (i+1)) nx2 (Φ (i+1))) fr' ob' af→K fr' ob' af)→Hw P n nx2 aa (hthen K fun _ _ _ _=>False) (aC9 frL ps.toList xs[i]) (inv i) nx2)
  (ag:Φ xs.length→Q .normal frL (inv xs.length) nx2):Hw P n k (.rangeFunc g ps aa body) Q fr ob nx:=by
 refine aS6 (σ:=ids) (lob:=mN bs) frL inv nx2 Φ h0 hit hg (by grind[aD1]) aj ?_ (fun j o hj=>?_) ae ad ah ai ab ak (fun i hi hΦ=>U i hi hΦ _ fun _ _ _ h=>h) ag
 · rw[uS,←hl,aM1]
 · simp only[mN,C9]at hj;obtain⟨x,hx,rfl⟩:=hj;exact ho j x hx
theorem aM3 {fn:Func}{code:Code}(hf:P.funcs[f]? =some fn)(hb:fn.body=some code)(U:fC P f=true)(hn:bs.length+1≤fn.ntmps)(hr:fn.results= #[])
  (h: ∀(l:Nat) (J:IterJ),J.Stab→
   (∀(i:Nat) (hi:i<xs.length) (w:World) (X B:Nat→Prop) (vs:List Value),J true i w X B→RepHV w (fun _=>none) (fun b=>X b∨B b) (xs[i].map .c) vs→YieldAt Fence.wide 0 P l vs.toArray w (uQ J i w X B))→
   HwI P fn.ntmps J code (fun e _ _ _ g i=>(e= .normal∨e= .ret)∧(g=true→i=xs.length)) (uF 0 (.opq (.func (.yield l) #[] #[])::kE (List.range bs.length))) (mN bs) bs.length true 0):aS8 P f bs xs:=
 cG5 hf hb U (aD1 bs) (by simpa[kE]using hn) hr h
end Go.Hl
