/- HL, part S: finite frames and heaps; pure functions. By an AI agent. -/
import Derived.Still
import Derived.OrdersIn
import Derived.RangeFuncCalls
import Derived.StillTail
import Derived.ControlIn
import Derived.Scope
import Derived.RangeFuncLeaves
import Derived.RangeFuncOwn
import Derived.IntWalk
import Derived.Test.YthedbjfipmkpiaaGreatDoorHlN
set_option linter.unusedSimpArgs false
set_option linter.unusedVariables false
set_option linter.defProp false
namespace Go.Hl
open Go
abbrev lT :=List (Nat×List Nat)
def lC (ops:Array Oper)(nx:Nat)(wt:Nat→Nat→Bool)(C:lT)(j:Nat):List Nat:=
 C.flatMap fun p=>if wt j p.1=true then []else [nx+4*p.1,nx+4*p.1+1,nx+4*p.1+2,nx+4*p.1+3]++(if((ops[j]?).map (fun o=>isEff o.op)).getD true=true then p.2 else [])
def aB5 (P:Program)(ops:Array Oper)(nx:Nat)(wt:Nat→Nat→Bool)(Q:Fr→Ob→Prop):Nat→lT→Array Bool→Fr→Ob→Prop
 |0,_,listed,fr,ob=>Region.ready .any ops listed=[]∧Q fr ob
 |n+1,C,listed,fr,ob=>(Region.ready .any ops listed=[]→Q fr ob)∧
  ∀i∈Region.ready .any ops listed,eE P ops nx (lC ops nx wt C i) i (aB5 P ops nx wt Q n C (listed.setIfInBounds i true)) fr ob
def Fresh (nx:Nat)(listed:Array Bool)(ob:Ob):Prop:= ∀j,listed.getD j true=false→ ∀t,t<4→ob (nx+4*j+t)=none
def Down (ops:Array Oper)(listed:Array Bool):Prop:= ∀j o,ops[j]? =some o→listed.getD j false=true→ ∀e∈o.after,Region.binds .any e=true→listed.getD e.on false=true
def cD8 (ops:Array Oper)(wt:Nat→Nat→Bool):Prop:=ops.size≤2500∧ ∀j i,wt j i=true→ ∃o,ops[j]? =some o∧ ∃e∈o.after,Region.binds .any e=true∧(e.on=i∨(e.on<j∧wt e.on i=true))
variable {listed:Array Bool}{wt:Nat→Nat→Bool}{ops:Array Oper}
theorem bU2 (hw:cD8 ops wt)(hd:Down ops listed): ∀(n j i:Nat),j=n→wt j i=true→(∀o,ops[j]? =some o→ ∀e∈o.after,Region.binds .any e=true→listed.getD e.on false=true)→listed.getD i false=true:=by
 intro n;induction n using Nat.strongRecOn with
 |_ n ih=>
  intro j i hj U I;obtain⟨o,ho,e,he,hb,h⟩:=hw.2 j i U;have h1:=I o ho e he hb;rcases h with h|⟨h2,h3⟩
  · grind
  · exact ih e.on (by omega) e.on i rfl h3 (fun o' J e' ab aa=>hd e.on o' J h1 e' ab aa)
variable {i j:Nat}
theorem dC7 {I:Nat→Nat→Bool}(hw:cD8 ops I)(hd:Down ops listed)(hj:j∈Region.ready .any ops listed)(hi:listed.getD i true=false):I j i=false:=by
 cases h:I j i with
 |false=>rfl
 |true=>
  obtain⟨_,o,ho,J⟩:=BL.1 hj;have:=bU2 hw hd j j i rfl h (fun o' U e he hb=>by grind);grind
theorem Down.set (hd:Down ops listed)(hi:i∈Region.ready .any ops listed):Down ops (listed.setIfInBounds i true):=by
 obtain⟨_,oi,aa,J⟩:=BL.1 hi;intro j o U hl e he hb;by_cases I:i=j
 · grind[getD_set_true]
 · rw[DQ false I]at hl;exact getD_set_true (hd j o U hl e he hb)
theorem aK8 (ops:Array Oper)(nx:Nat)(I:Nat→Nat→Bool)(p:Nat×List Nat)(C:lT)(j:Nat): ∀x∈lC ops nx I C j,x∈lC ops nx I (p::C) j:=by grind[lC,List.mem_append_right]
variable {ob:Ob}{fr:Fr}{K:Fr→Ob→Prop}{av av':List Nat}{nx:Nat}{P:Program}
theorem lU {I:Fr→Ob→Prop}(J: ∀x∈av',x∈av)(U: ∀fr ob,K fr ob→I fr ob)(h:eE P ops nx av i K fr ob):eE P ops nx av' i I fr ob:=by
 unfold eE at h⊢;split at h;all_goals grind[yF]
theorem sX {P:Program}{ops:Array Oper}{nx:Nat}{I:Nat→Nat→Bool}{Q:Fr→Ob→Prop}{p:Nat×List Nat}{C:lT}: ∀{n:Nat} {listed:Array Bool} {fr:Fr} {ob:Ob},aB5 P ops nx I Q n (p::C) listed fr ob→aB5 P ops nx I Q n C listed fr ob
 |0,_,_,_,h=>h
 |_+1,_,_,_,h=>⟨h.1,fun i hi=>lU (aK8 ops nx I p C i) (fun _ _=>sX) (h.2 i hi)⟩
structure Yld (P:Program)(ops:Array Oper)(nx:Nat)(av:List Nat)(i:Nat)(oi:Oper)(fr:Fr)(ob:Ob)(v:HV)(u:Option (Nat×HO))(F:List Nat):Prop where
 run: ∀fr' ob',(∀x∈oi.op.operands,ev fr' x=ev fr x)→hguard ops oi fr'=hguard ops oi fr→bN8 F ob ob'→ ∀K:Fr→Ob→Prop,K (updo fr' oi.dst v) (app u ob')→eE P ops nx av i K fr' ob'
 new: ∀p,u=some p→p.1=nx+4*i
 live: ∀id∈F,(ob id).isSome=true
variable {u:Option (Nat×HO)}{v:HV}{oi:Oper}
theorem aX7 {J:Oper}{F:List Nat}
  (aa:ops[j]? =some J) (ab:oi.apart ops J=true) (hu:bN9 u av (nx+4*j)) (U: ∀x∈av',x∈av) (hF: ∀id∈F,(isEff J.op=true→id∈av)∧(ob id).isSome=true) (I: ∀t,t<4→ob (nx+4*j+t)=none)
  (h:eE P ops nx av j K (updo fr oi.dst v) (app u ob)):
  eE P ops nx av' j (fun fr' ob'=>K (updo fr' oi.dst v) (app u ob')∧bN8 F ob ob'∧(∀x∈oi.op.operands,ev fr' x=ev fr x)∧hguard ops oi fr'=hguard ops oi fr) fr ob:=by
 obtain⟨h1,h2,h3⟩:=Oper.apart_spec ab;have kept: ∀y,(∀x∈oi.op.operands,ev (updo fr J.dst y) x=ev fr x)∧hguard ops oi (updo fr J.dst y)=hguard ops oi fr:=fun y=>⟨pT h3,yD h3⟩;unfold eE at h⊢;rw[aa]at h⊢;simp only at h⊢;rw[yD h1]at h;split at h
 · rename_i hg;have h':=uD (e':=ev fr) (fun x hx=>(pT h1 x hx).symm) h;refine yF (fun x hx=>hx) (fun y ob' hK=>?_) (aR7 (F:=F) hu U hF I h');grind[aK7]
 · rw[aK7 h2]at h;exact⟨h,fun _ _=>rfl,kept _⟩
 grind
theorem Fresh.set (h:Fresh nx listed ob)(i:Nat):Fresh nx (listed.setIfInBounds i true) ob:=fun j J=>by
 by_cases I:i=j
 · simp_all
 · rw[DQ true I]at J;exact h j J
theorem yG (hf:Fresh nx listed ob)(h:eE P ops nx av i K fr ob):
  eE P ops nx av i (fun fr' ob'=>K fr' ob'∧Fresh nx (listed.setIfInBounds i true) ob') fr ob:=by
 have key: ∀ob':Ob,(∀id,ob id=none→ ¬(nx+4*i≤id∧id<nx+4*i+4)→ob' id=none)→Fresh nx (listed.setIfInBounds i true) ob':=by
  intro ob' U j hj t ht;have h2:=hf.set i j hj t ht;refine U _ h2 (fun h3=>?_);have ag:i=j:=by omega
  subst ag;rcases H4 i listed.size with h'|h'
  · simp_all
  · grind
 unfold eE at h⊢;cases ho:ops[i]? with
 |none=>grind
 |some o=>
  rw[ho]at h;simp only at h⊢;cases hg:hguard ops o fr with
  |none=>grind
  |some b=>
   rw[hg]at h;cases b with
   |false=>grind
   |true=>
    simp only at h⊢;unfold fD at h⊢;cases hc:hcallOf o.op with
    |none=>
     rw[hc]at h;simp only at h⊢;obtain⟨v,u,hK,J,hid⟩:=rA h.2;refine⟨h.1,J ob (fun _ _=>rfl) _ ⟨hK,key _ (fun id U h2=>?_)⟩⟩;grind[lK]
    |some p=>
     obtain⟨f,xs⟩:=p;rw[hc]at h;simp only at h⊢;obtain⟨U,nd,h⟩:=h;refine⟨U,nd,?_⟩;have ae: ∀g args,HCallL P av g args ob (nx+4*i) (fun v ob'=>K (updo fr o.dst v) ob')→HCallL P av g args ob (nx+4*i) (fun v ob'=>K (updo fr o.dst v) ob'∧Fresh nx (listed.setIfInBounds i true) ob'):=by
      rintro g args ⟨σ,I,lob,R,U,h2,h3,h5,h6,h7⟩;refine⟨σ,I,lob,R,U,h2,h3,h5,h6,fun r ad hR hr=>⟨h7 r ad hR hr,key _ (fun id e1 e2=>?_)⟩⟩;unfold bY;split
      · rename_i j hj;exfalso;rw[O0]at hj;obtain⟨ab,aa,_⟩:=hj;obtain⟨o',af⟩:=h2.all j ab;have:=h6 j o' af;rw[B4,A9 ab]at this;simp only[I6]at aa;simp only[E9,aa,e1]at this;cases this
      · rw[A7 e2];exact e1
     grind
theorem aX8 {Q:Fr→Ob→Prop}(hi:ops[i]? =some oi)(hw:cD8 ops wt){F:List Nat}{C:lT}:
  ∀(n:Nat) (listed:Array Bool) (fr:Fr) (ob:Ob),Down ops listed→Fresh nx listed ob→
   (∀j oj,ops[j]? =some oj→j≠i→listed.getD j true=false→(∀e∈oj.after,Region.binds .any e=true→e.on≠i)→oi.apart ops oj=true)→
   i∈Region.ready .any ops listed→Yld P ops nx (lC ops nx wt C i) i oi fr ob v u F→
   aB5 P ops nx wt Q n ((i,F)::C) (listed.setIfInBounds i true) (updo fr oi.dst v) (app u ob)→aB5 P ops nx wt Q (n+1) C listed fr ob:=by
 intro n;induction n with
 |zero=>
  intro listed fr ob hd hf J hr hy H;refine⟨fun h=>(by grind),fun j hj=>?_⟩;by_cases I:j=i
  · subst I;exact hy.run fr ob (fun _ _=>rfl) rfl (fun _ _=>rfl) _ (sX H)
  · have:=ready_mono hj I;rw[H.1]at this;grind
 |succ n ih=>
  intro listed fr ob hd hf J hr hy H;have ag:=(BL.1 hr).1;refine⟨fun h=>(by grind),fun j hj=>?_⟩;by_cases I:j=i
  · subst I;exact hy.run fr ob (fun _ _=>rfl) rfl (fun _ _=>rfl) _ (sX H)
  ·
   have h1:=H.2 j (ready_mono hj I);obtain⟨U,oj,ab,aq⟩:=BL.1 hj;have ad: ∀e∈oj.after,Region.binds .any e=true→e.on≠i:=fun e he hb heq=>by grind
   have au:=dC7 hw hd hj ag;have ak: ∀t,t<4→nx+4*i+t∈lC ops nx wt ((i,F)::C) j:=fun t ht=>by
    unfold lC;grind
   have ae:isEff oj.op=true→ ∀id∈F,id∈lC ops nx wt ((i,F)::C) j:=fun he id hid=>by
    unfold lC;grind
   have hu:bN9 u (lC ops nx wt ((i,F)::C) j) (nx+4*j):=fun p hp=>by
    have:=hy.new p hp;have ar:=(G1.1 ab).1;have hs:=hw.1;exact⟨by rw[this];exact ak 0 (by omega),by omega,by omega⟩
   have h2:=aX7 (F:=F) (av':=lC ops nx wt C j) ab (J j oj ab I U ad) hu (aK8 ops nx wt _ C j) (fun id hid=>⟨fun he=>ae he id hid,hy.live id hid⟩) (hf j U) h1;have h3:=yG hf h2;have aa: ∀k ok,ops[k]? =some ok→k≠i→(listed.setIfInBounds j true).getD k true=false→
     (∀e∈ok.after,Region.binds .any e=true→e.on≠i)→oi.apart ops ok=true:=fun k ok hk aj hun ao=>by
    refine J k ok hk aj ?_ ao;by_cases af:j=k
    · subst af;exact U
    · rw[DQ true af]at hun;exact hun
   refine lU (fun x hx=>hx) (fun fr' ob' hK=>?_) h3;obtain⟨⟨hK,hA,ai,hgd⟩,ah⟩:=hK;refine ih (listed.setIfInBounds j true) fr' ob' (hd.set hj) ah aa (ready_mono hr (U0 I)) ⟨fun fr2 ob2 e1 e2 e3 K an=>?_,hy.new,fun id hid=>?_⟩ ?_
   · exact hy.run fr2 ob2 (fun x hx=>(e1 x hx).trans (ai x hx)) (e2.trans hgd) (fun id hid=>(e3 id hid).trans (hA id hid)) K an
   · rw[hA id hid];exact hy.live id hid
   · rw[Array.setIfInBounds_comm _ _ I];exact hK
def pU (P:Program)(ops:Array Oper)(nx:Nat)(wt:Nat→Nat→Bool)(Q:Fr→Ob→Prop):List Nat→lT→Fr→Ob→Prop
 |[],_,fr,ob=>Q fr ob
 |i::rest,C,fr,ob=>eE P ops nx (lC ops nx wt C i) i (pU P ops nx wt Q rest (match ops[i]? with
   |some o=>if isEff o.op=true then C else(i,if hguard ops o fr=some true then touch o.op (ev fr)else [])::C
   |none=>C)) fr ob
def lV (ops:Array Oper):List Nat→Array Bool→Bool
 |[],listed=>(Region.ready .any ops listed).isEmpty
 |i::rest,listed=>
  (match ops[i]? with
   |some o=>if isEff o.op then decide (Region.ready .any ops listed=[i])else(Region.ready .any ops listed).contains i&&Region.free .any ops listed i
   |none=>false)&&lV ops rest (listed.setIfInBounds i true)
theorem nF {P:Program}{ops:Array Oper}{nx:Nat}{wt:Nat→Nat→Bool}{Q:Fr→Ob→Prop}(hw:cD8 ops wt): ∀(J:List Nat) (C:lT) (listed:Array Bool) (fr:Fr) (ob:Ob),lV ops J listed=true→Down ops listed→Fresh nx listed ob→
  pU P ops nx wt Q J C fr ob→aB5 P ops nx wt Q J.length C listed fr ob
 |[],C,listed,fr,ob,hp,_,_,h=>⟨by simpa[lV]using hp,h⟩
 |i::rest,C,listed,fr,ob,hp,hd,hf,h=>by
  simp only[lV,B3]at hp;obtain⟨I,ae⟩:=hp;cases ho:ops[i]? with
  |none=>grind
  |some o=>
   rw[ho]at I;simp only at I;have h':=yG hf h;by_cases he:isEff o.op=true
   ·
    rw[B1 he,C4]at I;have hi:i∈Region.ready .any ops listed:=by rw[I];simp
    refine⟨fun h0=>(by grind),fun j hj=>?_⟩;rw[I]at hj;have ag:j=i:=by simpa using hj
    subst ag;refine lU (fun x hx=>hx) (fun fr' ob' U=>?_) h';obtain⟨U,ab⟩:=U;simp only[ho,he,G4]at U;exact nF hw rest C _ fr' ob' ae (hd.set hi) ab U
   ·
    rw[A7 he,B3]at I;have hi:i∈Region.ready .any ops listed:=by simpa using I.1
    have aa:=Region.free_spec ho I.2;have af:isEff o.op=false:=by simpa using he
    have hy: ∃v u,Yld P ops nx (lC ops nx wt C i) i o fr ob v u (if hguard ops o fr=some true then touch o.op (ev fr)else [])∧
      (pU P ops nx wt Q rest ((i,if hguard ops o fr=some true then touch o.op (ev fr)else [])::C) (updo fr o.dst v) (app u ob)∧Fresh nx (listed.setIfInBounds i true) (app u ob)):=by
     unfold eE at h';rw[ho]at h';simp only[af,G9,L8]at h';cases hg:hguard ops o fr with
     |none=>grind
     |some b=>
      rw[hg]at h';cases b with
      |false=>
       refine⟨.tup [],none,⟨fun fr2 ob2 e1 e2 e3 K U=>?_,by simp,by simp⟩,?_⟩;all_goals grind[eE,app]
      |true=>
       simp only at h';unfold fD at h';have hc:hcallOf o.op=none:=by
        cases hop:o.op<;>simp only[hcallOf];rename_i c;cases ah:c.callee with
        |value f=>grind[isEff]
        |_=>rfl
       rw[hc]at h';simp only at h';obtain⟨ht,h'⟩:=h';obtain⟨v,u,U,ad,hid⟩:=rA h';refine⟨v,u,⟨fun fr2 ob2 e1 e2 e3 K U=>?_,fun p hp=>?_,fun id hid=>?_⟩,?_⟩
       · unfold eE;rw[ho];simp only[e2,hg];refine uD (e:=ev fr) e1 ?_;unfold fD;rw[hc];simp only[G4]at e3⊢;exact⟨fun id hid=>⟨(ht id hid).1,by rw[e3 id hid];grind⟩,ad ob2 e3 _ U⟩
       ·
        rcases hid p hp with h1|⟨h1,_⟩
        · exact h1
        · rw[af]at h1;cases h1
       · simp only[G4]at hid;exact(ht id hid).2
       grind
    obtain⟨v,u,hy,U,ab⟩:=hy;exact aX8 ho hw rest.length listed fr ob hd hf aa hi hy (nF hw rest _ _ _ _ ae (hd.set hi) ab U)
def Ctx.F (c:Ctx):Fence:={Fence.wide with round:=c.R}
variable {f:FuncId}{n:Nat}
theorem bU3 {c:Ctx}{args:Array Value}{w:World}{R:Ending→World→Prop}(h:Calls P f args w R):CallsIn c.F n P f args w R:=by
 have I:=(callsIn_wide (n:=n)).2 h;unfold Ctx.F;cases c.R with
 |none=>exact I
 |some l=>exact I.inRound l
section
variable {P:Program}{c:Ctx}{M M':Nat→Prop}{fr:Fr}{ob:Ob}{a:Act}{w:World}{ρ:Env}
theorem bU4 {a:Act}{d:Nat}{v:Value}(h:a.tmps.getD d undef=v)(I:v≠undef):a.tmps[d]? =some v:=by
 rw[K8]at h;grind
theorem sC (h:RepA' c M fr ob a w ρ){ops:Array Oper}{o:Oper}{b:Bool}(I:hguard ops o fr=some b):Region.wanted o (yielded ops a.tmps)=b:=by
 unfold hguard at I;unfold Region.wanted;split at I
 · grind
 ·
  rename_i j want hn;rw[hn];split at I
  ·
   rename_i d hd;split at I
   · rename_i t U;cases I;have J:=h.f d (by grind);rw[U]at J;have:=bU4 J.bool (by simp[undef]);grind[yielded]
   ·
    rename_i l U;cases I;have J:=dO (h.f d (by grind)) (by rw[U];rfl);rw[U]at J;simp only[RepH,F8,J9]at J;obtain⟨⟨xs,hx,_⟩,_⟩:=J;have:yielded ops a.tmps j=none:=by
     simp only[yielded,hd,J0];rw[K8]at hx;cases hq:a.tmps[d]? with
     |none=>rfl
     |some y=>grind
    grind
   grind
  grind
theorem uE {w:World}{ρ:Env}{O:Nat→Prop}: ∀{l J:List HV} {xs I:List Value},RepHV w ρ O l xs→RepHV w ρ O J I→RepHV w ρ O (l++J) (xs++I)
 |[],_,xs,I,h,h'=>by grind[RepHV]
 |v::vs,J,xs,I,h,h'=>by
  rw[bJ]at h;obtain⟨z,zs,rfl,U,h2⟩:=h;rw[J4,bJ];exact⟨z,zs++I,rfl,U,uE h2 h'⟩
theorem aK9 (h:RepA' c M fr ob a w ρ): ∀(l:List Operand),(∀x∈l,ev fr x≠ .junk)→RepHV w ρ (Owned ρ c.X) (l.map fun x=>(ev fr x).den) (l.map a.eval)
 |[],_=>by simp[RepHV]
 |x::xs,hj=>by
  simp only[B8,bJ];exact⟨_,_,rfl,HV.den_rep (h.ev x (hj _ (by simp))),aK9 h xs (fun y I=>hj y (by grind))⟩
theorem cD9 (h:RepA' c M fr ob a w ρ)(nd:Bool)(l:List Operand)(I: ∀x∈l,ev fr x≠ .junk):RepHV w ρ (Owned ρ c.X) (l.map fun x=>dn nd (ev fr x)) (l.map a.eval):=by
 cases nd with
 |false=>exact aK9 h l I
 |true=>
  induction l with
  |nil=>simp[RepHV]
  |cons x xs J=>
   simp only[B8,bJ];exact⟨_,_,rfl,h.ev x (I _ (by simp)),J fun y U=>I y (by grind)⟩
theorem aR8 {Q:Exit→Act→World→Prop}(h:RepA' c M fr ob a w ρ){nid:Nat}(hnid: ∀t,t<4→ ¬M (nid+t))(hM: ∀i,M i→M' i)(hM': ∀t,t<4→M' (nid+t)){av:List Nat}{o:Oper}{K:HV→Ob→Prop}
  (hl:fD P av nid o.op (ev fr) ob K) (hd: ∀k,o.dst=some k→k<c.n):o.wpIn c.F 0 P a w (fun a' w'=> ∃v ob',K v ob'∧RepA c M' (updo fr o.dst v) ob' a' w') Q:=by
 unfold fD at hl;split at hl
 ·
  rename_i f xs hc;obtain⟨hj,nd,hl⟩:=hl;have hop: ∃cl:Call,o.op= .call cl∧cl.callee= .value f∧cl.args.toList=xs:=by
   unfold hcallOf at hc;split at hc
   · grind
   · grind
  obtain⟨cl,hocl,hcal,hargs⟩:=hop;have hr:=cD9 h nd xs hj;have hargs':cl.args.map a.eval=(xs.map a.eval).toArray:=by grind
  have fin: ∀(g:FuncId) (first:Array Value) (caps:List Value) (extra:List HV),a.eval f= .func (.func g) #[] caps.toArray→RepHV w ρ (Owned ρ c.X) extra caps→HV.menL M extra→HCallL P av g ((xs.map fun x=>dn nd (ev fr x))++extra) ob nid K→
    o.wpIn c.F 0 P a w (fun a' w'=> ∃v ob',K v ob'∧RepA c M' (updo fr o.dst v) ob' a' w') Q:=by
   intro g first caps extra hf hex _ hcallx
   have happ:RepHV w ρ (Owned ρ c.X) ((xs.map fun x=>dn nd (ev fr x))++extra) (xs.map a.eval++caps):=uE hr hex;obtain⟨hok,hcalls⟩:=aX3 h hnid hM hM' happ hcallx o.dst hd;refine⟨fun _ _=>trivial,?_⟩;rw[U9 _ _ _ (by grind)];have hnn: ∃fn,P.funcs[g]? =some fn∧fn.name≠ "runtime.NumGoroutine" :=by
    unfold bT6 at hok;cases hfn:P.funcs[g]? with
    |none=>rw[hfn]at hok;cases hok
    |some fn=>
     rw[hfn]at hok;exact⟨fn,rfl,by simpa using hok⟩
   obtain⟨fn,hfn,hnm⟩:=hnn;rcases hcalls with⟨hok,hcalls⟩|⟨_,y,hrn,hcalls⟩
   rotate_left
   ·
    obtain⟨y',v,ob',ρ',e,hK,hA⟩:=hcalls;cases e;have hrun:(execOp a.eval o).run P w= .ok (.value y) w:=by
     rw[←hrn];simp[execOp,hocl,resolve,hcal,hf,Deferred.ofValue,invoke,hargs']
    rw[hrun];exact⟨v,ob',hK,ρ',hA⟩
   have hrun:(execOp a.eval o).run P w= .ok (.enter g (xs.map a.eval++caps).toArray) w:=by
    unfold fC at hok;cases hfn:P.funcs[g]? with
    |none=>rw[hfn]at hok;cases hok
    |some fn=>
     rw[hfn]at hok;simp only[B3,N1]at hok;have hb:fn.body≠none:=by intro e;rw[e]at hok;simp at hok
     have hnm:fn.name≠ "runtime.NumGoroutine" :=by simpa using hok.2
     simp[execOp,hocl,resolve,hcal,hf,Deferred.ofValue,invoke,callFunc,hfn,hnm,hb,hargs']
   rw[hrun];simp only[Oper.uponIn];refine⟨fun h=>(by cases h),bU3 (hcalls.mono ?_)⟩;rintro e w' ⟨y,v,ob',ρ',rfl,hK,hA⟩;exact⟨v,ob',hK,ρ',hA⟩
  split at hl
  · rename_i g hf;have hrf:=h.ev f (by grind);rw[hf]at hrf;have:=hrf.single rfl;simp only[RepC,F8,J9]at this;exact fin g #[] [] [] this (by simp[RepHV]) (by simp[HV.menL]) (by grind)
  · rename_i g caps hf;have hrf:=dO (h.ev f (by grind)) (by rw[hf];rfl);have hm:=h.evm f;rw[hf]at hrf hm;simp only[RepH,F8,J9,HV.men]at hrf hm;obtain⟨⟨ys,hy,hys⟩,_⟩:=hrf;exact fin g #[] ys caps hy hys hm hl
  grind
 ·
  obtain⟨_,hl⟩:=hl;have hnd: ∀c,o.op≠ .defer c:=by
   intro cc hcc;rw[hcc]at hl;rcases hl with hl|⟨id,hm,hl⟩|hl<;>exact hl
  rcases hl with hl|⟨id,hm,hl⟩|hl
  rotate_left 2
  ·
   obtain⟨y,w',⟨v,ob',ρ',hK,hA⟩,hr⟩:=bH4 (M':=M') h (by simpa using hnid 0 (by omega)) hM (by simpa using hM' 0 (by omega)) hl hd;refine⟨fun _ _=>trivial,?_⟩;rw[U9 _ _ _ hnd];rcases hr with hr|⟨hr,rfl⟩
   · rw[hr];exact⟨v,ob',hK,ρ',hA⟩
   · rw[hr];exact⟨v,ob',hK,ρ',hA⟩
  ·
   obtain⟨y,w',⟨v,ob',ρ',hK,hA⟩,hr⟩:=aK3 (M':=M') h (by simpa using hnid 0 (by omega)) hM (by simpa using hM' 0 (by omega)) hl hd;refine⟨fun _ _=>trivial,?_⟩;rw[U9 _ _ _ hnd];rcases hr with hr|⟨hr,rfl⟩
   · rw[hr];exact⟨v,ob',hK,ρ',hA⟩
   · rw[hr];exact⟨v,ob',hK,ρ',hA⟩
  ·
   obtain⟨y,w',⟨v,ob',ρ',⟨n,el,sz,l,rfl,rfl,hn,hK⟩,hA⟩,hr⟩:=aK3 (M':=M') h (by simpa using hnid 0 (by omega)) hM (by simpa using hM' 0 (by omega)) hl hd;obtain⟨ρ2,hA2⟩:=hA.die hn;refine⟨fun _ _=>trivial,?_⟩;rw[U9 _ _ _ hnd];rcases hr with hr|⟨hr,rfl⟩
   · rw[hr];exact⟨_,_,hK,ρ2,hA2⟩
   · rw[hr];exact⟨_,_,hK,ρ2,hA2⟩
end
section
variable {P:Program}{c:Ctx}{M M':Nat→Prop}{fr:Fr}{ob:Ob}{a:Act}{w:World}{ρ:Env}
theorem RepA.mono (h:RepA c M fr ob a w)(I: ∀i,M i→M' i):RepA c M' fr ob a w:=let⟨ρ,h⟩:=h;⟨ρ,h.weaken I⟩
theorem bU5 (w:World)(ρ:Env)(O:Nat→Prop):RepV w ρ O (.tup []) undef:=⟨by simp only[RepH];exact⟨[],rfl,by simp[RepHV]⟩,rfl⟩
theorem mT {Q:Exit→Act→World→Prop}{ops:Array Oper}{nx i:Nat}{av:List Nat}{K:Fr→Ob→Prop}(h:RepA c M fr ob a w)(J: ∀t,t<4→ ¬M (nx+4*i+t))(hM: ∀i,M i→M' i)(U: ∀t,t<4→M' (nx+4*i+t))
  (hd: ∀o∈ops,∀k,o.dst=some k→k<c.n) (hl:eE P ops nx av i K fr ob):wpOpIn c.F 0 P ops Q i (fun a' w'=> ∃fr' ob',K fr' ob'∧RepA c M' fr' ob' a' w') a w:=by
 obtain⟨ρ,h⟩:=h;unfold eE at hl;unfold wpOpIn;cases ho:ops[i]? with
 |none=>grind
 |some o=>
  rw[ho]at hl;simp only at hl⊢;have I:=hd o (P2 ho);cases hg:hguard ops o fr with
  |none=>grind
  |some b=>
   rw[hg]at hl;rw[sC h hg];cases b with
   |true=>
    simp only[G4]at hl⊢;refine Oper.wpIn_mono (fun a' w' hx=>?_) (aR8 (Q:=Q) h J hM U hl I);grind
   |false=>
    simp only[G9,L8]at hl⊢;exact⟨fun _ _=>trivial,_,ob,hl,ρ,(h.value (.inr (bU5 _ _ _)) (by simp[HV.men,HV.menL]) I).weaken hM⟩
def hlexG (P:Program)(ops:Array Oper)(nx:Nat)(Q:Fr→Ob→Prop):List Nat→Fr→Ob→Prop
 |[],fr,ob=>Q fr ob
 |i::rest,fr,ob=>eE P ops nx [] i (hlexG P ops nx Q rest) fr ob
theorem pV {Q:Exit→Act→World→Prop}{ops:Array Oper}{nx:Nat}{K:Fr→Ob→Prop}(J: ∀o∈ops,∀k,o.dst=some k→k<c.n)(N:Nat)
  (I: ∀fr ob a w,K fr ob→RepA c (· <nx+4*N) fr ob a w→Q .normal a w): ∀(n k:Nat) (fr:Fr) (ob:Ob) (a:Act) (w:World),k+n=N→RepA c (· <nx+4*k) fr ob a w→hlexG P ops nx K (List.range' k n) fr ob→wpOpsIn c.F 0 P ops Q (List.range' k n) a w
 |0,k,fr,ob,a,w,hk,h,hl=>by
  simp only[AJ,hlexG,wpOpsIn]at hl⊢;exact I fr ob a w hl (by simp_all)
 |n+1,k,fr,ob,a,w,hk,h,hl=>by
  simp only[U2,hlexG,wpOpsIn_cons]at hl⊢;refine wpOpIn_mono (fun a' w' hx=>?_) (mT (Q:=Q) (M':=(· <nx+4*(k+1))) h (fun t ht=>by omega) (fun i hi=>by omega) (fun t ht=>by omega) J hl);obtain⟨fr',ob',U,hA⟩:=hx;exact pV J N I n (k+1) fr' ob' a' w' (by omega) hA U
def hstep (P:Program)(av:List Nat)(nid:Nat)(o:Op)(e:Operand→HV)(ob:Ob)(K:HV→Ob→Prop):Prop:=
 match hcallOf o with
 |some (f,xs)=>(∀x∈xs,e x≠ .junk)∧match e f with
  | .c (.fn g)=>HCall P av g (xs.map fun x=>(e x).den) ob nid K
  | .clo g caps=>HCall P av g ((xs.map fun x=>(e x).den)++caps) ob nid K
  |_=>False
 |none=>(∀id∈touch o e,id∉av∧(ob id).isSome=true)∧hop P nid o e ob K
def hopI (P:Program)(ops:Array Oper)(nx:Nat)(av:List Nat)(i:Nat)(K:Fr→Ob→Prop)(fr:Fr)(ob:Ob):Prop:=
 match ops[i]? with
 |none=>False
 |some o=>match hguard ops o fr with
  |some true=>hstep P av (nx+4*i) o.op (ev fr) ob fun v ob'=>K (updo fr o.dst v) ob'
  |some false=>K (updo fr o.dst (.tup [])) ob
  |none=>False
def hlex (P:Program)(ops:Array Oper)(nx:Nat)(Q:Fr→Ob→Prop):List Nat→Fr→Ob→Prop
 |[],fr,ob=>Q fr ob
 |i::rest,fr,ob=>hopI P ops nx [] i (hlex P ops nx Q rest) fr ob
theorem cS4 {P:Program}{av:List Nat}{nid:Nat}{o:Op}{e:Operand→HV}{ob:Ob}{K:HV→Ob→Prop}(h:hstep P av nid o e ob K):fD P av nid o e ob K:=by
 unfold hstep at h;unfold fD;cases J:hcallOf o with
 |some p=>
  rw[J]at h;refine⟨h.1,false,?_⟩;have h:=h.2;split at h
  · rename_i g I;first|(rw[I];exact h.L)|exact h.L
  · rename_i g caps I;first|(rw[I];exact h.L)|exact h.L
  grind
 |none=>rw[J]at h;exact⟨h.1,.inl h.2⟩
theorem sY {P:Program}{ops:Array Oper}{nx:Nat}{av:List Nat}{i:Nat}{K I:Fr→Ob→Prop}{fr:Fr}{ob:Ob}(J: ∀fr ob,K fr ob→I fr ob)(h:hopI P ops nx av i K fr ob):eE P ops nx av i I fr ob:=by
 refine lU (K:=K) (fun _ hx=>hx) J ?_;grind[hopI,eE,hguard,cS4]
theorem aR9 {P:Program}{ops:Array Oper}{nx:Nat}{Q:Fr→Ob→Prop}: ∀{l:List Nat} {fr:Fr} {ob:Ob},hlex P ops nx Q l fr ob→hlexG P ops nx Q l fr ob
 |[],_,_,h=>h
 |_::_,_,_,h=>sY (fun _ _=>aR9) h
def cS5 (nx:Nat)(listed:Array Bool)(id:Nat):Prop:=id<nx∨ ∃i t,listed.getD i false=true∧t<4∧id=nx+4*i+t
theorem aX9 {Q:Exit→Act→World→Prop}{ops:Array Oper}{nx:Nat}{wt:Nat→Nat→Bool}{K:Fr→Ob→Prop}{C:lT}(hd: ∀o∈ops,∀k,o.dst=some k→k<c.n)
  (hQ: ∀fr ob a w,K fr ob→RepA c (· <nx+4*ops.size) fr ob a w→Q .normal a w): ∀(n:Nat) (listed:Array Bool) (fr:Fr) (ob:Ob) (a:Act) (w:World),listed.size=ops.size→RepA c (cS5 nx listed) fr ob a w→
  aB5 P ops nx wt K n C listed fr ob→wpAnyIn c.F 0 P .any ops Q n listed a w:=by
 have fin: ∀(listed:Array Bool) fr ob a w,listed.size=ops.size→K fr ob→RepA c (cS5 nx listed) fr ob a w→Q .normal a w:=fun listed fr ob a w hs hK I=>by
  refine hQ fr ob a w hK (I.mono (fun id hid=>?_));rcases hid with h|⟨i,t,J,h2,rfl⟩;all_goals grind
 intro n;induction n with
 |zero=>intro listed fr ob a w hs I h;exact⟨h.1,fin listed fr ob a w hs h.2 I⟩
 |succ n ih=>
  intro listed fr ob a w hs I h;refine⟨fun h0=>fin listed fr ob a w hs (h.1 h0) I,fun i hi=>?_⟩;obtain⟨hun,oi,aa,_⟩:=BL.1 hi;have U:i<listed.size:=by rw[hs];exact(G1.1 aa).1
  have ab:listed.getD i false=false:=by simpa[U]using hun
  refine wpOpIn_mono (fun a' w' hx=>?_) (mT (Q:=Q) (M':=cS5 nx (listed.setIfInBounds i true)) I (fun t ht=>?_) (fun id hid=>?_) (fun t ht=>?_) hd (h.2 i hi))
  · grind
  · rintro(J|⟨j,t',J,h2,h3⟩);all_goals grind
  ·
   rcases hid with J|⟨j,t',J,h2,h3⟩
   · exact .inl J
   · exact .inr ⟨j,t',getD_set_true J,h2,h3⟩
  · exact .inr ⟨i,t,by simp[U],ht,rfl⟩
end
def gQ (n:Nat)(ops:Array Oper):Bool:=decide (ops.size≤2500)&&ops.all fun o=>match o.dst with|some k=>decide (k<n)|none=>true
theorem jL (h:gQ n ops=true): ∀o∈ops,∀k,o.dst=some k→k<n:=by
 intro o I k J;unfold gQ at h;rw[B3]at h;grind[Array.all_eq_true_iff_forall_mem]
theorem bH9 (h:gQ n ops=true):ops.size≤2500:=by simp_all[gQ,B3,C4]
def aS0 (ms:List Nat)(j i:Nat):Bool:=(ms.getD j 0).testBit i
def aY0 (ops:Array Oper)(ms:List Nat):Bool:=
 (List.range ms.length).all fun j=>(List.range ms.length).all fun i=>!(aS0 ms j i)||
  match ops[j]? with
  |some o=>o.after.any fun e=>Region.binds .any e&&(e.on==i||(decide (e.on<j)&&aS0 ms e.on i))
  |none=>false
theorem aY1 {m:Nat}(h:m<2^n)(hi:n≤i):m.testBit i=false:=Nat.testBit_lt_two_pow (I0 h (BF (by omega) hi))
theorem bI0 {ms:List Nat}(h:aY0 ops ms=true)(hm:ms.all (fun m=>decide (m<2^ms.length))=true)(I:ops.size≤2500):cD8 ops (aS0 ms):=by
 refine⟨I,fun j i hw=>?_⟩;have J:j<ms.length:=by
  rcases H4 j ms.length with h'|h'
  · grind
  · grind[aS0,List.getElem?_eq_none]
 have hi:i<ms.length:=by
  rcases H4 i ms.length with h'|h'
  · grind
  · grind[List.all_eq_true,aS0,aY1]
 have U:=G5.1 (G5.1 h j (N5.2 J)) i (N5.2 hi);grind
abbrev eI :=Exit→Fr→Ob→Nat→Prop
def eA :Code→Bool
 | .rangeFunc .. =>false
 | .seq x y=>eA x&&eA y
 | .cond _ x y=>eA x&&eA y
 | .block _ x=>eA x
 | .loop x=>eA x
 | .scope x=>eA x
 |_=>true
def Ctx.fit (c:Ctx)(code:Code):Prop:=c.may=true∧c.R=none∨eA code=true
section
variable {c:Ctx}{x y:Code}
theorem Ctx.fit.seq1 (h:c.fit (.seq x y)):c.fit x:=h.imp id fun h=>by simp_all[eA,B3]
theorem Ctx.fit.seq2 (h:c.fit (.seq x y)):c.fit y:=h.imp id fun h=>by simp_all[eA,B3]
theorem Ctx.fit.cond1 {o:Operand}(h:c.fit (.cond o x y)):c.fit x:=h.imp id fun h=>by simp_all[eA,B3]
theorem Ctx.fit.cond2 {o:Operand}(h:c.fit (.cond o x y)):c.fit y:=h.imp id fun h=>by simp_all[eA,B3]
theorem Ctx.fit.block {id:Nat}(h:c.fit (.block id x)):c.fit x:=h.imp (fun h=>h) fun h=>by grind[eA]
theorem Ctx.fit.loop (h:c.fit (.loop x)):c.fit x:=h.imp id fun h=>by grind[eA]
theorem Ctx.fit.scope (h:c.fit (.scope x)):c.fit x:=h.imp id fun h=>by grind[eA]
end
def Hw (P:Program)(n k:Nat)(code:Code)(Q:eI)(fr:Fr)(ob:Ob)(nx:Nat):Prop:=
 ∀(c:Ctx) (a:Act) (w:World),c.n=n→c.M0=(· <k)→c.fit code→RepA c (· <nx) fr ob a w→code.wpIn c.F 0 P (fun e a' w'=> ∃fr' ob' nx',Q e fr' ob' nx'∧RepA c (· <nx') fr' ob' a' w') a w
def hthen (K:Fr→Ob→Nat→Prop)(Q:eI):eI
 | .normal=>K
 |e=>Q e
def hblk (id:Nat)(Q:eI):eI
 | .exit id'=>if id'=id then Q .normal else Q (.exit id')
 |e=>Q e
section
variable {P:Program}{n k:Nat}{Q:eI}{fr:Fr}{ob:Ob}{nx:Nat}
theorem Hw.mono {code:Code}{J:eI}(h:Hw P n k code Q fr ob nx)(hq: ∀e fr ob nx,Q e fr ob nx→J e fr ob nx):Hw P n k code J fr ob nx:=
 fun c a w hn hk hz U=>R3 (h c a w hn hk hz U) (fun _ _ _ ⟨fr',ob',I,h1,h2⟩=>⟨fr',ob',I,hq _ _ _ _ h1,h2⟩)
theorem aG (h:Q .normal fr ob nx):Hw P n k .skip Q fr ob nx:=fun _ _ _ _ _ _ I=>wpIn_skip ⟨fr,ob,nx,h,I⟩
theorem cE0 {l:Nat}(h:Q .normal fr ob nx):Hw P n k (.label l) Q fr ob nx:=fun _ _ _ _ _ _ I=>wpIn_label ⟨fr,ob,nx,h,I⟩
theorem aV {id:Nat}(h:Q (.exit id) fr ob nx):Hw P n k (.exit id) Q fr ob nx:=fun _ _ _ _ _ _ I=>wpIn_exit ⟨fr,ob,nx,h,I⟩
theorem aE (h:Q .ret fr ob nx):Hw P n k .ret Q fr ob nx:=fun _ _ _ _ _ _ I=>wpIn_ret ⟨fr,ob,nx,h,I⟩
theorem aC {x y:Code}(h: ∀K:Fr→Ob→Nat→Prop,(∀fr ob nx,Hw P n k y Q fr ob nx→K fr ob nx)→Hw P n k x (hthen K Q) fr ob nx):Hw P n k (.seq x y) Q fr ob nx:=by
 intro c a w hn J hz hA;have:=h (Hw P n k y Q) (fun _ _ _ h=>h) c a w hn J hz.seq1 hA;refine wpIn_seq (R3 this fun e a' w' hx=>?_);obtain⟨fr',ob',I,U,h2⟩:=hx;cases e with
 |normal=>exact U c a' w' hn J hz.seq2 h2
 |_=>exact⟨fr',ob',I,U,h2⟩
theorem aJ {x y:Code}{o:Operand}{b:Bool}(hb:ev fr o= .c (.bool b))(h1:b=true→Hw P n k x Q fr ob nx)(h2:b=false→Hw P n k y Q fr ob nx):Hw P n k (.cond o x y) Q fr ob nx:=by
 intro c a w hn U J hA;obtain⟨ρ,I⟩:=hA;have:=qU I hb;exact wpIn_cond_split this (fun e=>h1 e c a w hn U J.cond1 ⟨ρ,I⟩) (fun e=>h2 e c a w hn U J.cond2 ⟨ρ,I⟩)
theorem aL {id:Nat}{x:Code}(h:Hw P n k x (hblk id Q) fr ob nx):Hw P n k (.block id x) Q fr ob nx:=by
 intro c a w hn hk hz U;refine wpIn_block (R3 (h c a w hn hk hz.block U) fun e a' w' hx=>?_);obtain⟨fr',ob',I,J,h2⟩:=hx;cases e with
 |exit id'=>
  simp only[Exit.inBlock,hblk]at J⊢;grind
 |_=>exact⟨fr',ob',I,J,h2⟩
theorem aY {id:Nat}{ops:Array Oper}(hd:gQ n ops=true)(h:hlexG P ops nx (fun fr' ob'=>Q .normal fr' ob' (nx+4*ops.size)) (List.range ops.size) fr ob):Hw P n k (.region id ops false) Q fr ob nx:=by
 intro c a w hn hk hz U;refine DR ?_;rw[Q3]at h⊢;exact pV (c:=c) (by rw[hn];exact jL hd) ops.size (fun fr' ob' a' w' J I=>⟨fr',ob',_,J,I⟩) ops.size 0 fr ob a w (by omega) U h
theorem aM {id:Nat}{ops:Array Oper}(I:gQ n ops=true)(h:hlex P ops nx (fun fr' ob'=>Q .normal fr' ob' (nx+4*ops.size)) (List.range ops.size) fr ob):Hw P n k (.region id ops false) Q fr ob nx:=
 aY I (aR9 h)
theorem bO0 {id:Nat}{ops:Array Oper}(hm:P.follows .mixedOrders=true)(J ms:List Nat)(hd:gQ n ops=true)(hp:lV ops J (Array.replicate ops.size false)=true)(ae:aY0 ops ms=true)(ag:ms.all (fun m=>decide (m<2^ms.length))=true)(hl:J.length=ops.size)
  (h:pU P ops nx (aS0 ms) (fun fr' ob'=>Q .normal fr' ob' (nx+4*ops.size)) J [] fr ob):Hw P n k (.region id ops true) Q fr ob nx:=by
 intro c a w hn hk hz hA;refine wpIn_region_any hm ?_;have af:RepA c (cS5 nx (Array.replicate ops.size false)) fr ob a w:=hA.mono (fun i hi=> .inl hi);have U:Fresh nx (Array.replicate ops.size false) ob:=by
  intro j _ t _;obtain⟨ρ,ab⟩:=hA;exact(ab.nid_none (nid:=nx+4*j+t) (by omega)).1
 have ad:Down ops (Array.replicate ops.size false):=by
  intro j o _ hl;rw[getD_replicate_false]at hl;cases hl
 have aa:=nF (bI0 ae ag (bH9 hd)) J [] _ fr ob hp ad U h;rw[hl]at aa;obtain⟨ρ,I⟩:=af;refine aX9 (c:=c) (by rw[hn];exact jL hd) (fun fr' ob' a' w' hK ab=>⟨fr',ob',_,hK,ab⟩) ops.size _ fr ob a _ (by simp) ⟨ρ,?_⟩ aa;exact⟨⟨fun id o ho=>by
   have:=I.s.objs id o ho;exact RepO.stay (w:=w) (ρ:=ρ) (M:=fun _=>True) ⟨fun b hb hO=>⟨rfl,hO⟩⟩ (Moves.refl _ _) (by cases o with|box t v=>exact HV.men_mono (fun _ _=>trivial) (I.mo id _ ho).2|row _ _ _=>trivial|mp _ _ _=>trivial|dead=>trivial|tab _=>trivial|hrow _ _ _=>exact HV.menL_mono (fun _ _=>trivial) (I.mo id _ ho).2|raw _ _=>trivial|it _ _ _ _=>trivial) rfl (fun _ _ _ _=>rfl) this,I.s.none,I.s.apart,I.s.xb⟩,
  fun t ht=>⟨RepH.stay (w:=w) (w':={w with drawn:=w.drawn+1}) (ρ:=ρ) (O:=Owned ρ c.X) (M:=fun _=>True) ⟨fun b hb hO=>⟨rfl,hO⟩⟩ (Moves.refl _ _) (HV.men_mono (fun _ _=>trivial) (I.mf t)) (I.f t ht).1,(I.f t ht).2⟩,I.mf,I.mo,I.m0,
  ⟨I.base.block,I.base.own,I.base.size,I.base.os,I.base.tape,I.base.output⟩,I.moves,I.defers,I.size,I.xlt⟩
structure Fits (k:Nat)(fr:Fr)(ob:Ob)(fr2:Fr)(ob2:Ob)(nx2:Nat):Prop where
 f: ∀t,fr2 t= .junk∨fr2 t=fr t
 o: ∀id o,ob2 id=some o→ob id=some o
 mf: ∀t,(fr2 t).men (· <nx2)
 mo: ∀id o,ob2 id=some o→id<nx2∧o.men (· <nx2)
 k:k≤nx2
theorem RepA.fits {c:Ctx}{a:Act}{w:World}{fr2:Fr}{ob2:Ob}{nx2:Nat}{M:Nat→Prop}(hk:c.M0=(· <k))(h:RepA c M fr ob a w)(hf:Fits k fr ob fr2 ob2 nx2):RepA c (· <nx2) fr2 ob2 a w:=by
 obtain⟨ρ,h⟩:=h
 let U:Env:=fun id=>match ob2 id with|some _=>ρ id|none=>none
 have I: ∀id L,U id=some L→ρ id=some L:=fun id L hL=>by grind
 have J: ∀b,Own U b→Own ρ b:=fun b ⟨id,L,h1,h2⟩=>⟨id,L,I id L h1,h2⟩;have ab:Stay w (Owned ρ c.X) w (Owned U c.X):=Stay.same (fun b _ hb=>hb.imp id (J b));have aa: ∀M,Moves M ρ U:=fun M id L _ hL=>⟨L,I id L hL,.inl rfl⟩;refine⟨U,⟨fun id o ho=>?_,fun id hid=>?_,fun id id' L L' b h1 h2 h3 h4=>h.s.apart id id' L L' b (I _ _ h1) (I _ _ h2) h3 h4,fun id L b h1 h2=>h.s.xb id L b (I _ _ h1) h2⟩,fun t ht=>?_,hf.mf,hf.mo,?_,?_,?_,h.defers,h.size,h.xlt⟩
 ·
  have hid:U id=ρ id:=by simp only[U,ho]
  exact RepO.stay ab (aa M) (h.mo id o (hf.o id o ho)).2 hid (fun _ _ _ _=>rfl) (h.s.objs id o (hf.o id o ho))
 · grind
 ·
  rcases hf.f t with e|e
  · grind
  · rw[e]at ht⊢;exact⟨RepH.stay ab (aa M) (h.mf t) (h.f t ht).1,(h.f t ht).2⟩
 · intro id hid;rw[hk]at hid;exact I0 hid hf.k
 · exact h.base.trans ⟨fun _ _ _=>rfl,fun b hb=> .inl (J b hb),E3 _,rfl,rfl,rfl⟩
 · exact Moves.trans (fun _ h=>h) h.moves (aa _)
theorem aZ {code:Code}{fr2:Fr}{ob2:Ob}{nx2:Nat}(hf:Fits k fr ob fr2 ob2 nx2)(h:Hw P n k code Q fr2 ob2 nx2):Hw P n k code Q fr ob nx:=
 fun c a w hn I U J=>h c a w hn I U (J.fits I hf)
theorem bB {α:Type}{x:Code}(inv:α→Fr×Ob)(nx2:Nat)(μ:α→Nat)(x0:α)(h0:Fits k fr ob (inv x0).1 (inv x0).2 nx2)
  (round: ∀y,Hw P n k x (hthen (fun fr' ob' _=> ∃y',Fits k fr' ob' (inv y').1 (inv y').2 nx2∧μ y'<μ y) Q) (inv y).1 (inv y).2 nx2):Hw P n k (.loop x) Q fr ob nx:=by
 intro c a w hn hk hz hA b kk cs af U aa;have key: ∀(m:Nat) (y:α) (a:Act) (w:World),μ y=m→RepA c (· <nx2) (inv y).1 (inv y).2 a w→
   ∃e a' w',(∃fr' ob' ad,Q e fr' ob' ad∧RepA c (· <ad) fr' ob' a' w')∧ArrivesIn (Machine.fenced P c.F) P (lone (b.atR a (.code x:: .inLoop x::kk)) cs w) b kk cs e a' w':=by
  intro m;induction m using Nat.strongRecOn with
  |_ m ih=>
   intro y a w hy hA;obtain⟨e,a₁,w₁,J,I⟩:=round y c a w hn hk hz.loop hA b (.inLoop x::kk) cs af U aa;cases e with
   |normal=>
    obtain⟨fr',ob',ad,⟨y',hf,ah⟩,ae⟩:=J;obtain⟨e₂,a₂,w₂,ag,ab⟩:=ih (μ y') (by omega) y' a₁ w₁ rfl (ae.fits hk hf);exact⟨e₂,a₂,w₂,ag,.of_steps (BW I (.one (X4 U aa rfl) stepR_inLoop)) ab⟩
   |exit id=>exact⟨_,a₁,w₁,J,.pass (x:= .inLoop x) rfl (fun _ _=> .inl (by simp)) I⟩
   |goto l=>exact⟨_,a₁,w₁,J,.pass (x:= .inLoop x) rfl (fun _ _=> .inl (by simp)) I⟩
   |ret=>exact⟨_,a₁,w₁,J,.pass (x:= .inLoop x) rfl (fun _ _=> .inl (by simp)) I⟩
   |panic ch=>exact⟨_,a₁,w₁,J,.pass (x:= .inLoop x) rfl (fun _ _=> .inl (by simp)) I⟩
   |outgrown=>exact⟨_,a₁,w₁,J,.pass (x:= .inLoop x) rfl (fun _ _=> .inl (by simp)) I⟩
 obtain⟨e,a',w',J,I⟩:=key _ x0 a w rfl (hA.fits hk h0);exact⟨e,a',w',J,.of_steps (.one (X4 U aa rfl) stepR_loop) I⟩
end
def eQ (P:Program)(fr:Fr)(ob:Ob)(r:ResultVar)(K:HV→Prop):Prop:=
 match r with
 | .tmp t=>fr t≠ .junk∧K (fr t)
 | .cell t ty=>hlift (aP P ty) fun ti=>HO.isBox (match fr t with| .ptr id _=>ob id|_=>none)=true∧hload ti (fr t) ob K
def eF (P:Program)(fr:Fr)(ob:Ob):List ResultVar→(List HV→Prop)→Prop
 |[],K=>K []
 |r::rs,K=>eQ P fr ob r fun v=>eF P fr ob rs fun vs=>K (v::vs)
def dY (l:List HV):HV:=match l with|[v]=>v|l=> .tup l
def gR (k:Nat)(r:HV)(ob:Ob)(R:HV→Ob→Prop):Prop:=
 ∃(cl:List Nat) (τ:Nat→Nat) (r':HV) (ob':Ob),R r' ob'∧(r.close ob cl).norm=r'.ren τ∧(∀j,j<k→τ j=j)∧(∀i j,i<k+4→j<k+4→τ i=τ j→i=j)∧r'.men (· <k+4)∧
  ∀j o,ob' j=some o→j<k+4∧o.men (· <k+4)∧τ j∉cl∧ ∃o0,ob (τ j)=some o0∧(match o0 with| .box t v=>HO.box t (v.close ob cl).norm| .row e sz l=> .row e sz l| .mp e sz D=> .mp e sz D| .dead=> .dead| .tab T=> .tab T| .hrow e sz l=> .hrow e sz (HV.closeL ob cl l)| .raw es c=> .raw es c| .it m s q l=> .it m s q l)=o.ren τ
def eR (P:Program)(rs:List ResultVar)(k:Nat)(R:HV→Ob→Prop):eI:=fun e fr ob _=>
 match e with
 | .normal| .ret=>eF P fr ob rs fun vs=>gR k (dY vs) ob R
 |_=>False
section
variable {P:Program}{c:Ctx}{M:Nat→Prop}{fr:Fr}{ob:Ob}{a:Act}{w:World}{ρ:Env}
def cE1 (tm:Array Value)(r:ResultVar):Sem Value:=
 match r with
 | .tmp t=>pure (tm.getD t undef)
 | .cell ad t=>do loadVar t (←asAddr (tm.getD ad undef))
theorem aY2 (h:RepA' c M fr ob a w ρ){r:ResultVar}{K:HV→Prop}(hl:eQ P fr ob r K):
  ∃v x,K v∧RepV w ρ (Owned ρ c.X) v x∧(cE1 a.tmps r).run P w= .ok x w:=by
 cases r with
 |tmp t=>exact⟨_,_,hl.2,h.f t hl.1,rfl⟩
 |cell ad t=>
  simp only[eQ]at hl;rw[aD]at hl;obtain⟨ti,ht,I,hl⟩:=hl;obtain⟨u,y,J,hr,U,_⟩:=zY (P:=P) h ht (x:= .tmp ad) hl;refine⟨u,y,J,U,?_⟩;have hp: ∃p,a.tmps.getD ad undef= .pointer (some p):=by
   cases hf:fr ad with
   |ptr id off=>
    rw[hf]at I;obtain⟨b,_,he⟩:=lR (x:= .tmp ad) h hf I;exact⟨_,he⟩
   |_=>rw[hf]at I;cases I
  obtain⟨p,hp⟩:=hp;have aa:(Instr.loadAt t (.pointer (some p))).run P w= .ok y w:=by rw[←hp];exact hr
  grind[cE1,asAddr,Sem.run_bind,Sem.run_pure,Result.andThen_ok,Instr.loadAt,Instr.sureAddr]
theorem yH (h:RepA' c M fr ob a w ρ): ∀{rs:List ResultVar} {K:List HV→Prop},eF P fr ob rs K→
  ∃I xs,K I∧RepHV w ρ (Owned ρ c.X) I xs∧(rs.mapM (cE1 a.tmps)).run P w= .ok xs w
 |[],K,hl=>⟨[],[],hl,by simp[RepHV],by simp⟩
 |r::rs,K,hl=>by
  simp only[eF]at hl;obtain⟨v,x,U,hv,hr⟩:=aY2 h hl;obtain⟨I,xs,J,aa,ab⟩:=yH h U;refine⟨v::I,x::xs,J,by rw[bJ];grind,?_⟩;simp_all
theorem bU6 {w:World}{ρ:Env}{O:Nat→Prop}{I:List HV}{xs:List Value}(h:RepHV w ρ O I xs):RepV w ρ O (dY I) (if h:xs.toArray.size=1 then xs.toArray[0]else .tuple xs.toArray):=by
 match I,h with
 |[],h=>simp only[RepHV]at h;subst h;exact⟨by simp only[dY,RepH];exact⟨[],rfl,by simp[RepHV]⟩,rfl⟩
 |[v],h=>
  rw[bJ]at h;obtain⟨y,U,rfl,h1,J⟩:=h;simp only[RepHV]at J;subst J;simpa[dY]using h1
 |v::u::I,h=>
  have hlen: ∀{l:List HV} {xs:List Value},RepHV w ρ O l xs→xs.length=l.length:=by
   intro l;induction l with
   |nil=>intro xs h;simp only[RepHV]at h;simp[h]
   |cons x l ih=>intro xs h;rw[bJ]at h;obtain⟨y,U,rfl,_,J⟩:=h;simp[ih J]
  have hl:=hlen h;rw[dif_neg (by simp[hl])];exact⟨by simp only[dY,RepH];exact⟨xs,rfl,h⟩,rfl⟩
theorem RepA'.turn {o':Obj}{b:Nat}(h:RepA' c M fr ob a w ρ)(ha:a.defers=[])(ab: ∀t,¬Own ρ t∨t≠b)(aa: ¬CellsAt w b)(hn:c.w0.heap.size≤b):RepA' c M fr ob a (w.putObj b o') ρ:=by
 have I: ∀t,t≠b→(w.putObj b o').heap[t]? =w.heap[t]? :=fun t J=>World.putObj_heap_other J;have U:Stay w (Owned ρ c.X) (w.putObj b o') (Owned ρ c.X):=⟨fun t J hO=>⟨I t (fun e=>aa (e▸J)),hO⟩⟩;have ad:(w.putObj b o').heap.size=w.heap.size:=World.putObj_size;refine⟨⟨fun id x hx=>?_,h.s.none,h.s.apart,h.s.xb⟩,fun t J=>⟨RepH.stay U (Moves.refl M ρ) (h.mf t) (h.f t J).1,(h.f t J).2⟩,h.mf,h.mo,h.m0,?_,h.moves,?_,h.size,h.xlt⟩
 ·
  refine RepO.stay U (Moves.refl M ρ) (h.mo id x hx).2 rfl (fun L t h1 h2=>I t ?_) (h.s.objs id x hx);rcases ab t with h3|h3
  · exact absurd ⟨id,L,h1,h2⟩ h3
  grind
 · exact⟨fun t J hO=>by rw[I t (by omega)];exact h.base.block t J hO,h.base.own,by rw[ad];exact h.base.size,h.base.os,h.base.tape,h.base.output⟩
 grind[DefOk.nil]
def rB (w:World)(Ds:List Nat):World:=Ds.foldl (fun w b=>w.putObj b (.deferred none)) w
theorem RepA'.shut : ∀(J:List Nat) {w:World},RepA' c M fr ob a w ρ→a.defers=[]→J.Nodup→(∀b∈J,c.w0.heap.size≤b∧w.heap[b]? =some (.deferred (some [])))→RepA' c M fr ob a (rB w J) ρ
 |[],_,h,_,_,_=>h
 |b::J,w,h,ha,hn,hd=>by
  obtain⟨h1,h2⟩:=hd b H9;obtain⟨n1,n2⟩:=X8.1 hn;have U: ∀t,¬Own ρ t∨t≠b:=fun t=>by
   by_cases e:t=b
   · subst e;exact .inl fun ho=>wJ h.s ho h2
   · exact .inr e
  refine RepA'.shut J (h.turn ha U (fun⟨_,_,_,e⟩=>by rw[h2]at e;cases e) h1) ha n2 fun b' I=>⟨(hd b' (H2 _ I)).1,?_⟩;have aa:b'≠b:=by rintro rfl;exact n1 I
  exact(World.putObj_heap_other aa).trans (hd b' (H2 _ I)).2
theorem oN {F:Fence}{n:Nat}{fn:Func}{tmps:Array Value}{R:Ending→World→Prop}: ∀(I:List Nat) (w:World),I.Nodup→(∀b∈I,w.heap[b]? =some (.deferred (some [])))→
  (∃v,(results fn tmps).run P (rB w I)= .ok v (rB w I)∧R (.returned v) (rB w I))→LeavesInM F n P fn tmps R (I.map fun b=>{target:= .collected b,args:= #[]}) .returning w
 |[],w,_,_,h=>h
 |b::I,w,hn,hd,h=>by
  obtain⟨n1,U⟩:=X8.1 hn;refine⟨by simp,.inl ⟨b,_,rfl,run_takeDeferred (hd b H9),oN I _ U (fun b' J=>?_) h⟩⟩;have aa:b'≠b:=by rintro rfl;exact n1 J
  grind[World.putObj_heap_other,trans,List.mem_cons_of_mem]
theorem bU7 {f:FuncId}{fn:Func}{code:Code}{args:List HV}{k:Nat}{ob:Ob}{R:HV→Ob→Prop}(hf:P.funcs[f]? =some fn)(hb:fn.body=some code)(bb:fC P f=true)(ag:LocOk k args ob)(hn:args.length≤fn.ntmps)
  (h:Hw P fn.ntmps k code (eR P fn.results.toList k R) (fun t=>args.getD t .junk) ob k):HFn P f args k ob R:=by
 refine⟨uA bb,fun w ρ X xs hS hA hX=>Does.of bb ?_⟩;have hlen:xs.length=args.length:=by
  clear h hn ag;induction args generalizing xs with
  |nil=>simp only[RepHV]at hA;simp[hA]
  |cons x l ih=>rw[bJ]at hA;obtain⟨y,ys,rfl,_,h2⟩:=hA;simp[ih ys h2]
 refine callsIn_wide.1 (callsIn_of_wp_marks (F:=Fence.wide) (n:=0) hf hb trivial ?_)
 let c:Ctx:={w0:=w,ρ0:=ρ,X:=X,M0:=(· <k),n:=fn.ntmps}
 have az: ∀(l:List HV) (ys:List Value) (t:Nat),RepHV w ρ (Owned ρ X) l ys→t<l.length→RepV w ρ (Owned ρ X) (l.getD t .junk) (ys.getD t undef):=by
  intro l;induction l with
  |nil=>intro ys t _ ht;simp at ht
  |cons x l ih=>
   intro ys t hl ht;rw[bJ]at hl;obtain⟨y,bo,rfl,h1,h2⟩:=hl;cases t with
   |zero=>simpa using h1
   |succ t=>simpa using ih bo t h2 (by simpa using ht)
 have ax: ∀(l:List HV) (t:Nat),HV.menL (· <k) l→(l.getD t .junk).men (· <k):=by
  intro l;induction l with
  |nil=>intro t _;simp[HV.men]
  |cons x l ih=>
   intro t hl;simp only[HV.menL]at hl;cases t with
   |zero=>simpa using hl.1
   |succ t=>simpa using ih t hl.2
 have h0:RepA c (· <k) (fun t=>args.getD t .junk) ob {tmps:=xs.toArray++Array.replicate (fn.ntmps-xs.toArray.size) undef,defers:=[]} w:=by
  refine⟨ρ,hS,fun t ht=>?_,fun t=>ax args t ag.args,ag.none,fun id hid=>hid,Stay2.refl _ _,Moves.refl _ _,DefOk.nil _ _ _,by simp[c];omega,hX⟩;have bh:t<args.length:=by
   rcases H4 t args.length with h'|h'
   · exact h'
   · exact absurd (by simp[I5 h']) ht
  have:=az args xs t hA bh;have e:(xs.toArray++Array.replicate (fn.ntmps-xs.toArray.size) undef).getD t undef=xs.getD t undef:=by
   rw[K8,Q0 (by simp;omega)];simp
  rw[e];exact this
 refine R3 (h c _ w rfl rfl (.inl ⟨rfl,rfl⟩) h0) ?_;rintro e a1 w1 ⟨fr',ob',bk,hq,ρ',U⟩;obtain⟨⟨Ds,bd,ay,ba⟩,_⟩:=U.defers;have I:RepA' c (· <bk) fr' ob' {a1 with defers:=[]} (rB w1 Ds) ρ':=RepA'.shut Ds ⟨U.s,U.f,U.mf,U.mo,U.m0,U.base,U.moves,DefOk.nil _ _ _,U.size,U.xlt⟩ rfl ay ba;have fin:eF P fr' ob' fn.results.toList (fun vs=>gR k (dY vs) ob' R)→LeavesInM Fence.wide 0 P fn a1.tmps (fun e w'=> ∃r ob' ρ' x,e= .returned x∧R r ob'∧Gave w ρ X k r ob' w' ρ' x) a1.defers .returning w1:=by
  intro hq;rw[bd];refine oN Ds w1 ay (fun b hb=>(ba b hb).2) ?_;generalize rB w1 Ds=w' at I;generalize bf:({a1 with defers:=[]}:Act)=a' at I;have bn:a1.tmps=a'.tmps:=by rw[←bf]
  rw[bn];obtain⟨vs,ys,⟨cl,τ,r',ob2,hR,hr,bq,bp,hm,ho⟩,bt,aw⟩:=yH I hq;refine⟨(if h:ys.toArray.size=1 then ys.toArray[0]else .tuple ys.toArray),?_,r',ob2,?_⟩
  ·
   unfold results;rw[U5];simp only[G6,Sem.run_map];have:(fn.results.toList.mapM (fun r=>match r with| .tmp t=>pure (a'.tmps.getD t undef)| .cell ad t=>do loadVar t (←asAddr (a'.tmps.getD ad undef)):ResultVar→Sem Value)).run P w'= .ok ys w':=aw
   erw [this]
   rfl
  ·
   let ρ2:Env:=fun id=>match(if cl.contains id=true then none else ob' id)with|some _=>(if∃j,j<k+4∧τ j=id∧(ob2 j).isSome=true then ρ' id else none)|none=>none
   have aa: ∀id L,ρ2 id=some L→ρ' id=some L:=fun id L hL=>by
    simp only[ρ2]at hL;split at hL
    ·
     split at hL
     · exact hL
     · cases hL
    · cases hL
   have au: ∀id∈cl,ρ2 id=none:=fun id hid=>by
    have:cl.contains id=true:=by simpa using hid
    simp only[ρ2,this,G4]
   have ai: ∀b,Own ρ2 b→Own ρ' b:=fun b ⟨id,L,h1,h2⟩=>⟨id,L,aa id L h1,h2⟩;have ab:Stay w' (Owned ρ' X) w' (Owned ρ2 X):=Stay.same (fun b _ hb=>hb.imp id (ai b));have ak:=bU6 bt;have ar:RepV w' ρ2 (Owned ρ2 X) ((dY vs).close ob' cl).norm _:=⟨HV.norm_rep (kO I.s au aa ab ak.1),by rw[HV.norm_agg,HV.close_agg];exact ak.2⟩;rw[hr]at ar
   let ρ3:Env:=fun j=>match ob2 j with|some _=>ρ2 (τ j)|none=>none
   have bl: ∀j,j<k+4→(ob2 j).isSome=true→ρ2 (τ j)=ρ' (τ j):=fun j hj hs=>by
    obtain⟨o,ae⟩:=G0.1 hs;obtain⟨_,_,aj,o0,aq,_⟩:=ho j o ae;have hn:cl.contains (τ j)=false:=by simpa using aj
    simp only[ρ2,hn,aq,G9,L8];rw[B1 ⟨j,hj,rfl,hs⟩]
   have ah: ∀j L,ρ3 j=some L→j<k+4∧ρ' (τ j)=some L∧(ob2 j).isSome=true:=fun j L hL=>by
    simp only[ρ3]at hL;split at hL
    · rename_i o ae;exact⟨(ho j o ae).1,aa _ _ hL,by rw[ae];rfl⟩
    · cases hL
   have af: ∀b,Own ρ3 b↔Own ρ2 b:=by
    intro b;constructor
    ·
     rintro⟨j,L,h1,h2⟩;simp only[ρ3]at h1;split at h1
     · exact⟨_,L,h1,h2⟩
     · cases h1
    ·
     rintro⟨id,L,h1,h2⟩;have bg:=h1;simp only[ρ2]at h1;split at h1
     ·
      split at h1
      · rename_i hex;obtain⟨j,hj,rfl,hs⟩:=hex;obtain⟨o,ae⟩:=G0.1 hs;exact⟨j,L,by simp only[ρ3,ae];exact bg,h2⟩
      · cases h1
     · cases h1
   have ao:Stay w' (Owned ρ2 X) w' (Owned ρ3 X):=Stay.same (fun b _ hb=>hb.imp id (af b).1);have an:Moves (· <k+4) (fun i=>ρ2 (τ i)) ρ3:=fun id L _ hL=>by
    simp only[ρ3]at hL;split at hL
    · exact⟨L,hL,.inl rfl⟩
    · cases hL
   refine⟨ρ3,_,rfl,hR,⟨RepH.stay ao an hm (lS.1 ar.1),by rw[←ar.2,HV.ren_isAgg]⟩,⟨fun j o hj=>?_,fun j hj=>?_,fun i j L L' b h1 h2 h3 h4=>?_,fun j L b h1 h2=>?_⟩,hm,fun j o hj=>⟨(ho j o hj).1,(ho j o hj).2.1⟩,?_,?_⟩
   ·
    obtain⟨br,bj,aj,o0,aq,bc⟩:=ho j o hj;have h5:=bl j br (by rw[hj];rfl);have h6:ρ3 j=ρ2 (τ j):=by simp only[ρ3,hj]
    have J:=I.s.objs _ _ aq;have:RepO w' ρ2 (Owned ρ2 X) (τ j) (o.ren τ):=by
     rw[←bc];cases o0 with
     |box t v=>
      obtain⟨b,cs,e1,e2,e3⟩:=J;exact⟨b,cs,by rw[h5];exact e1,e2,HV.norm_rep (kO I.s au aa ab e3)⟩
     |row e sz l=>
      obtain⟨hd,xs,e1,e2,e3,e4⟩:=J;exact⟨hd,xs,by rw[h5];exact e1,e2.stay ab,e3,e4⟩
     |mp e sz D=>
      obtain⟨b,hf,e1,e2⟩:=J;exact⟨b,hf,by rw[h5];exact e1,e2.stay ab rfl (fun _ _ _ _ _=>rfl)⟩
     |dead=>exact h5.trans J
     |tab T=>exact⟨h5.trans J.1,nL ab J.2⟩
     |hrow e sz l=>
      obtain⟨hd,xs,e1,e2,e3,e4⟩:=J;exact⟨hd,xs,by rw[h5];exact e1,oM I.s au aa ab e2,sU l e3,by rw[nD];exact e4⟩
     |raw es clock=>
      obtain⟨b,e1,e2⟩:=J;exact⟨b,by rw[h5];exact e1,e2⟩
     |it m since seen last=>
      obtain⟨b,x,e1,e2,e3⟩:=J;exact⟨b,x,by rw[h5];exact e1,e2,fun bm hf h=>e3 bm hf (aa _ _ h)⟩
    exact RepO.sub ao an bj h6 this
   · simp only[ρ3,hj]
   · obtain⟨g1,g2,_⟩:=ah i L h1;obtain⟨g3,g4,_⟩:=ah j L' h2;exact bp i j g1 g3 (I.s.apart _ _ L L' b g2 g4 h3 h4)
   · obtain⟨g1,g2,_⟩:=ah j L h1;exact I.s.xb _ L b g2 h2
   · refine⟨I.base.block,fun b hb=>I.base.own b (ai b ((af b).1 hb)),I.base.size,I.base.os,I.base.tape,I.base.output⟩
   · intro j L' hj hL;obtain⟨g1,g2,_⟩:=ah j L' hL;rw[bq j hj]at g2;exact I.moves j L' hj g2
 cases e with
 |normal=>exact fin hq
 |ret=>exact fin hq
 |_=>exact hq.elim
end
def fin :List (Nat×HV)→Fr
 |[]=>fun _=> .junk
 |(t,v)::l=>upd (fin l) t v
def fob :List (Nat×HO)→Ob
 |[]=>fun _=>none
 |(t,v)::l=>upd (fob l) t (some v)
def sD (nx:Nat)(fr:Fr):List (Nat×HV)→Prop
 |[]=>True
 |(t,v)::l=>fr t=v∧v.men (· <nx)∧sD nx fr l
def jQ (nx:Nat)(ob:Ob):List (Nat×HO)→Prop
 |[]=>True
 |(t,v)::l=>ob t=some v∧t<nx∧v.men (· <nx)∧jQ nx ob l
theorem aB6 {nx:Nat}{fr:Fr}: ∀{l:List (Nat×HV)},sD nx fr l→ ∀t,(fin l t= .junk∨fin l t=fr t)∧(fin l t).men (· <nx)
 |[],_,t=>⟨.inl rfl,by simp[fin,HV.men]⟩
 |(t',v)::l,h,t=>by
  simp only[sD]at h;by_cases I:t=t'
  · simp_all[fin,aR]
  · simp only[fin,bE _ _ I];exact aB6 h.2.2 t
theorem aB7 {nx:Nat}{ob:Ob}: ∀{l:List (Nat×HO)},jQ nx ob l→ ∀t o,fob l t=some o→ob t=some o∧t<nx∧o.men (· <nx)
 |[],_,t,o,ho=>by simp[fob]at ho
 |(t',v)::l,h,t,o,ho=>by
  simp only[jQ]at h;by_cases I:t=t'
  · simp_all[fob,aR,E8]
  · simp only[fob,bE _ _ I]at ho;exact aB7 h.2.2.2 t o ho
variable {k:Nat}
theorem bA {nx2:Nat}{l:List (Nat×HV)}{h:List (Nat×HO)}(hk:k≤nx2)(J:sD nx2 fr l)(U:jQ nx2 ob h):Fits k fr ob (fin l) (fob h) nx2:=
 ⟨fun t=>(aB6 J t).1,fun id o I=>(aB7 U id o I).1,fun t=>(aB6 J t).2,fun id o I=>(aB7 U id o I).2,hk⟩
theorem upd_at {α:Type}(f:Nat→α)(d:Nat)(v:α)(t:Nat):upd f d v t=if t=d then v else f t:=rfl
theorem fin_at (t:Nat)(v:HV)(l:List (Nat×HV))(t':Nat):fin ((t,v)::l) t'=if t'=t then v else fin l t':=rfl
theorem fin_nil (t:Nat):fin [] t= .junk:=rfl
theorem fob_at (t:Nat)(v:HO)(l:List (Nat×HO))(t':Nat):fob ((t,v)::l) t'=if t'=t then some v else fob l t':=rfl
theorem fob_nil (t:Nat):fob [] t=none:=rfl
theorem aW {α:Type}{f:α→CV}{l:List α}(h:i<l.length):nth (l.map f) i=f l[i]:=by simp[nth,h]
theorem bI1 {K':Fr→Ob→Prop}(hq:ops.all (fun o=>bU o.op)=true)(aa: ∀id∈av,ob id=none)(hK: ∀fr',K fr' ob→K' fr' ob)
  (h:hopI P ops nx [] i K fr ob):hopI P ops nx av i K' fr ob:=by
 unfold hopI at h⊢;cases U:ops[i]? with
 |none=>grind
 |some o=>
  rw[U]at h;simp only at h⊢;have J:bU o.op=true:=V9.1 hq o (P2 U);have hc:hcallOf o.op=none:=by
   cases I:o.op<;>simp only[hcallOf];rename_i c;rw[I]at J;grind[bU]
  cases hg:hguard ops o fr with
  |none=>grind
  |some b=>
   rw[hg]at h;cases b with
   |false=>grind
   |true=>
    simp only[hstep,hc]at h⊢;refine⟨fun id hid=>⟨fun ab=>?_,(h.1 id hid).2⟩,?_⟩
    · grind
    · obtain⟨v,u,h1,h2,h3,h4⟩:=aK5 h.2;have hu:=h4 J;subst hu;exact h2 ob (fun _ _=>rfl) _ (hK _ h1)
theorem aL0 {P:Program}{ops:Array Oper}{nx:Nat}{wt:Nat→Nat→Bool}{Q:Fr→Ob→Prop}{ob:Ob}(hq:ops.all (fun o=>bU o.op)=true)(hf: ∀id,nx≤id→ob id=none):
  ∀(l:List Nat) (C:lT) (fr:Fr),hlex P ops nx Q l fr ob→pU P ops nx wt Q l C fr ob
 |[],C,fr,h=>h
 |i::l,C,fr,h=>by
  simp only[hlex,pU]at h⊢;have hi:isEff (ops.getD i default).op=false∨ops[i]? =none:=by
   cases U:ops[i]? with
   |none=>grind
   |some o=>
    left;have J:bU o.op=true:=V9.1 hq o (P2 U);have:ops.getD i default=o:=by simp[K8,U]
    rw[this];cases I:o.op<;>simp only[isEff]<;>rw[I]at J<;>simp[bU]at J;grind
  refine sY (fun _ _ h=>h) (bI1 hq (fun id hid=>hf id ?_) (fun fr' hK=>aL0 hq hf l _ fr' hK) h);simp only[lC,K3]at hid;obtain⟨p,_,hp⟩:=hid;split at hp
  · grind
  ·
   have:((ops[i]?).map (fun o=>isEff o.op)).getD true=true→ops[i]? =none:=by
    intro he;rcases hi with hi|hi
    ·
     cases U:ops[i]? with
     |none=>rfl
     |some o=>
      simp_all
    · grind
   rcases D6.1 hp with hp|hp
   · grind
   grind[hopI]
theorem aY3 {Q:eI}{id:Nat}(hm:P.follows .mixedOrders=true)(U:gQ n ops=true)(hp:lV ops (List.range ops.size) (Array.replicate ops.size false)=true)(hq:ops.all (fun o=>bU o.op)=true)
  (h:hlex P ops nx (fun fr' ob'=>Q .normal fr' ob' (nx+4*ops.size)) (List.range ops.size) fr ob):Hw P n k (.region id ops true) Q fr ob nx:=by
 intro c a w hn hk hz J;have hf: ∀id,nx≤id→ob id=none:=fun id hid=>by
  obtain⟨ρ,I⟩:=J;exact(I.nid_none (nid:=id) (by omega)).1
 exact bO0 hm (List.range ops.size) [] U hp rfl rfl (by simp) (aL0 hq hf _ _ _ h) c a w hn hk hz J
def cZ :Ob:=fun _=>none
theorem none0_at (t:Nat):cZ t=none:=rfl
def bM (P:Program)(f:FuncId)(args:List CV)(R:CV→Prop):Prop:=
 HFn P f (args.map .c) 0 cZ (fun r ob'=> ∃v,r= .c v∧R v∧ob'=cZ)
theorem aF {r:HV}{R:CV→Prop}(cl:List Nat)(v:CV)(h:(r.close ob cl).norm= .c v)(I:R v):gR 0 r ob (fun r ob'=> ∃v,r= .c v∧R v∧ob'=cZ):=
 ⟨cl,id,.c v,cZ,⟨v,rfl,I,rfl⟩,by rw[h];rfl,fun _ h=>by omega,fun _ _ _ _ h=>h,by simp[HV.men],fun j o h=>by simp[cZ]at h⟩
theorem pW {nid:Nat}(h: ∀i,nid≤i→i<nid+4→ob i=none):bY ob [] nid cZ=ob:=by grind[id,bY,cZ]
theorem lL (args:List CV):LocOk 0 (args.map .c) cZ:=⟨fun j h=>by omega,fun id o h=>by simp[cZ]at h,HV.menL_c⟩
def uF :Nat→List HV→Fr
 |_,[]=>fun _=> .junk
 |k,v::l=>upd (uF (k+1) l) k v
theorem finA_at (k:Nat)(v:HV)(l:List HV)(t:Nat):uF k (v::l) t=if t=k then v else uF (k+1) l t:=rfl
theorem finA_nil (k t:Nat):uF k [] t= .junk:=rfl
theorem zJ : ∀(l:List HV) (k t:Nat),uF k l t=if t<k then .junk else l.getD (t-k) .junk
 |[],k,t=>by simp[uF]
 |v::l,k,t=>by
  by_cases h:t=k
  · subst h;simp[uF,aR]
  · simp only[uF,bE _ _ h,zJ l (k+1) t];grind
theorem bO {fn:Func}{code:Code}{args:List HV}{R:HV→Ob→Prop}(hf:P.funcs[f]? =some fn)(U:fn.body=some code)(J:fC P f=true)(I:LocOk k args ob)(hn:args.length≤fn.ntmps)
  (h:Hw P fn.ntmps k code (eR P fn.results.toList k R) (uF 0 args) ob k):HFn P f args k ob R:=by
 refine bU7 hf U J I hn ?_;have:(fun t=>args.getD t HV.junk)=uF 0 args:=by funext t;simp[zJ]
 rw[this];exact h
end Go.Hl
