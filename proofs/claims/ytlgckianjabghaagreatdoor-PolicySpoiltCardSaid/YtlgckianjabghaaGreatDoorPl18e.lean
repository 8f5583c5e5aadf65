/- More plain laws of the judgement. By an AI agent. -/
import Derived.IntWalk
import Derived.Sort.KeysCollected
import Derived.Test.YtlgckianjabghaaGreatDoorHlR
set_option linter.unusedSimpArgs false
set_option linter.unusedVariables false
set_option linter.defProp false
namespace Go.Hl
open Go
def fin :List (Nat×HV)→Fr
 |[]=>fun _=> .junk
 |(t,v)::l=>upd (fin l) t v
def fob :List (Nat×HO)→Ob
 |[]=>fun _=>none
 |(t,v)::l=>upd (fob l) t (some v)
def gJ (nx:Nat)(fr:Fr):List (Nat×HV)→Prop
 |[]=>True
 |(t,v)::l=>fr t=v∧v.men (· <nx)∧gJ nx fr l
def dC (nx:Nat)(ob:Ob):List (Nat×HO)→Prop
 |[]=>True
 |(t,v)::l=>ob t=some v∧t<nx∧v.men (· <nx)∧dC nx ob l
theorem yF {nx:Nat}{fr:Fr}: ∀{l:List (Nat×HV)},gJ nx fr l→ ∀t,(fin l t= .junk∨fin l t=fr t)∧(fin l t).men (· <nx)
 |[],_,t=>⟨.inl rfl,by simp[fin,HV.men]⟩
 |(t',v)::l,h,t=>by
  simp only[gJ]at h;by_cases ht:t=t'
  · simp_all[fin,aU]
  · simp only[fin,bJ _ _ ht];exact yF h.2.2 t
theorem yG {nx:Nat}{ob:Ob}: ∀{l:List (Nat×HO)},dC nx ob l→ ∀t o,fob l t=some o→ob t=some o∧t<nx∧o.men (· <nx)
 |[],_,t,o,ho=>by simp[fob]at ho
 |(t',v)::l,h,t,o,ho=>by
  simp only[dC]at h;by_cases ht:t=t'
  · simp_all[fob,aU,D6]
  · simp only[fob,bJ _ _ ht]at ho;exact yG h.2.2.2 t o ho
variable {ob:Ob}{fr:Fr}{k:Nat}
theorem aP {nx2:Nat}{l:List (Nat×HV)}{h:List (Nat×HO)}(hk:k≤nx2)(h1:gJ nx2 fr l)(h2:dC nx2 ob h):Fits k fr ob (fin l) (fob h) nx2:=
 ⟨fun t=>(yF h1 t).1,fun id o ho=>(yG h2 id o ho).1,fun t=>(yF h1 t).2,fun id o ho=>(yG h2 id o ho).2,hk⟩
theorem upd_at {α:Type}(f:Nat→α)(d:Nat)(v:α)(t:Nat):upd f d v t=if t=d then v else f t:=rfl
theorem fin_at (t:Nat)(v:HV)(l:List (Nat×HV))(t':Nat):fin ((t,v)::l) t'=if t'=t then v else fin l t':=rfl
theorem fin_nil (t:Nat):fin [] t= .junk:=rfl
theorem fob_at (t:Nat)(v:HO)(l:List (Nat×HO))(t':Nat):fob ((t,v)::l) t'=if t'=t then some v else fob l t':=rfl
theorem fob_nil (t:Nat):fob [] t=none:=rfl
variable {i:Nat}
theorem aV {α:Type}{f:α→CV}{l:List α}(h:i<l.length):nth (l.map f) i=f l[i]:=by simp[nth,h]
variable {av:List Nat}{nx:Nat}{ops:Array Oper}{P:Program}
theorem bA9 {K K':Fr→Ob→Prop}(hq:ops.all (fun o=>cE o.op)=true)(hav: ∀id∈av,ob id=none)(hK: ∀fr',K fr' ob→K' fr' ob)
  (h:hopI P ops nx [] i K fr ob):hopI P ops nx av i K' fr ob:=by
 unfold hopI at h⊢;cases ho:ops[i]? with
 |none=>grind
 |some o=>
  rw[ho]at h;simp only at h⊢;have hqo:cE o.op=true:=U5.1 hq o (P4 ho);have hc:hcallOf o.op=none:=by
   cases hop':o.op<;>simp only[hcallOf];rename_i c;rw[hop']at hqo;grind[cE]
  cases hg:hguard ops o fr with
  |none=>grind
  |some b=>
   rw[hg]at h;cases b with
   |false=>grind
   |true=>
    simp only[hstep,hc]at h⊢;refine⟨fun id hid=>⟨fun hin=>?_,(h.1 id hid).2⟩,?_⟩
    · grind
    · obtain⟨v,u,h1,h2,h3,h4⟩:=aD1 h.2;have hu:=h4 hqo;subst hu;exact h2 ob (fun _ _=>rfl) _ (hK _ h1)
theorem aD6 {P:Program}{ops:Array Oper}{nx:Nat}{wt:Nat→Nat→Bool}{Q:Fr→Ob→Prop}{ob:Ob}(hq:ops.all (fun o=>cE o.op)=true)(hf: ∀id,nx≤id→ob id=none):
  ∀(l:List Nat) (C:kY) (fr:Fr),hlex P ops nx Q l fr ob→oM P ops nx wt Q l C fr ob
 |[],C,fr,h=>h
 |i::l,C,fr,h=>by
  simp only[hlex,oM]at h⊢;have hi:isEff (ops.getD i default).op=false∨ops[i]? =none:=by
   cases ho:ops[i]? with
   |none=>grind
   |some o=>
    left;have hqo:cE o.op=true:=U5.1 hq o (P4 ho);have:ops.getD i default=o:=by simp[K8,ho]
    rw[this];cases hop':o.op<;>simp only[isEff]<;>rw[hop']at hqo<;>simp[cE]at hqo;grind
  refine uO (fun _ _ h=>h) (bA9 hq (fun id hid=>hf id ?_) (fun fr' hK=>aD6 hq hf l _ fr' hK) h);simp only[kE,K6]at hid;obtain⟨p,_,hp⟩:=hid;split at hp
  · grind
  ·
   have:((ops[i]?).map (fun o=>isEff o.op)).getD true=true→ops[i]? =none:=by
    intro he;rcases hi with hi|hi
    ·
     cases ho:ops[i]? with
     |none=>rfl
     |some o=>
      simp_all
    · grind
   rcases F4.1 hp with hp|hp
   · grind
   grind[hopI]
variable {id n:Nat}{Q:eW}
theorem aR5 (hm:P.follows .mixedOrders=true)(hd:jH n ops=true)(hp:lA ops (List.range ops.size) (Array.replicate ops.size false)=true)(hq:ops.all (fun o=>cE o.op)=true)
  (h:hlex P ops nx (fun fr' ob'=>Q .normal fr' ob' (nx+4*ops.size)) (List.range ops.size) fr ob):Hw P n k (.region id ops true) Q fr ob nx:=by
 intro c a w hn hk hz hA;have hf: ∀id,nx≤id→ob id=none:=fun id hid=>by
  obtain⟨ρ,hA'⟩:=hA;exact(hA'.nid_none (nid:=id) (by omega)).1
 exact bG7 hm (List.range ops.size) [] hd hp rfl rfl (by simp) (aD6 hq hf _ _ _ h) c a w hn hk hz hA
def dK :Ob:=fun _=>none
theorem none0_at (t:Nat):dK t=none:=rfl
def cG (P:Program)(f:FuncId)(args:List CV)(R:CV→Prop):Prop:=
 HFn P f (args.map .c) 0 dK (fun r ob'=> ∃v,r= .c v∧R v∧ob'=dK)
variable {R:CV→Prop}
theorem aK {r:HV}(cl:List Nat)(v:CV)(h:(r.close ob cl).norm= .c v)(hR:R v):lC 0 r ob (fun r ob'=> ∃v,r= .c v∧R v∧ob'=dK):=
 ⟨cl,id,.c v,dK,⟨v,rfl,hR,rfl⟩,by rw[h];rfl,fun _ h=>by omega,fun _ _ _ _ h=>h,by simp[HV.men],fun j o h=>by simp[dK]at h⟩
variable {nid:Nat}
theorem lQ (h: ∀i,nid≤i→i<nid+4→ob i=none):cJ ob [] nid dK=ob:=by grind[id,cJ,dK]
theorem kR (args:List CV):LocOk 0 (args.map .c) dK:=⟨fun j h=>by omega,fun id o h=>by simp[dK]at h,HV.menL_c⟩
def sT :Nat→List HV→Fr
 |_,[]=>fun _=> .junk
 |k,v::l=>upd (sT (k+1) l) k v
theorem finA_at (k:Nat)(v:HV)(l:List HV)(t:Nat):sT k (v::l) t=if t=k then v else sT (k+1) l t:=rfl
theorem finA_nil (k t:Nat):sT k [] t= .junk:=rfl
theorem xC : ∀(l:List HV) (k t:Nat),sT k l t=if t<k then .junk else l.getD (t-k) .junk
 |[],k,t=>by simp[sT]
 |v::l,k,t=>by
  by_cases h:t=k
  · subst h;simp[sT,aU]
  · simp only[sT,bJ _ _ h,xC l (k+1) t];grind
variable {args:List HV}{f:FuncId}
theorem cA {fn:Func}{code:Code}{R:HV→Ob→Prop}(hf:P.funcs[f]? =some fn)(hb:fn.body=some code)(hok:fQ P f=true)(hloc:LocOk k args ob)(hn:args.length≤fn.ntmps)
  (h:Hw P fn.ntmps k code (gI P fn.results.toList k R) (sT 0 args) ob k):HFn P f args k ob R:=by
 refine bN5 hf hb hok hloc hn ?_;have:(fun t=>args.getD t HV.junk)=sT 0 args:=by funext t;simp[xC]
 rw[this];exact h
section
variable {P:Program}{n k:Nat}{Q:eW}{fr:Fr}{ob:Ob}{nx:Nat}
def HO.close (ob:Ob)(cl:List Nat):HO→HO
 | .box t v=> .box t (v.close ob cl).norm
 | .row e sz l=> .row e sz l
 | .mp e sz D=> .mp e sz D
 | .dead=> .dead
 | .tab T=> .tab T
 | .hrow e sz l=> .hrow e sz (HV.closeL ob cl l)
 | .raw es k=> .raw es k
 | .it m s q l=> .it m s q l
def clF (ob:Ob)(cl:List Nat)(fr:Fr):Fr:=fun t=>((fr t).close ob cl).norm
def clO (ob:Ob)(cl:List Nat):Ob:=fun id=>if cl.contains id=true then none else(ob id).map (HO.close ob cl)
theorem cR6 (cl:List Nat)(t:Nat):clF ob cl fr t=((fr t).close ob cl).norm:=rfl
theorem cR7 (cl:List Nat)(id:Nat):clO ob cl id=if cl.contains id=true then none else(ob id).map (HO.close ob cl):=rfl
mutual
theorem HV.close_men {cl:List Nat}{M:Nat→Prop}: ∀{v:HV},v.men M→(v.close ob cl).men M
 | .junk,h=>h
 | .c _,_=>by simp[HV.close,HV.men]
 | .agg l,h=>by simp only[HV.close,HV.men]at h⊢;exact HV.closeL_men h
 | .own id n,h=>by
  simp only[HV.close];split
  ·
   split
   ·
    split
    · simp[HV.men]
    · exact h
   · exact h
  · exact h
 | .ptr ..,h=>h
 | .eptr ..,h=>h
 | .osl id n lo sz hi,h=>by
  simp only[HV.close];split
  ·
   split
   ·
    split
    · simp[HV.men]
    · exact h
   · exact h
  · exact h
 | .mapr ..,h=>h
 | .mrow ..,h=>h
 | .clo ..,h=>h
 | .opq _,h=>h
 | .tup l,h=>by simp only[HV.close,HV.men]at h⊢;exact HV.closeL_men h
theorem HV.closeL_men {cl:List Nat}{M:Nat→Prop}: ∀{l:List HV},HV.menL M l→HV.menL M (HV.closeL ob cl l)
 |[],h=>by simp[HV.closeL,HV.menL]
 |v::l,h=>by simp only[HV.closeL,HV.menL]at h⊢;exact⟨HV.norm_men (HV.close_men h.1),HV.closeL_men h.2⟩
end
theorem HV.close_junk {cl:List Nat}{v:HV}(h:(v.close ob cl).norm≠ .junk):v≠ .junk:=by
 intro e;subst e;exact h rfl
theorem cM {code:Code}(cl:List Nat)(h:Hw P n k code Q (clF ob cl fr) (clO ob cl) nx):Hw P n k code Q fr ob nx:=by
 intro c a w hn hk hz hA;refine h c a w hn hk hz ?_;obtain⟨ρ,h⟩:=hA
 let ρ2:Env:=fun id=>if cl.contains id=true then none else ρ id
 have hρ2: ∀id L,ρ2 id=some L→ρ id=some L:=fun id L hL=>by grind
 have hcl: ∀id∈cl,ρ2 id=none:=fun id hid=>by grind
 have hown: ∀b,Own ρ2 b→Own ρ b:=fun b ⟨id,L,h1,h2⟩=>⟨id,L,hρ2 id L h1,h2⟩;have hst:Stay w (Owned ρ c.X) w (Owned ρ2 c.X):=Stay.same (fun b _ hb=>hb.imp id (hown b));refine⟨ρ2,⟨fun id o ho=>?_,fun id hid=>?_,fun id id' L L' b h1 h2 h3 h4=>h.s.apart id id' L L' b (hρ2 _ _ h1) (hρ2 _ _ h2) h3 h4,fun id L b h1 h2=>h.s.xb id L b (hρ2 _ _ h1) h2⟩,fun t ht=>?_,fun t=>HV.norm_men (HV.close_men (h.mf t)),fun id o ho=>?_,h.m0,?_,?_,h.defers,h.size,h.xlt⟩
 ·
  simp only[clO]at ho;split at ho
  · grind
  ·
   rename_i hc;obtain⟨o',ho',rfl⟩:=C8.1 ho;have hid:ρ2 id=ρ id:=by simp only[ρ2,hc];rfl
   have hobj:=h.s.objs id o' ho';cases o' with
   |box t v=>
    obtain⟨b,cs,e1,e2,e3⟩:=hobj;exact⟨b,cs,by grind,e2,HV.norm_rep (jJ h.s hcl hρ2 hst e3)⟩
   |row e sz l=>
    obtain⟨hd,xs,e1,e2,e3,e4⟩:=hobj;exact⟨hd,xs,by grind,e2.stay hst,e3,e4⟩
   |mp e sz D=>
    obtain⟨b,hf,e1,e2⟩:=hobj;exact⟨b,hf,by grind,e2.stay hst rfl (fun _ _ _ _ _=>rfl)⟩
   |dead=>exact hid.trans hobj
   |tab T=>exact⟨hid.trans hobj.1,mL hst hobj.2⟩
   |hrow e sz l=>
    obtain⟨hd,xs,e1,e2,e3,e4⟩:=hobj;exact⟨hd,xs,by grind,nH h.s hcl hρ2 hst e2,rH l e3,by grind[mB]⟩
   |raw es clock=>
    obtain⟨b,e1,e2⟩:=hobj;exact⟨b,by grind,e2⟩
   |it m since seen last=>
    obtain⟨b,x,e1,e2,e3⟩:=hobj;exact⟨b,x,by grind,e2,fun bm hf h=>e3 bm hf (hρ2 _ _ h)⟩
 ·
  simp only[clO]at hid;simp only[ρ2];split
  · rfl
  · rename_i hc;rw[A7 hc,U4]at hid;exact h.s.none id hid
 · have:=h.f t (HV.close_junk ht);exact⟨HV.norm_rep (jJ h.s hcl hρ2 hst this.1),by rw[clF,HV.norm_agg,HV.close_agg];exact this.2⟩
 ·
  simp only[clO]at ho;split at ho
  · grind
  ·
   obtain⟨o',ho',rfl⟩:=C8.1 ho;obtain⟨m1,m2⟩:=h.mo id o' ho';refine⟨m1,?_⟩;cases o' with
   |box t v=>exact HV.norm_men (HV.close_men m2)
   |row e sz l=>trivial
   |mp e sz D=>trivial
   |dead=>trivial
   |tab _=>trivial
   |hrow e sz l=>exact HV.closeL_men m2
   |raw _ _=>trivial
   |it _ _ _ _=>exact m2
 · exact h.base.trans ⟨fun _ _ _=>rfl,fun b hb=> .inl (hown b hb),F2 _,rfl,rfl,rfl⟩
 · exact Moves.trans (fun _ h=>h) h.moves (fun id L _ hL=>⟨L,hρ2 id L hL,.inl rfl⟩)
theorem ownsRow_nil {w:World}{e sz:Nat}:w.ownsRow 0 e sz (.slice none 0 0) 0 []:=by
 refine⟨by simp,.inl ⟨rfl,rfl⟩⟩
theorem RepA'.emptyRow {c:Ctx}{M M':Nat→Prop}{a:Act}{w:World}{ρ:Env}(h:RepA' c M fr ob a w ρ){id e sz:Nat}(hn: ¬M id)(hM: ∀i,M i→M' i)(hM':M' id):
  RepA' c M' fr (upd ob id (some (.row e sz []))) a w (upd ρ id (some (.hdr (.slice none 0 0)))):=by
 obtain⟨hob,hρ⟩:=h.nid_none hn;have hown: ∀b,Own (upd ρ id (some (.hdr (.slice none 0 0)))) b→Own ρ b:=by
  rintro b ⟨i,L,h1,h2⟩;by_cases e:i=id
  · subst e;rw[aU]at h1;cases h1;cases h2
  · rw[bJ _ _ e]at h1;exact⟨i,L,h1,h2⟩
 have hst:Stay w (Owned ρ c.X) w (Owned (upd ρ id (some (.hdr (.slice none 0 0)))) c.X):=Stay.same (fun b _ hb=>hb.imp (fun x=>x) (hown b));have hmv:Moves M ρ (upd ρ id (some (.hdr (.slice none 0 0)))):=Moves.upd_new hn;refine⟨⟨fun i o ho=>?_,fun i hi=>?_,fun i i' L L' b h1 h2 h3 h4=>?_,fun i L b h1 h2=>?_⟩,fun t ht=>⟨RepH.stay hst hmv (h.mf t) (h.f t ht).1,(h.f t ht).2⟩,fun t=>HV.men_mono hM (h.mf t),fun i o ho=>?_,fun i hi=>hM i (h.m0 i hi),?_,?_,h.defers,h.size,h.xlt⟩
 ·
  by_cases e':i=id
  · subst e';rw[aU]at ho;cases ho;exact⟨.slice none 0 0,[],aU _ _ _,by simp[RepL],by simp,ownsRow_nil⟩
  · rw[bJ _ _ e']at ho;exact RepO.stay hst hmv (h.mo i o ho).2 (bJ _ _ e') (fun _ _ _ _=>rfl) (h.s.objs i o ho)
 ·
  by_cases e':i=id
  · simp_all
  · rw[bJ _ _ e']at hi⊢;exact h.s.none i hi
 ·
  by_cases e1:i=id
  · subst e1;rw[aU]at h1;cases h1;cases h3
  ·
   by_cases e2:i'=id
   · subst e2;rw[aU]at h2;cases h2;cases h4
   · rw[bJ _ _ e1]at h1;rw[bJ _ _ e2]at h2;exact h.s.apart i i' L L' b h1 h2 h3 h4
 ·
  by_cases e1:i=id
  · subst e1;rw[aU]at h1;cases h1;cases h2
  · rw[bJ _ _ e1]at h1;exact h.s.xb i L b h1 h2
 ·
  by_cases e':i=id
  · subst e';rw[aU]at ho;cases ho;exact⟨hM',trivial⟩
  · rw[bJ _ _ e']at ho;exact⟨hM _ (h.mo i o ho).1,HO.men_mono hM (h.mo i o ho).2⟩
 · exact h.base.trans ⟨fun _ _ _=>rfl,fun b hb=> .inl (hown b hb),F2 _,rfl,rfl,rfl⟩
 · exact Moves.trans h.m0 h.moves hmv
theorem rL {w:World}{ρ:Env}{O:Nat→Prop}{v v':HV}{off id:Nat}{cs:List Value}(hg:HV.getAt off 1 false v=some (.c .nils))(hs:v.sto=true)(hv:HV.setAt off 1 (.own id 0) v=some v')(hρ:ρ id=some (.hdr (.slice none 0 0)))
  (h:RepH w ρ O v cs):RepH w ρ O v' cs:=by
 obtain⟨c1,c2,c3,e0,e1,e2,e3,_⟩:=HV.getAt_spec hg hs h;obtain⟨d1,d2,d3,f0,f1,f2,f3,_⟩:=HV.setAt_spec (x:= .own id 0) rfl hv hs h;have:c1=d1∧c2++c3=d2++d3:=by
  have:=e0.symm.trans f0;rw[E8,E8]at this;exact List.append_inj this (by omega)
 obtain⟨rfl,h23⟩:=this;have h23:=List.append_inj h23 (by omega);obtain⟨rfl,rfl⟩:=h23;rw[e0];refine f3 c2 ?_;simp only[RepH,RepC]at e3⊢;refine⟨_,e3,rfl,fun hd hh=>?_⟩;grind
theorem iN {code:Code}(t off e sz:Nat){v':HV}(hg:HV.getAt off 1 false (fr t)=some (.c .nils))(hs:(fr t).sto=true)(hv:HV.setAt off 1 (.own nx 0) (fr t)=some v')(ha:v'.isAgg=(fr t).isAgg)
  (h:Hw P n k code Q (upd fr t v') (upd ob nx (some (.row e sz []))) (nx+1)):Hw P n k code Q fr ob nx:=by
 intro c a w hn hk hz hA;refine h c a w hn hk hz ?_;obtain⟨ρ,hA⟩:=hA;have hA':=hA.emptyRow (M':=(· <nx+1)) (id:=nx) (e:=e) (sz:=sz) (by omega) (fun i hi=>by omega) (by omega);refine⟨_,hA'.s,fun t' ht'=>?_,fun t'=>?_,hA'.mo,hA'.m0,hA'.base,hA'.moves,hA'.defers,hA'.size,hA'.xlt⟩
 ·
  by_cases e':t'=t
  ·
   subst e';rw[aU];have hj:fr t'≠ .junk:=by intro e';rw[e']at hs;simp[HV.sto]at hs
   have hf:=hA'.f t' hj;have hr:=rL hg hs hv (aU _ _ _) hf.1;exact⟨hr,by rw[ha];exact hf.2⟩
  · rw[bJ _ _ e']at ht'⊢;exact hA'.f t' ht'
 ·
  by_cases e':t'=t
  ·
   subst e';rw[aU];have hj:fr t'≠ .junk:=by intro e';rw[e']at hs;simp[HV.sto]at hs
   obtain⟨d1,d2,d3,f0,f1,f2,f3,f4,f5⟩:=HV.setAt_spec (x:= .own nx 0) rfl hv hs (hA'.f t' hj).1;exact f5 _ (by simp[HV.men]) (hA'.mf t')
  · rw[bJ _ _ e'];exact hA'.mf t'
theorem pY {code:Code}(id off e sz:Nat){T:TypeId}{v v':HV}(hb:ob id=some (.box T v))(hg:HV.getAt off 1 false v=some (.c .nils))(hs:v.sto=true)(hv:HV.setAt off 1 (.own nx 0) v=some v')
  (h:Hw P n k code Q fr (upd (upd ob nx (some (.row e sz []))) id (some (.box T v'))) (nx+1)):Hw P n k code Q fr ob nx:=by
 intro c a w hn hk hz hA;refine h c a w hn hk hz ?_;obtain⟨ρ,hA⟩:=hA;have hid:id<nx:=(hA.mo id _ hb).1;have hA':=hA.emptyRow (M':=(· <nx+1)) (id:=nx) (e:=e) (sz:=sz) (by omega) (fun i hi=>by omega) (by omega);have hb':upd ob nx (some (.row e sz [])) id=some (.box T v):=by rw[bJ _ _ (by omega)];exact hb
 obtain⟨b,cs,e1,e2,e3⟩:=hA'.s.objs id _ hb';refine⟨_,⟨fun i o ho=>?_,fun i hi=>?_,hA'.s.apart,hA'.s.xb⟩,hA'.f,hA'.mf,fun i o ho=>?_,hA'.m0,hA'.base,hA'.moves,hA'.defers,hA'.size,hA'.xlt⟩
 ·
  by_cases e':i=id
  · subst e';rw[aU]at ho;cases ho;exact⟨b,cs,e1,e2,rL hg hs hv (aU _ _ _) e3⟩
  · rw[bJ _ _ e']at ho;exact hA'.s.objs i o ho
 ·
  by_cases e':i=id
  · simp_all
  · rw[bJ _ _ e']at hi;exact hA'.s.none i hi
 ·
  by_cases e':i=id
  · subst e';rw[aU]at ho;cases ho;obtain⟨d1,d2,d3,f0,f1,f2,f3,f4,f5⟩:=HV.setAt_spec (x:= .own nx 0) rfl hv hs e3;exact⟨(hA'.mo i _ hb').1,f5 _ (by simp[HV.men]) (hA'.mo i _ hb').2⟩
  · rw[bJ _ _ e']at ho;exact hA'.mo i o ho
theorem bG8 {code:Code}(id:Nat){o o':HO}(hb:ob id=some o)(hv: ∀w ρ O,RepO w ρ O id o→RepO w ρ O id o')(hm: ∀M,o.men M→o'.men M)(h:Hw P n k code Q fr (upd ob id (some o')) nx):Hw P n k code Q fr ob nx:=by
 intro c a w hn hk hz hA;refine h c a w hn hk hz ?_;obtain⟨ρ,hA⟩:=hA;refine⟨ρ,⟨fun i o2 ho=>?_,fun i hi=>?_,hA.s.apart,hA.s.xb⟩,hA.f,hA.mf,fun i o2 ho=>?_,hA.m0,hA.base,hA.moves,hA.defers,hA.size,hA.xlt⟩
 ·
  by_cases e:i=id
  · subst e;rw[aU]at ho;cases ho;exact hv _ _ _ (hA.s.objs i _ hb)
  · rw[bJ _ _ e]at ho;exact hA.s.objs i o2 ho
 ·
  by_cases e:i=id
  · simp_all
  · rw[bJ _ _ e]at hi;exact hA.s.none i hi
 ·
  by_cases e:i=id
  · subst e;rw[aU]at ho;cases ho;exact⟨(hA.mo i _ hb).1,hm _ (hA.mo i _ hb).2⟩
  · rw[bJ _ _ e]at ho;exact hA.mo i o2 ho
theorem sU {code:Code}(id:Nat){e:TypeId}{sz:Nat}{l:List CV}(hb:ob id=some (.row e sz l))(h:Hw P n k code Q fr (upd ob id (some (.hrow e sz (l.map .c)))) nx):Hw P n k code Q fr ob nx:=by
 refine bG8 (o':= .hrow e sz (l.map .c)) id hb (fun w ρ O hr=>?_) (fun M _=>(HV.menL_c:HV.menL M (l.map .c))) h;obtain⟨hd,xs,h1,h2,h3,h4⟩:=hr;refine⟨hd,xs,h1,sF.2 h2,fun v hv=>?_,by grind⟩;obtain⟨u,hu,rfl⟩:=L3.1 hv;exact⟨h3 u hu,rfl⟩
theorem aR6 : ∀{l:List HV} {l':List CV},HV.toCL l=some l'→l'.length=l.length
 |[],l',h=>by grind[HV.toCL,Option.some.injEq]
 |v::vs,l',h=>by
  simp only[HV.toCL]at h;split at h
  · rename_i a b h1 h2;cases h;simp[aR6 h2]
  grind
theorem aR7 : ∀{l:List HV} {l':List CV} {sz:Nat},HV.toCL l=some l'→(∀v∈l,v.cells=sz∧v.sto=true)→ ∀u∈l',u.cells=sz
 |[],l',sz,h,_=>by grind[HV.toCL,Option.some.injEq]
 |v::vs,l',sz,h,hc=>by
  simp only[HV.toCL]at h;split at h
  ·
   rename_i a b h1 h2;cases h;intro u hu;rcases E9.1 hu with rfl|hu
   · rw[HV.toC_cells h1];grind
   · exact aR7 h2 (fun x hx=>hc x (by grind)) u hu
  grind
theorem aK4 {code:Code}(id:Nat){e:TypeId}{sz:Nat}{l:List HV}(l':List CV)(hb:ob id=some (.hrow e sz l))(hl:HV.toCL l=some l')(h:Hw P n k code Q fr (upd ob id (some (.row e sz l'))) nx):Hw P n k code Q fr ob nx:=by
 refine bG8 (o':= .row e sz l') id hb (fun w ρ O hr=>?_) (fun M _=>trivial) h;obtain⟨hd,xs,h1,h2,h3,h4⟩:=hr;exact⟨hd,xs,h1,HV.toCL_spec hl h2,aR7 hl h3,by grind[aR6]⟩
theorem cI4 {code:Code}(id i off e sz:Nat){T:TypeId}{sz':Nat}{l:List HV}{v':HV}(hb:ob id=some (.hrow T sz' l))(hi:i<l.length)(hg:HV.getAt off 1 false (kJ l i)=some (.c .nils))(hv:HV.setAt off 1 (.own nx 0) (kJ l i)=some v')
  (h:Hw P n k code Q fr (upd (upd ob nx (some (.row e sz []))) id (some (.hrow T sz' (l.set i v')))) (nx+1)):Hw P n k code Q fr ob nx:=by
 intro c a w hn hk hz hA;refine h c a w hn hk hz ?_;obtain⟨ρ,hA⟩:=hA;have hid:id<nx:=(hA.mo id _ hb).1;have hA':=hA.emptyRow (M':=(· <nx+1)) (id:=nx) (e:=e) (sz:=sz) (by omega) (fun i hi=>by omega) (by omega);have hb':upd ob nx (some (.row e sz [])) id=some (.hrow T sz' l):=by rw[bJ _ _ (by omega)];exact hb
 obtain⟨hd,xs,e1,e2,e3,e4⟩:=hA'.s.objs id _ hb';have hst:=(e3 _ (jT hi)).2;obtain⟨c1,c2,c3,f0,f1,f2,f3⟩:=pV (u:=v') e2 (fun v hv=>(e3 v hv).1) hi;have f4:=rL hg hst hv (aU _ _ _) f2;obtain⟨d1,d2,d3,g0,g1,g2,g3,g4,g5⟩:=HV.setAt_spec (x:= .own nx 0) rfl hv hst f2;have hc:v'.cells=sz':=by rw[←bZ f4,bZ f2];exact(e3 _ (jT hi)).1
 refine⟨_,⟨fun j o ho=>?_,fun j hj=>?_,hA'.s.apart,hA'.s.xb⟩,hA'.f,hA'.mf,fun j o ho=>?_,hA'.m0,hA'.base,hA'.moves,hA'.defers,hA'.size,hA'.xlt⟩
 ·
  by_cases e':j=id
  ·
   subst e';rw[aU]at ho;cases ho;refine⟨hd,xs,e1,by rw[f0];exact f3 _ f4,fun v hv=>?_,by rw[M6];exact e4⟩;rcases K4 hv with hv|rfl
   · exact e3 v hv
   · exact⟨hc,g4⟩
  · rw[bJ _ _ e']at ho;exact hA'.s.objs j o ho
 ·
  by_cases e':j=id
  · subst e';rw[aU]at hj;cases hj
  · rw[bJ _ _ e']at hj;exact hA'.s.none j hj
 ·
  by_cases e':j=id
  · subst e';rw[aU]at ho;cases ho;have hmn:=(hA'.mo j _ hb').2;exact⟨(hA'.mo j _ hb').1,pU (g5 _ (by simp[HV.men]) (sL hmn (jT hi))) hmn⟩
  · rw[bJ _ _ e']at ho;exact hA'.mo j o ho
def mF (ob:Ob)(id:Nat):Ob:=fun i=>if i=id then none else ob i
theorem cI5 (ob:Ob)(id i:Nat):mF ob id i=if i=id then none else ob i:=rfl
theorem aD7 {code:Code}(t id:Nat){T:TypeId}{v:CV}(ht:fr t= .ptr id 0)(hb:ob id=some (.box T (.c v)))
  (h:Hw P n k code Q (upd fr t (.c (.rp v))) (mF ob id) nx):Hw P n k code Q fr ob nx:=by
 intro c a w hn hk hz hA;refine h c a w hn hk hz ?_;obtain⟨ρ,h⟩:=hA
 let ρ2:Env:=fun i=>if i=id then none else ρ i
 have hρ2: ∀i L,ρ2 i=some L→ρ i=some L:=fun i L hL=>by grind
 have hown: ∀b,Own ρ2 b→Own ρ b:=fun b ⟨i,L,h1,h2⟩=>⟨i,L,hρ2 i L h1,h2⟩;have hst:Stay w (Owned ρ c.X) w (Owned ρ2 c.X):=Stay.same (fun b _ hb=>hb.imp (fun x=>x) (hown b));have hmv: ∀M:Nat→Prop,Moves M ρ ρ2:=fun M i L _ hL=>⟨L,hρ2 i L hL,.inl rfl⟩;obtain⟨b,cs,e1,e2,e3⟩:=h.s.objs id _ hb;obtain⟨b',e1',he⟩:=kW (x:= .tmp t) h ht (by rw[hb];rfl);rw[e1]at e1';cases e1';have hnb: ¬Owned ρ2 c.X b:=by
  rintro(hx|⟨i,L,h1,h2⟩)
  · exact h.s.xb id _ b e1 rfl hx
  · have:=h.s.apart i id L _ b (hρ2 i L h1) e1 h2 rfl;grind
 refine⟨ρ2,⟨fun i o ho=>?_,fun i hi=>?_,fun i i' L L' b h1 h2 h3 h4=>h.s.apart i i' L L' b (hρ2 _ _ h1) (hρ2 _ _ h2) h3 h4,fun i L b h1 h2=>h.s.xb i L b (hρ2 _ _ h1) h2⟩,fun t' ht'=>?_,fun t'=>?_,fun i o ho=>?_,h.m0,?_,?_,h.defers,h.size,h.xlt⟩
 ·
  simp only[mF]at ho;split at ho
  · grind
  · rename_i hne;exact RepO.stay hst (hmv _) (h.mo i o ho).2 (by grind) (fun _ _ _ _=>rfl) (h.s.objs i o ho)
 ·
  simp only[mF]at hi;simp only[ρ2];split
  · rfl
  · rename_i hne;rw[A7 hne]at hi;exact h.s.none i hi
 ·
  by_cases e:t'=t
  · subst e;rw[aU];have he':a.tmps.getD t' undef= .pointer (some ⟨b,0,none⟩):=he;rw[he'];refine dD ?_ rfl rfl;simp only[RepC];simp only[RepH]at e3;refine⟨⟨b,0,none⟩,cs,rfl,e3.stay hst,fun j u hj=>?_,fun _=>hnb⟩;have hlt:j<cs.length:=(I2.1 hj).1;rw[eU,AF w b _ _ _ _ e2];simpa using hj
  · rw[bJ _ _ e]at ht'⊢;exact⟨RepH.stay hst (hmv _) (h.mf t') (h.f t' ht').1,(h.f t' ht').2⟩
 ·
  by_cases e:t'=t
  · grind[aU,HV.men]
  · rw[bJ _ _ e];exact h.mf t'
 ·
  simp only[mF]at ho;split at ho
  · grind
  · exact h.mo i o ho
 · exact h.base.trans ⟨fun _ _ _=>rfl,fun b hb=> .inl (hown b hb),F2 _,rfl,rfl,rfl⟩
 · exact Moves.trans (fun _ h=>h) h.moves (hmv _)
end
def nJ (ops:Array Oper)(p:Nat):Bool:=match ops[p]? with|some o=>cE o.op|none=>true
def effAt (ops:Array Oper)(p:Nat):Bool:=match ops[p]? with|some o=>isEff o.op|none=>false
def ids4 (nx p:Nat):List Nat:=[nx+4*p,nx+4*p+1,nx+4*p+2,nx+4*p+3]
def getF (C:kY)(p:Nat):List Nat:=C.flatMap fun q=>if q.1=p then q.2 else []
abbrev oP :=List (Nat×List Nat×List Nat)
def hwalk2G (P:Program)(ops:Array Oper)(nx:Nat)(Q:Fr→Ob→Prop):oP→kY→Fr→Ob→Prop
 |[],_,fr,ob=>Q fr ob
 |(i,cr,rd)::rest,C,fr,ob=>eE P ops nx (cr.flatMap (ids4 nx)++rd.flatMap (getF C)) i (hwalk2G P ops nx Q rest (match ops[i]? with
   |some o=>if isEff o.op=true then C else(i,if hguard ops o fr=some true then touch o.op (ev fr)else [])::C
   |none=>C)) fr ob
def chk (ops:Array Oper)(wt:Nat→Nat→Bool):oP→List Nat→Bool
 |[],_=>true
 |(i,cr,rd)::rest,T=>T.all (fun p=>wt i p||((nJ ops p||cr.contains p)&&(!(effAt ops i)||rd.contains p)))&&chk ops wt rest (if effAt ops i then T else i::T)
theorem bV6 {av':List Nat}{K:Fr→Ob→Prop}(hav: ∀id,(ob id).isSome=true→id∈av→id∈av')(h:eE P ops nx av' i K fr ob):
  eE P ops nx av i (fun fr' ob'=>K fr' ob'∧(∀id,ob id=none→(nJ ops i=true∨ ¬(nx+4*i≤id∧id<nx+4*i+4))→ob' id=none)) fr ob:=by
 unfold eE at h⊢;cases ho:ops[i]? with
 |none=>grind
 |some o=>
  rw[ho]at h;simp only at h⊢;cases hg:hguard ops o fr with
  |none=>grind
  |some b=>
   rw[hg]at h;cases b with
   |false=>grind
   |true=>
    simp only at h⊢;unfold fB at h⊢;cases hc:hcallOf o.op with
    |none=>
     rw[hc]at h;simp only at h⊢;obtain⟨v,u,hK,hform,hid,hq⟩:=yD h.2;refine⟨fun id hi=>⟨fun hin=>(h.1 id hi).1 (hav id (h.1 id hi).2 hin),(h.1 id hi).2⟩,hform ob (fun _ _=>rfl) _ ⟨hK,fun id h1 h2=>?_⟩⟩;grind[kQ,nJ]
    |some p=>
     obtain⟨f,xs⟩:=p;rw[hc]at h;simp only at h⊢;obtain⟨h1,nd,h⟩:=h;refine⟨h1,nd,?_⟩;have hnq:nJ ops i=false:=by
      simp only[nJ,ho];cases hop':o.op<;>rw[hop']at hc<;>simp only[hcallOf]at hc<;>try cases hc
      rename_i cl;grind[cE]
     have hcall: ∀g args,HCallL P av' g args ob (nx+4*i) (fun v ob'=>K (updo fr o.dst v) ob')→HCallL P av g args ob (nx+4*i) (fun v ob'=>K (updo fr o.dst v) ob'∧(∀id,ob id=none→(nJ ops i=true∨ ¬(nx+4*i≤id∧id<nx+4*i+4))→ob' id=none)):=by
      rintro g args ⟨σ,largs,lob,R,h1,h2,h3,h5,h6,h7⟩;have hσ: ∀j,j<σ.length→(ob (σ.getD j 0)).isSome=true:=fun j hj=>by
       obtain⟨o',ho'⟩:=h2.all j hj;grind
      refine⟨σ,largs,lob,R,h1,h2,⟨h3.1,fun j hj=>(h3.2 j hj).imp (fun h hin=>h (hav _ (hσ j hj) hin)) (fun h=>h)⟩,h5,h6,fun r lob' hR hr=>⟨h7 r lob' hR hr,fun id e1 e2=>?_⟩⟩
      ·
       unfold cJ;split
       · rename_i j hj;exfalso;rw[J1]at hj;obtain⟨hj1,hj2,_⟩:=hj;have:=hσ j hj1;rw[C7,B5 hj1,E0]at this;simp only[G9]at hj2;rw[hj2,e1]at this;cases this
       ·
        rcases e2 with e2|e2
        · rw[hnq]at e2;cases e2
        · rw[A7 e2];exact e1
     grind
theorem yH {P:Program}{ops:Array Oper}{nx:Nat}{wt:Nat→Nat→Bool}{Q:Fr→Ob→Prop}: ∀(plan:oP) (C:kY) (fr:Fr) (ob:Ob),chk ops wt plan (C.map (·.1))=true→
  (∀p,nJ ops p=true→ ∀t,t<4→ob (nx+4*p+t)=none)→hwalk2G P ops nx Q plan C fr ob→oM P ops nx wt Q (plan.map (·.1)) C fr ob
 |[],C,fr,ob,_,_,h=>h
 |(i,cr,rd)::rest,C,fr,ob,hc,hn,h=>by
  simp only[hwalk2G,oM,D0,chk,A6]at h hc⊢;have hav: ∀id,(ob id).isSome=true→id∈kE ops nx wt C i→id∈cr.flatMap (ids4 nx)++rd.flatMap (getF C):=by
   intro id hs hid;simp only[kE,K6]at hid;obtain⟨p,hp,hid⟩:=hid;have hT:=H6.1 hc.1 p.1 (L3.2 ⟨p,hp,rfl⟩);split at hid
   · grind
   ·
    rename_i hw;have hw':wt i p.1=false:=by simpa using hw
    simp only[hw',A9,A6,N8,J8]at hT;rcases F4.1 hid with hid|hid
    ·
     rcases hT.1 with hq|hq
     ·
      simp only[E9,I7,P1]at hid;have: ∃t,t<4∧id=nx+4*p.1+t:=by
       rcases hid with e|e|e|e
       · simp_all
       · grind
       · grind
       · grind
      grind
     · refine M5 _ (K6.2 ⟨p.1,by grind,hid⟩)
    ·
     split at hid
     ·
      rename_i he;have he':effAt ops i=true:=by
       simp only[effAt];cases ho:ops[i]? with
       |none=>grind[absurd,eE]
       |some o=>grind
      rcases hT.2 with h'|h'
      · grind
      · refine J5 _ (K6.2 ⟨p.1,by grind,?_⟩);exact K6.2 ⟨p,hp,by grind⟩
     grind
  refine kZ (fun _ h=>h) (fun fr' ob' hK=>?_) (bV6 hav h);refine yH rest _ fr' ob' ?_ (fun p hq t ht=>?_) hK.1
  · grind[effAt,absurd,eE,isEff]
  · refine hK.2 _ (hn p hq t ht) ?_;by_cases e:i=p;all_goals grind
theorem cP (hm:P.follows .mixedOrders=true)(plan:oP)(ms:List Nat)(hd:jH n ops=true)(hp:lA ops (plan.map (·.1)) (Array.replicate ops.size false)=true)(hw1:aR2 ops ms=true)
  (hw2:ms.all (fun m=>decide (m<2^ms.length))=true) (hl:plan.length=ops.size) (hc:chk ops (aK3 ms) plan []=true)
  (h:hwalk2G P ops nx (fun fr' ob'=>Q .normal fr' ob' (nx+4*ops.size)) plan [] fr ob):Hw P n k (.region id ops true) Q fr ob nx:=by
 intro c a w hn hk hz hA;have hf: ∀id,nx≤id→ob id=none:=fun id hid=>by
  obtain⟨ρ,hA'⟩:=hA;exact(hA'.nid_none (nid:=id) (by omega)).1
 exact bG7 hm (plan.map (·.1)) ms hd hp hw1 hw2 (by grind) (yH plan [] fr ob hc (fun p _ t _=>hf _ (by omega)) h) c a w hn hk hz hA
def hwalk2 (P:Program)(ops:Array Oper)(nx:Nat)(Q:Fr→Ob→Prop):oP→kY→Fr→Ob→Prop
 |[],_,fr,ob=>Q fr ob
 |(i,cr,rd)::rest,C,fr,ob=>hopI P ops nx (cr.flatMap (ids4 nx)++rd.flatMap (getF C)) i (hwalk2 P ops nx Q rest (match ops[i]? with
   |some o=>if isEff o.op=true then C else(i,if hguard ops o fr=some true then touch o.op (ev fr)else [])::C
   |none=>C)) fr ob
theorem aR8 {P:Program}{ops:Array Oper}{nx:Nat}{Q:Fr→Ob→Prop}: ∀{l:oP} {C:kY} {fr:Fr} {ob:Ob},hwalk2 P ops nx Q l C fr ob→hwalk2G P ops nx Q l C fr ob
 |[],_,_,_,h=>h
 |(_,_,_)::_,_,_,_,h=>uO (fun _ _=>aR8) h
theorem bV7 (hm:P.follows .mixedOrders=true)(plan:oP)(ms:List Nat)(hd:jH n ops=true)(hp:lA ops (plan.map (·.1)) (Array.replicate ops.size false)=true)(hw1:aR2 ops ms=true)
  (hw2:ms.all (fun m=>decide (m<2^ms.length))=true) (hl:plan.length=ops.size) (hc:chk ops (aK3 ms) plan []=true)
  (h:hwalk2 P ops nx (fun fr' ob'=>Q .normal fr' ob' (nx+4*ops.size)) plan [] fr ob):Hw P n k (.region id ops true) Q fr ob nx:=
 cP hm plan ms hd hp hw1 hw2 hl hc (aR8 h)
variable {K:HV→Ob→Prop}
theorem jK {args:List CV}(h:cG P f args R)(hfree:ob nid=none∧ob (nid+1)=none∧ob (nid+2)=none∧ob (nid+3)=none)(hK: ∀v,R v→K (.c v) ob):
  HCall P av f (args.map .c) ob nid K:=by
 refine⟨[],args.map .c,dK,_,h,kR args,⟨I3,by simp⟩,(HV.renL_c _ _).symm,fun j o h=>by simp[dK]at h,fun r lob' hR _=>?_⟩;obtain⟨v,rfl,hv,rfl⟩:=hR;rw[lQ (fun i h1 h2=>?_)]
 · exact hK v hv
 grind
def bV8 (P:Program)(f:FuncId)(args:List HV)(R:CV→Prop):Prop:=
 HFn P f args 0 dK (fun r ob'=> ∃v,r= .c v∧R v∧ob'=dK)
theorem bG9 (hm:HV.menL (· <0) args):LocOk 0 args dK:=⟨fun j h=>by omega,fun id o h=>by simp[dK]at h,hm⟩
theorem bB0 (h:bV8 P f args R)(hm:HV.menL (· <0) args)(hr: ∀m,HV.renL m args=args)
  (hfree:ob nid=none∧ob (nid+1)=none∧ob (nid+2)=none∧ob (nid+3)=none) (hK: ∀v,R v→K (.c v) ob):HCall P av f args ob nid K:=by
 refine⟨[],args,dK,_,h,bG9 hm,⟨I3,by simp⟩,(hr _).symm,fun j o h=>by simp[dK]at h,fun r lob' hR _=>?_⟩;obtain⟨v,rfl,hv,rfl⟩:=hR;rw[lQ (fun i h1 h2=>?_)]
 · exact hK v hv
 grind
theorem cX {α:Type}{f:α→CV}(h: ∀x,(f x).denil=f x): ∀l:List α,CV.denilL (l.map f)=l.map f
 |[]=>rfl
 |x::l=>by simp only[D0,CV.denilL,h,cX h l]
theorem denilL_str (l:List (List UInt8)):CV.denilL (l.map .str)=l.map .str:=cX (fun _=>rfl) l
theorem denilL_int (k:IntKind)(l:List Int):CV.denilL (l.map (.int k))=l.map (.int k):=cX (fun _=>rfl) l
theorem cells_mem_str {l:List (List UInt8)}:(∀v∈l.map CV.str,v.cells=1)↔True:=by simp[CV.cells]
def bB1 (P:Program)(f:FuncId)(T:TypeId)(v:CV)(args:List CV)(R:CV→CV→Prop):Prop:=
 HFn P f (.ptr 0 0::args.map .c) 1 (fob [(0,.box T (.c v))]) (fun r ob'=> ∃u v',r= .c u∧ob'=fob [(0,.box T (.c v'))]∧R u v')
theorem dV (T:TypeId)(v:CV)(args:List CV):LocOk 1 (.ptr 0 0::args.map .c) (fob [(0,.box T (.c v))]):=by
 refine⟨fun j h=>?_,fun id o h=>?_,?_⟩
 ·
  have:j=0:=by omega
  subst this;exact⟨_,rfl⟩
 ·
  by_cases e:id=0
  · subst e;simp only[fob_at,F7,D6]at h;grind[HO.men,HV.men]
  grind[fob_at,fob_nil]
 grind[HV.menL,HV.men,HV.menL_c]
variable {T:TypeId}
theorem gK {r w:HV}{R:CV→CV→Prop}(cl:List Nat)(u v':CV)(h:(r.close ob cl).norm= .c u)(hb:ob 0=some (.box T w))(hw:(w.close ob cl).norm= .c v')(h0:0∉cl)(hR:R u v'):
  lC 1 r ob (fun r ob'=> ∃u v',r= .c u∧ob'=fob [(0,.box T (.c v'))]∧R u v'):=by
 refine⟨cl,id,.c u,fob [(0,.box T (.c v'))],⟨u,v',rfl,rfl,hR⟩,by rw[h];rfl,fun _ _=>rfl,fun _ _ _ _ h=>h,by simp[HV.men],fun j o ho=>?_⟩;by_cases e:j=0
 · subst e;simp only[fob_at,F7,D6]at ho;subst ho;refine⟨by omega,by simp[HO.men,HV.men],h0,.box T w,hb,?_⟩;simp only[hw];rfl
 grind[fob_at,fob_nil]
theorem cC {id:Nat}{v:CV}{args:List CV}{R:CV→CV→Prop}(h:bB1 P f T v args R)(hid:ob id=some (.box T (.c v)))(hav:id∉av)
  (hfree:ob nid=none∧ob (nid+1)=none∧ob (nid+2)=none∧ob (nid+3)=none) (hK: ∀u v',R u v'→K (.c u) (upd ob id (some (.box T (.c v'))))):
  HCall P av f (.ptr id 0::args.map .c) ob nid K:=by
 refine⟨[id],.ptr 0 0::args.map .c,_,_,h,dV T v args,⟨by simp,by grind⟩,?_,fun j o hj=>?_,fun r lob' hR _=>?_⟩
 · simp only[HV.renL,HV.ren,HV.renL_c];rfl
 ·
  by_cases e:j=0
  · subst e;simp only[fob_at,F7,D6]at hj;grind[HO.ren,HV.ren]
  grind[fob_at,fob_nil]
 ·
  obtain⟨u,v',rfl,rfl,hR⟩:=hR;have e:cJ ob [id] nid (fob [(0,.box T (.c v'))])=upd ob id (some (.box T (.c v'))):=by
   funext i;by_cases e:i=id
   · subst e;simp only[cJ,aU,N1,L9,F7,fob_at,H8];rfl
   ·
    have e':(id==i)=false:=by simp;exact fun h=>e h.symm
    simp only[cJ,N1,e',U6,T1,bJ _ _ e];simp only[E7,J2];split
    ·
     rename_i hr;have h1:[id].length+(i-nid)≠0:=by simp
     rw[fob_at,A7 h1,fob_nil];grind
    · rfl
  rw[e];exact hK u v' hR
section
variable {P:Program}{ti:TyI}{t t2 f nid nx i:Nat}{a a' b b' x x' y y':HV}{ob ob':Ob}{K:HV→Prop}{KO:HV→Ob→Prop}{KC:CV→Prop}
@[congr] theorem cW6 (h:a=a'):hload ti a ob K=hload ti a' ob K:=by rw[h]
@[congr] theorem cV5 (h:a=a')(h2:b=b'):hstore ti a b ob KO=hstore ti a' b' ob KO:=by rw[h,h2]
@[congr] theorem cH7 (h:a=a'):hfieldAddr P t a f ob K=hfieldAddr P t a' f ob K:=by rw[h]
@[congr] theorem cH8 (h:a=a')(h2:b=b'):hindexAddr P t a b ob K=hindexAddr P t a' b' ob K:=by rw[h,h2]
@[congr] theorem cV6 {ps:List (Nat×Operand)}{e:Operand→HV}{ps':List (Nat×Operand)}(h:ps=ps'):iK ti ps e K=iK ti ps' e K:=by rw[h]
@[congr] theorem cV7 {lo lo' hi hi':Option HV}(h:a=a')(h1:lo=lo')(h2:hi=hi'):hslice P t a lo hi K=hslice P t a' lo' hi' K:=by rw[h,h1,h2]
@[congr] theorem cV8 (h:a=a')(h2:b=b'):hindex P t a b K=hindex P t a' b' K:=by rw[h,h2]
@[congr] theorem dA3 (h:a=a'):hext a i K=hext a' i K:=by rw[h]
@[congr] theorem cW7 (h:a=a'):hconv P t t2 a K=hconv P t t2 a' K:=by rw[h]
@[congr] theorem dB2 {op:UnOp}(h:a=a'):hun op a K=hun op a' K:=by rw[h]
@[congr] theorem dA4 {l l':List HV}(h:l=l'):hclo f l K=hclo f l' K:=by rw[h]
@[congr] theorem dA5 {mx:Bool}(h:a=a')(h2:b=b'):hmax mx a b K=hmax mx a' b' K:=by rw[h,h2]
@[congr] theorem cW8 (h:x=x')(h1:a=a')(h2:b=b'):hpick x a b K=hpick x' a' b' K:=by rw[h,h1,h2]
@[congr] theorem cR8 (h:a=a')(h2:b=b'):happend P t a b nid ob KO=happend P t a' b' nid ob KO:=by rw[h,h2]
@[congr] theorem cP3 (h:a=a')(h2:b=b'):happend2 P t a b nid ob KO=happend2 P t a' b' nid ob KO:=by rw[h,h2]
@[congr] theorem cR9 {lo lo' hi hi':Option HV}(h:a=a')(h1:lo=lo')(h2:hi=hi')(h3:ob=ob'):hslice2 P t a lo hi ob K=hslice2 P t a' lo' hi' ob' K:=by rw[h,h1,h2,h3]
@[congr] theorem cS0 {lo lo':Option HV}{hi hi' mx mx':HV}(h:a=a')(h1:lo=lo')(h2:hi=hi')(h3:mx=mx'):hslice3 P t a lo hi mx K=hslice3 P t a' lo' hi' mx' K:=by rw[h,h1,h2,h3]
@[congr] theorem cW9 (h:a=a')(h2:b=b')(h3:ob=ob'):hcopy P t a b ob KO=hcopy P t a' b' ob' KO:=by rw[h,h2,h3]
@[congr] theorem cV9 (h:a=a'):hclear P t a ob KO=hclear P t a' ob KO:=by rw[h]
@[congr] theorem cS1 (h:a=a')(h2:b=b'):hlookup P t a b ob K=hlookup P t a' b' ob K:=by rw[h,h2]
@[congr] theorem cH9 (h:a=a')(h2:b=b')(h3:x=x'):hmapUpdate P t a b x ob KO=hmapUpdate P t a' b' x' ob KO:=by rw[h,h2,h3]
@[congr] theorem dA6 {op:BinOp}(h:a=a')(h2:b=b'):kI P op t a b KC=kI P op t a' b' KC:=by rw[h,h2]
@[congr] theorem dA7 {op:BinOp}{k:IntKind}{m m' n n':Int}(h:m=m')(h2:n=n'):hint op k m n KC=hint op k m' n' KC:=by rw[h,h2]
@[congr] theorem cW0 {op:BinOp}{k:IntKind}{m m' n n':Int}(h:m=m')(h2:n=n'):hshift op k m n KC=hshift op k m' n' KC:=by rw[h,h2]
@[congr] theorem dA8 {op:BinOp}{m m' n n':List UInt8}(h:m=m')(h2:n=n'):hstr op m n KC=hstr op m' n' KC:=by rw[h,h2]
@[congr] theorem cX0 {ops:Array Oper}{G:Fr→Ob→Prop}{l l':List Nat}{fr fr':Fr}(h:l=l')(h1:fr=fr')(h2:ob=ob'):hlexG P ops nx G l fr ob=hlexG P ops nx G l' fr' ob':=by rw[h,h1,h2]
@[congr] theorem cS2 {ops:Array Oper}{G:Fr→Ob→Prop}{l:oP}{C C':kY}{fr fr':Fr}(h:C=C')(h1:fr=fr')(h2:ob=ob'):hwalk2G P ops nx G l C fr ob=hwalk2G P ops nx G l C' fr' ob':=by rw[h,h1,h2]
@[congr] theorem cX1 {av av':List Nat}{l l':List HV}{n n':Nat}(h1:av=av')(h2:l=l')(h3:ob=ob')(h4:n=n'):HCall P av f l ob n KO=HCall P av' f l' ob' n' KO:=by rw[h1,h2,h3,h4]
theorem updo_at (fr:Fr)(d:Nat)(v:HV)(t:Nat):updo fr (some d) v t=if t=d then v else fr t:=rfl
theorem updo_none (fr:Fr)(v:HV):updo fr none v=fr:=rfl
theorem hbin_int {op:BinOp}{k k':IntKind}{m n:Int}:kI P op t (.c (.int k m)) (.c (.int k' n)) KC=if isShift op then hshift op k m n KC else k=k'∧hint op k m n KC:=rfl
theorem hbin_str {op:BinOp}{m n:List UInt8}:kI P op t (.c (.str m)) (.c (.str n)) KC=hstr op m n KC:=rfl
theorem hbin_bool {op:BinOp}{m n:Bool}:kI P op t (.c (.bool m)) (.c (.bool n)) KC=hlift (aT P t) fun ti=>ti.d= .bool∧match op with
  | .eql=>KC (.bool (m==n))
  | .neq=>KC (.bool (!(m==n)))
  |_=>False:=rfl
end
end Go.Hl
namespace Go.Pl
open Go Go.Hl
abbrev aH :=List UInt8
abbrev Dig :={l:List UInt8//l.length=32}
def dgl (d:Dig):List CV:=d.1.map fun b=> .int .u8 b.toNat
def dg (d:Dig):CV:= .agg (dgl d)
def zdg :Dig:=⟨List.replicate 32 0,by simp⟩
def zd :CV:=dg zdg
def dgi (k:IntKind)(n:Int):CV:= .agg (.int k n::List.replicate 31 (.int .u8 0))
theorem vX : ∀{α:Type} (l:List α) (k:IntKind) (f:α→Int),CV.cellsL (l.map fun b=> .int k (f b))=l.length
 |_,[],_,_=>rfl
 |_,x::l,k,f=>by simp only[D0,CV.cellsL,CV.cells,vX l,B0];omega
theorem dg_cells (d:Dig):(dg d).cells=32:=by simp only[dg,dgl,CV.cells,vX,d.2]
theorem dg_isAgg (d:Dig):(dg d).isAgg=true:=rfl
theorem vY : ∀{α:Type} (l:List α) (k:IntKind) (f:α→Int),CV.denilL (l.map fun b=> .int k (f b))=l.map fun b=> .int k (f b)
 |_,[],_,_=>rfl
 |_,x::l,k,f=>by simp only[D0,CV.denilL,CV.denil,vY l]
theorem dg_denil (d:Dig):(dg d).denil=dg d:=by simp only[dg,dgl,CV.denil,vY]
theorem dg_getAt (d:Dig):CV.getAt 0 32 true (dg d)=some (dg d):=by
 have:=dg_cells d;simp_all[dg,CV.cells,CV.getAt,J7,F7]
theorem dg_setAt (d:Dig)(x:HV):CV.setAt 0 32 x (dg d)=some x:=by
 have:=dg_cells d;simp_all[dg,CV.cells,CV.setAt,J7,F7]
def bB2 (ti:TyI)(v:HV)(K:HV→Prop):Prop:=iK ti [(0,.tmp 0)] (fun _=>v) K
def hbuildDig (ti:TyI)(v:HV)(K:HV→Prop):Prop:=
 match v with
 | .c (.int k n)=>K (.c (dgi k n))
 |v=>bB2 ti v K
@[congr] theorem cI6 {ti:TyI}{v v':HV}{K:HV→Prop}(h:v=v'):hbuildDig ti v K=hbuildDig ti v' K:=by rw[h]
theorem hbuild_dig {bytes:Nat}{t:TypeId}{e:Operand→HV}{x:Operand}{K:HV→Prop}:iK ⟨32,bytes,.array 32 t,zd⟩ [(0,x)] e K=hbuildDig ⟨32,bytes,.array 32 t,zd⟩ (e x) K:=by
 have key:iK ⟨32,bytes,.array 32 t,zd⟩ [(0,x)] e K=iK ⟨32,bytes,.array 32 t,zd⟩ [(0,.tmp 0)] (fun _=>e x) K:=rfl;rw[key];unfold hbuildDig;split
 ·
  rename_i k n h;rw[h];have:hfill (fun _=>HV.c (.int k n)) [(0,.tmp 0)] ((dgl zdg).map .c)=some (.c (.int k n)::(List.replicate 31 (CV.int .u8 0)).map .c):=by
   simp only[hfill];rfl
  simp only[iK,zd,dg,this,hlift_some];rfl
 · rfl
theorem hbuild_agg {s bytes:Nat}{d:TyD}{zs:List CV}{ps:List (Nat×Operand)}{e:Operand→HV}{K:HV→Prop}:iK ⟨s,bytes,d,.agg zs⟩ ps e K=hlift (hfill e ps (zs.map .c)) fun hs=>K (HV.norm (.agg hs)):=rfl
theorem aD8 : ∀(l m:List UInt8),CV.eqvL (l.map fun b=> .int .u8 b.toNat) (m.map fun b=> .int .u8 b.toNat)=(l==m)
 |[],[]=>rfl
 |[],_::_=>rfl
 |_::_,[]=>rfl
 |a::l,b::m=>by
  simp only[D0,CV.eqvL,CV.eqv,aD8 l m,List.cons_beq_cons];congr 1;rw[T7];simp only[G9];constructor
  · grind[UInt8.toNat_inj]
  grind
theorem cS3 (a b:Dig):CV.eqv (dg a) (dg b)=(a==b):=by simp_all[dg,dgl,CV.eqv,aD8,T7,G9,Subtype.ext_iff]
variable {z:CV}{e:TypeId}{n:Nat}{P:Program}
theorem bB3 {s b:Nat}(he:aT P e=some ⟨s,b,.int .u8,z⟩)(l:List UInt8):CV.ofTyA P (n+1) e (l.map fun b=> .int .u8 b.toNat)=true:=by
 induction l with
 |nil=>simp only[H1,CV.ofTyA]
 |cons x l ih=>
  rw[D0,CV.ofTyA,ih,D4];unfold CV.ofTy;rw[he];rfl
theorem bH0 {t:TypeId}{z':CV}{s b s' b':Nat}(ht:aT P t=some ⟨s,b,.array 32 e,z⟩)(he:aT P e=some ⟨s',b',.int .u8,z'⟩)(hc:P.cellsOf e=1)(d:Dig):CV.ofTy P (n+2) t (dg d)=true:=by
 have h1:(dgl d).length=32:=by simp only[dgl,A2,d.2]
 have h2:(dgl d).all (fun v=>v.cells==P.cellsOf e)=true:=by
  rw[hc];simp only[dgl,List.all_map,H6,Function.comp,CV.cells,L9,BN]
 simp only[dg,CV.ofTy,ht,h1,h2,L9,B1];exact bB3 he d.1
theorem bH1 {t:TypeId}{z':CV}{s b s' b':Nat}(ha:aP9 P t=true)(ht:aT P t=some ⟨s,b,.array 32 e,z⟩)(he:aT P e=some ⟨s',b',.int .u8,z'⟩)(hc:P.cellsOf e=1)(x y:Dig)(K:CV→Prop):
  kI P .eql t (.c (dg x)) (.c (dg y)) K=K (.bool (x==y))∧kI P .neq t (.c (dg x)) (.c (dg y)) K=K (.bool (!(x==y))):=by
 have h1:=bH0 (n:=6) ht he hc x;have h2:=bH0 (n:=6) ht he hc y;have h3:=cS3 x y;simp_all[dg,kI,J7,V5]
structure Rp where
 s:Dig
 r:Dig
 o:Dig
 at_:Int
structure Rb where
 w:aH
 p:Rp
def Rp.cv (x:Rp):CV:= .agg [.agg [dg x.s,dg x.r,dg x.o],.int .i64 x.at_]
def Rb.cv (x:Rb):CV:= .agg [.str x.w,x.p.cv]
theorem Rb.denil (x:Rb):x.cv.denil=x.cv:=by simp only[Rb.cv,Rp.cv,CV.denil,CV.denilL,dg_denil]
theorem Rp.denil (x:Rp):x.cv.denil=x.cv:=by simp only[Rp.cv,CV.denil,CV.denilL,dg_denil]
theorem Rb.cells (x:Rb):x.cv.cells=98:=by simp[Rb.cv,Rp.cv,CV.cells,CV.cellsL,dg_cells]
theorem Rp.cells (x:Rp):x.cv.cells=97:=by simp[Rp.cv,CV.cells,CV.cellsL,dg_cells]
theorem Rb.getAll (x:Rb):CV.getAt 0 98 true x.cv=some x.cv:=by
 have:=Rb.cells x;simp_all[Rb.cv,CV.cells,CV.getAt,J7,F7]
theorem Rp.getAll (p:Rp):CV.getAt 0 97 true p.cv=some p.cv:=by
 have:=Rp.cells p;simp_all[Rp.cv,CV.cells,CV.getAt,J7,F7]
theorem Rb.isAgg (x:Rb):x.cv.isAgg=true:=rfl
theorem Rp.isAgg (x:Rp):x.cv.isAgg=true:=rfl
def dC9 (some:List Rb)(x:Rb):Bool:=some.all fun y=>!(y.w==x.w)||decide (y.p.at_≤x.p.at_)
structure Jd where
 a:List aH
 d:List aH
 f:List aH
def ns (l:List aH):CV:=if l=[]then .nils else .slc (l.map .str)
abbrev W32 :=BitVec 32
def w32 (x:W32):CV:= .int .u32 (x.toNat:Int)
def ws (l:List W32):CV:= .agg (l.map w32)
def u8 (x:UInt8):CV:= .int .u8 (x.toNat:Int)
def us (l:List UInt8):CV:= .agg (l.map u8)
def itN {α:Type}(f:Nat→α→α):Nat→α→α
 |0,s=>s
 |n+1,s=>f n (itN f n s)
def gw (l:List W32)(i:Nat):W32:=l.getD i 0
def gb (l:List UInt8)(i:Nat):UInt8:=l.getD i 0
def aB0 (x:W32)(n:Nat):W32:=(x>>>n)|||(x<<<(32-n))
def bw (x:UInt8):W32:=BitVec.ofNat 32 x.toNat
def be (b:List UInt8)(i:Nat):W32:=((bw (gb b (4*i))<<<24|||bw (gb b (4*i+1))<<<16)|||bw (gb b (4*i+2))<<<8)|||bw (gb b (4*i+3))
def sg0 (x:W32):W32:=(aB0 x 7^^^aB0 x 18)^^^(x>>>3)
def sg1 (x:W32):W32:=(aB0 x 17^^^aB0 x 19)^^^(x>>>10)
def wA (b:List UInt8)(n:Nat):List W32:=itN (fun i w=>w.set i (be b i)) n (List.replicate 64 0)
def wB (w:List W32)(n:Nat):List W32:=itN (fun i w=>w.set (i+16) (((gw w i+sg0 (gw w (i+1)))+gw w (i+9))+sg1 (gw w (i+14)))) n w
def cS4 (b:List UInt8):List W32:=wB (wA b 16) 48
def cX2 :List W32:=[
 0x428a2f98,0x71374491,0xb5c0fbcf,0xe9b5dba5,0x3956c25b,0x59f111f1,0x923f82a4,0xab1c5ed5,
 0xd807aa98,0x12835b01,0x243185be,0x550c7dc3,0x72be5d74,0x80deb1fe,0x9bdc06a7,0xc19bf174,
 0xe49b69c1,0xefbe4786,0x0fc19dc6,0x240ca1cc,0x2de92c6f,0x4a7484aa,0x5cb0a9dc,0x76f988da,
 0x983e5152,0xa831c66d,0xb00327c8,0xbf597fc7,0xc6e00bf3,0xd5a79147,0x06ca6351,0x14292967,
 0x27b70a85,0x2e1b2138,0x4d2c6dfc,0x53380d13,0x650a7354,0x766a0abb,0x81c2c92e,0x92722c85,
 0xa2bfe8a1,0xa81a664b,0xc24b8b70,0xc76c51a3,0xd192e819,0xd6990624,0xf40e3585,0x106aa070,
 0x19a4c116,0x1e376c08,0x2748774c,0x34b0bcb5,0x391c0cb3,0x4ed8aa4a,0x5b9cca4f,0x682e6ff3,
 0x748f82ee,0x78a5636f,0x84c87814,0x8cc70208,0x90befffa,0xa4506ceb,0xbef9a3f7,0xc67178f2]
structure St where
 (a b c d e f g h:W32)
def St.l (s:St):List W32:=[s.a,s.b,s.c,s.d,s.e,s.f,s.g,s.h]
def t1 (s:St)(k w:W32):W32:=(((s.h+((aB0 s.e 6^^^aB0 s.e 11)^^^aB0 s.e 25))+((s.e&&&s.f)^^^(~~~s.e&&&s.g)))+k)+w
def t2 (s:St):W32:=((aB0 s.a 2^^^aB0 s.a 13)^^^aB0 s.a 22)+(((s.a&&&s.b)^^^(s.a&&&s.c))^^^(s.b&&&s.c))
def rnd (w:List W32)(i:Nat)(s:St):St:=⟨t1 s (gw cX2 i) (gw w i)+t2 s,s.a,s.b,s.c,s.d+t1 s (gw cX2 i) (gw w i),s.e,s.f,s.g⟩
def cX3 (s r:St):St:=⟨s.a+r.a,s.b+r.b,s.c+r.c,s.d+r.d,s.e+r.e,s.f+r.f,s.g+r.g,s.h+r.h⟩
def comp (s:St)(p:List UInt8):St:=cX3 s (itN (rnd (cS4 p)) 64 s)
def blk (p:List UInt8)(n:Nat)(s:St):St:=itN (fun i s=>comp s ((p.drop (64*i)).take 64)) n s
def zs (n:Nat):Nat:=(119-n%64)%64
section
variable {α:Type}{f:α→CV}
theorem yI (hc: ∀x,(f x).cells=1): ∀l:List α,CV.cellsL (l.map f)=l.length
 |[]=>rfl
 |x::l=>by simp only[D0,CV.cellsL,hc,yI hc l,B0];omega
end
theorem us_cells (l:List UInt8):(us l).cells=l.length:=yI (fun _=>rfl) l
def wz (n:Nat):List W32:=List.replicate n 0
def uz (n:Nat):List UInt8:=List.replicate n 0
end Go.Pl
namespace Go.Hl
open Go
def gd (ops:Array Oper)(o:Oper):Option (Option (Nat×Bool)):=
 match o.guard with
 |none=>some none
 |some (j,want)=>match(ops[j]?).bind (·.dst)with
  |some d=>some (some (d,want))
  |none=>none
def hgd (g:Option (Nat×Bool))(fr:Fr):Option Bool:=
 match g with
 |none=>some true
 |some (d,want)=>match fr d with
  | .c (.bool b)=>some (b==want)
  | .tup _=>some false
  |_=>none
def hop1 (P:Program)(nid:Nat)(av:List Nat)(g:Option (Nat×Bool))(o:Op)(d:Option Nat)(K:Fr→Ob→Prop)(fr:Fr)(ob:Ob):Prop:=
 match hgd g fr with
 |some true=>hstep P av nid o (ev fr) ob fun v ob'=>K (updo fr d v) ob'
 |some false=>K (updo fr d (.tup [])) ob
 |none=>False
section
variable {P:Program}{ops:Array Oper}{nx i:Nat}{o:Oper}{g:Option (Nat×Bool)}{Q:Fr→Ob→Prop}{fr:Fr}{ob:Ob}
theorem fZ (hg:gd ops o=some g):hguard ops o fr=hgd g fr:=by grind[gd,hguard,hgd,bind]
theorem pZ {av:List Nat}{K:Fr→Ob→Prop}(ho:ops[i]? =some o)(hg:gd ops o=some g)(h:hop1 P (nx+4*i) av g o.op o.dst K fr ob):hopI P ops nx av i K fr ob:=by grind[hop1,hopI,fZ]
theorem aW {l:List Nat}(ho:ops[i]? =some o)(hg:gd ops o=some g)(h: ∀K:Fr→Ob→Prop,(∀fr ob,hlex P ops nx Q l fr ob→K fr ob)→hop1 P (nx+4*i) [] g o.op o.dst K fr ob):hlex P ops nx Q (i::l) fr ob:=by grind[hlex,pZ]
theorem cT {cr rd:List Nat}{l:oP}{C:kY}(ho:ops[i]? =some o)(hg:gd ops o=some g)
  (h: ∀K:Fr→Ob→Prop,(∀fr' ob',hwalk2 P ops nx Q l (if isEff o.op=true then C else(i,if hgd g fr=some true then touch o.op (ev fr)else [])::C) fr' ob'→K fr' ob')→
   hop1 P (nx+4*i) (cr.flatMap (ids4 nx)++rd.flatMap (getF C)) g o.op o.dst K fr ob):hwalk2 P ops nx Q ((i,cr,rd)::l) C fr ob:=by grind[hwalk2,pZ,fZ]
theorem cK {id n sz:Nat}{el:TypeId}{l:List CV}{ob:Ob}{K:HV→Ob→Prop}(hn:n=l.length)(h:K (.c (.slc l)) (upd ob id (some .dead))):bA3 id ob K (.own id n) (upd ob id (some (.row el sz l))):=
 ⟨n,el,sz,l,rfl,rfl,hn,h⟩
def fI (P:Program)(nid:Nat)(av:List Nat)(g:Option (Nat×Bool))(o:Op)(d:Option Nat)(id:Nat)(K:Fr→Ob→Prop)(fr:Fr)(ob:Ob):Prop:=
 match hgd g fr with
 |some true=>(hcallOf o=none∧iM nid o (ev fr)=some id)∧(∀i∈touch o (ev fr),i∉av∧(ob i).isSome=true)∧hop P nid o (ev fr) ob (bA3 id ob fun v ob'=>K (updo fr d v) ob')
 |some false=>K (updo fr d (.tup [])) ob
 |none=>False
theorem vZ {av:List Nat}{K:Fr→Ob→Prop}{id:Nat}(ho:ops[i]? =some o)(hg:gd ops o=some g)(h:fI P (nx+4*i) av g o.op o.dst id K fr ob):eE P ops nx av i K fr ob:=by
 unfold fI at h;unfold eE;rw[ho];simp only[fZ hg];cases hb:hgd g fr with
 |none=>grind
 |some b=>
  rw[hb]at h;cases b with
  |false=>exact h
  |true=>
   obtain⟨⟨h1,h2⟩,h3,h4⟩:=h;simp only;unfold fB;rw[h1];exact⟨h3,.inr (.inl ⟨id,h2,h4⟩)⟩
def hop1H (P:Program)(nid:Nat)(av:List Nat)(g:Option (Nat×Bool))(o:Op)(d:Option Nat)(K:Fr→Ob→Prop)(fr:Fr)(ob:Ob):Prop:=
 match hgd g fr with
 |some true=>hcallOf o=none∧(∀i∈touch o (ev fr),i∉av∧(ob i).isSome=true)∧hopH P nid o (ev fr) ob fun v ob'=>K (updo fr d v) ob'
 |some false=>K (updo fr d (.tup [])) ob
 |none=>False
theorem wC {av:List Nat}{K:Fr→Ob→Prop}(ho:ops[i]? =some o)(hg:gd ops o=some g)(h:hop1H P (nx+4*i) av g o.op o.dst K fr ob):eE P ops nx av i K fr ob:=by
 unfold hop1H at h;unfold eE;rw[ho];simp only[fZ hg];cases hb:hgd g fr with
 |none=>grind
 |some b=>
  rw[hb]at h;cases b with
  |false=>exact h
  |true=>
   obtain⟨h1,h3,h4⟩:=h;simp only;unfold fB;rw[h1];exact⟨h3,.inr (.inr h4)⟩
def hop1N (P:Program)(nid:Nat)(av:List Nat)(g:Option (Nat×Bool))(o:Op)(d:Option Nat)(K:Fr→Ob→Prop)(fr:Fr)(ob:Ob):Prop:=
 match hgd g fr with
 |some true=>match hcallOf o with
  |some (f,xs)=>(∀x∈xs,ev fr x≠ .junk)∧match ev fr f with
   | .c (.fn g)=>HCall P av g (xs.map fun x=>ev fr x) ob nid fun v ob'=>K (updo fr d v) ob'
   |_=>False
  |none=>False
 |some false=>K (updo fr d (.tup [])) ob
 |none=>False
theorem aR9 {av:List Nat}{K:Fr→Ob→Prop}(ho:ops[i]? =some o)(hg:gd ops o=some g)(h:hop1N P (nx+4*i) av g o.op o.dst K fr ob):eE P ops nx av i K fr ob:=by
 unfold hop1N at h;unfold eE;rw[ho];simp only[fZ hg];cases hb:hgd g fr with
 |none=>grind
 |some b=>
  rw[hb]at h;cases b with
  |false=>exact h
  |true=>
   simp only at h⊢;unfold fB;cases hc:hcallOf o.op with
   |none=>grind
   |some p=>
    rw[hc]at h;simp only at h⊢;obtain⟨h1,h2⟩:=h;refine⟨h1,true,?_⟩;split at h2
    · rename_i g hg;rw[hg];exact h2.L
    grind
def hop1L (P:Program)(nid:Nat)(av:List Nat)(g:Option (Nat×Bool))(o:Op)(d:Option Nat)(K:Fr→Ob→Prop)(fr:Fr)(ob:Ob):Prop:=
 match hgd g fr with
 |some true=>match hcallOf o with
  |some (f,xs)=>(∀x∈xs,ev fr x≠ .junk)∧match ev fr f with
   | .c (.fn g)=>HCallL P av g (xs.map fun x=>(ev fr x).den) ob nid fun v ob'=>K (updo fr d v) ob'
   |_=>False
  |none=>False
 |some false=>K (updo fr d (.tup [])) ob
 |none=>False
theorem aS0 {av:List Nat}{K:Fr→Ob→Prop}(ho:ops[i]? =some o)(hg:gd ops o=some g)(h:hop1L P (nx+4*i) av g o.op o.dst K fr ob):eE P ops nx av i K fr ob:=by
 unfold hop1L at h;unfold eE;rw[ho];simp only[fZ hg];cases hb:hgd g fr with
 |none=>grind
 |some b=>
  rw[hb]at h;cases b with
  |false=>exact h
  |true=>
   simp only at h⊢;unfold fB;cases hc:hcallOf o.op with
   |none=>grind
   |some p=>
    rw[hc]at h;simp only at h⊢;obtain⟨h1,h2⟩:=h;refine⟨h1,false,?_⟩;split at h2
    · rename_i g hg;rw[hg];exact h2
    grind
theorem rA {cr rd:List Nat}{l:oP}{C:kY}(ho:ops[i]? =some o)(hg:gd ops o=some g)
  (h: ∀K:Fr→Ob→Prop,(∀fr' ob',hwalk2G P ops nx Q l (if isEff o.op=true then C else(i,if hgd g fr=some true then touch o.op (ev fr)else [])::C) fr' ob'→K fr' ob')→
   hop1L P (nx+4*i) (cr.flatMap (ids4 nx)++rd.flatMap (getF C)) g o.op o.dst K fr ob):hwalk2G P ops nx Q ((i,cr,rd)::l) C fr ob:=by grind[hwalk2G,aS0,fZ]
theorem wD {l:List Nat}(ho:ops[i]? =some o)(hg:gd ops o=some g)(h: ∀K:Fr→Ob→Prop,(∀fr ob,hlexG P ops nx Q l fr ob→K fr ob)→hop1N P (nx+4*i) [] g o.op o.dst K fr ob):hlexG P ops nx Q (i::l) fr ob:=by grind[hlexG,aR9]
theorem aX {l:List Nat}(ho:ops[i]? =some o)(hg:gd ops o=some g)(h: ∀K:Fr→Ob→Prop,(∀fr ob,hlexG P ops nx Q l fr ob→K fr ob)→hop1H P (nx+4*i) [] g o.op o.dst K fr ob):hlexG P ops nx Q (i::l) fr ob:=by grind[hlexG,wC]
theorem bF {cr rd:List Nat}{l:oP}{C:kY}(ho:ops[i]? =some o)(hg:gd ops o=some g)
  (h: ∀K:Fr→Ob→Prop,(∀fr' ob',hwalk2G P ops nx Q l (if isEff o.op=true then C else(i,if hgd g fr=some true then touch o.op (ev fr)else [])::C) fr' ob'→K fr' ob')→
   hop1H P (nx+4*i) (cr.flatMap (ids4 nx)++rd.flatMap (getF C)) g o.op o.dst K fr ob):hwalk2G P ops nx Q ((i,cr,rd)::l) C fr ob:=by grind[hwalk2G,wC,fZ]
theorem bU {l:List Nat}(ho:ops[i]? =some o)(hg:gd ops o=some g)(h: ∀K:Fr→Ob→Prop,(∀fr ob,hlexG P ops nx Q l fr ob→K fr ob)→hop1 P (nx+4*i) [] g o.op o.dst K fr ob):hlexG P ops nx Q (i::l) fr ob:=by
 simp only[hlexG];exact uO (fun _ _ h=>h) (pZ ho hg (h _ fun _ _ h=>h))
theorem cU {l:List Nat}(id:Nat)(ho:ops[i]? =some o)(hg:gd ops o=some g)(h: ∀K:Fr→Ob→Prop,(∀fr ob,hlexG P ops nx Q l fr ob→K fr ob)→fI P (nx+4*i) [] g o.op o.dst id K fr ob):hlexG P ops nx Q (i::l) fr ob:=by
 simp only[hlexG];exact vZ ho hg (h _ fun _ _ h=>h)
theorem bR {cr rd:List Nat}{l:oP}{C:kY}(ho:ops[i]? =some o)(hg:gd ops o=some g)
  (h: ∀K:Fr→Ob→Prop,(∀fr' ob',hwalk2G P ops nx Q l (if isEff o.op=true then C else(i,if hgd g fr=some true then touch o.op (ev fr)else [])::C) fr' ob'→K fr' ob')→
   hop1 P (nx+4*i) (cr.flatMap (ids4 nx)++rd.flatMap (getF C)) g o.op o.dst K fr ob):hwalk2G P ops nx Q ((i,cr,rd)::l) C fr ob:=by
 simp only[hwalk2G];refine uO (fun _ _ h=>h) (pZ ho hg (h _ fun fr' ob' h=>?_));grind[fZ]
theorem eS {cr rd:List Nat}{l:oP}{C:kY}(id:Nat)(ho:ops[i]? =some o)(hg:gd ops o=some g)
  (h: ∀K:Fr→Ob→Prop,(∀fr' ob',hwalk2G P ops nx Q l (if isEff o.op=true then C else(i,if hgd g fr=some true then touch o.op (ev fr)else [])::C) fr' ob'→K fr' ob')→
   fI P (nx+4*i) (cr.flatMap (ids4 nx)++rd.flatMap (getF C)) g o.op o.dst id K fr ob):hwalk2G P ops nx Q ((i,cr,rd)::l) C fr ob:=by
 simp only[hwalk2G];refine vZ ho hg (h _ fun fr' ob' h=>?_);grind[fZ]
end
mutual
def CV.flatv :CV→Bool
 | .bool _=>true
 | .int _ _=>true
 | .str _=>true
 | .agg l=>CV.flatvL l
 |_=>false
def CV.flatvL :List CV→Bool
 |[]=>true
 |v::l=>v.flatv&&CV.flatvL l
end
variable {nid:Nat}{ob:Ob}
theorem aK5 {lob:Ob}{σ:List Nat}(hn:σ.Nodup)(h1: ∀j,j<σ.length→ ∃o,lob j=some o∧ob (σ.getD j 0)=some (o.ren (sub σ nid)))(h2: ∀j,σ.length≤j→lob j=none)(h3: ∀i,nid≤i→i<nid+4→ob i=none):
  cJ ob σ nid lob=ob:=by
 funext i;unfold cJ;split
 ·
  rename_i j hj;obtain⟨hjl,hje,_⟩:=J1.1 hj;obtain⟨o,e1,e2⟩:=h1 j hjl;have:σ.getD j 0=i:=by rw[C7,B5 hjl];simpa using hje
  rw[e1,←this,e2];rfl
 ·
  split
  · rename_i h;rw[h2 _ (by omega),h3 i h.1 h.2];rfl
  · rfl
def Free4 (ob:Ob)(nid:Nat):Prop:=ob nid=none∧ob (nid+1)=none∧ob (nid+2)=none∧ob (nid+3)=none
theorem Free4.all (h:Free4 ob nid): ∀i,nid≤i→i<nid+4→ob i=none:=fun i h1 h2=>by
 have:i=nid∨i=nid+1∨i=nid+2∨i=nid+3:=by omega
 rcases this with rfl|rfl|rfl|rfl
 · exact h.1
 · exact h.2.1
 · exact h.2.2.1
 · exact h.2.2.2
def bV9 (T:TypeId)(v:CV)(R:CV→Prop):HV→Ob→Prop:=fun r ob'=> ∃u v',r= .c u∧ob'=fob [(0,.box T (.c v'))]∧(v'=v∧u.flatv=true∧R u)
def cX4 (P:Program)(f:FuncId)(T:TypeId)(v:CV)(args:List CV)(R:CV→Prop):Prop:=HFn P f (args.map HV.c++[HV.ptr 0 0]) 1 (fob [(0,.box T (.c v))]) (bV9 T v R)
theorem aD9 (T:TypeId)(v:CV)(args:List CV):LocOk 1 (args.map HV.c++[HV.ptr 0 0]) (fob [(0,.box T (.c v))]):=by
 have h:=dV T v [];exact⟨h.all,h.none,by rw[HV.menL_append];exact⟨HV.menL_c,by simp[HV.menL,HV.men]⟩⟩
theorem bB4 {r:HV}{T:TypeId}{R:CV→Prop}{w:HV}(cl:List Nat)(u v:CV)(h:(r.close ob cl).norm= .c u)(hb:ob 0=some (.box T w))(hw:(w.close ob cl).norm= .c v)(h0:0∉cl)(hu:u.flatv=true)(hR:R u):lC 1 r ob (bV9 T v R):=
 gK cl u v h hb hw h0 ⟨rfl,hu,hR⟩
section
variable {P:Program}{av:List Nat}{f g:FuncId}{ob:Ob}{nid id id2 n:Nat}{K:HV→Ob→Prop}{T e:TypeId}{sz:Nat}{v:CV}{l:List CV}{R:CV→Prop}
theorem bW0 {args:List CV}(h:cX4 P f T v args R)(hid:ob id=some (.box T (.c v)))(hav:id∉av)(hfree:Free4 ob nid)(hK: ∀u,R u→K (.c u) ob):HCall P av f (args.map HV.c++[HV.ptr id 0]) ob nid K:=by
 have hsub:sub [id] nid 0=id:=rfl;refine⟨[id],(args.map HV.c++[HV.ptr 0 0]:List HV),fob [(0,.box T (.c v))],bV9 T v R,h,aD9 T v args,⟨by simp,by simpa using hav⟩,?_,fun j o hj=>?_,fun r lob' hR _=>?_⟩
 ·
  have: ∀l1 l2:List HV,HV.renL (sub [id] nid) (l1++l2)=HV.renL (sub [id] nid) l1++HV.renL (sub [id] nid) l2:=by
   intro l1 l2;induction l1 with
   |nil=>rfl
   |cons x l ih=>simp only[J4,HV.renL,ih]
  rw[this,HV.renL_c];simp only[HV.renL,HV.ren,hsub]
 ·
  simp only[fob_at,fob_nil]at hj;split at hj
  · rename_i e;subst e;cases hj;simpa[HO.ren,HV.ren]using hid
  · cases hj
 ·
  obtain⟨u,v',rfl,rfl,rfl,_,hR⟩:=hR;rw[aK5 (by simp) (fun j hj=>?_) (fun j hj=>?_) hfree.all]
  · exact hK u hR
  ·
   have:j=0:=by simp at hj;omega
   subst this;exact⟨_,rfl,by simpa[HO.ren,HV.ren]using hid⟩
  · simp only[B0,E5]at hj;rw[fob_at,A7 (by omega)];rfl
end
theorem aS1 {id:Nat}{o:HO}(hfree:Free4 ob nid):cJ ob [id] nid (fob [(0,o)])=upd ob id (some (o.ren (sub [id] nid))):=by
 funext i;by_cases e:i=id
 · subst e;simp only[cJ,aU,N1,L9,F7,fob_at,H8]
 ·
  have e':(id==i)=false:=by simp;exact fun h=>e h.symm
  simp only[cJ,N1,e',U6,T1,bJ _ _ e];simp only[E7,J2];split
  ·
   rename_i hr;have h1:[id].length+(i-nid)≠0:=by simp
   rw[fob_at,A7 h1,fob_nil];exact(hfree.all i hr.1 hr.2).symm
  · rfl
end Go.Hl
namespace Go.Pl
open Go Go.Hl
theorem Rp.setAll (p:Rp)(x:HV):CV.setAt 0 97 x p.cv=some x:=by
 have:=Rp.cells p;simp only[Rp.cv,CV.cells]at this;simp only[Rp.cv,CV.setAt,this,J7,F7]
end Go.Pl
namespace Go.Hl
open Go Go.RowKit
structure MOk (D:MD):Prop where
 nd:(D.map (·.1)).Nodup
 th: ∀p∈D,p.2.there=true
section
variable {P:Program}{av:List Nat}{f fi:FuncId}{ob:Ob}{nid id id2:Nat}{K:HV→Ob→Prop}{T e:TypeId}{sz:Nat}{D:MD}
end
end Go.Hl
namespace Go.Pl
open Go Go.Hl
section
variable {s r o:Dig}{t:Int}{l:List Rb}
end
section
variable {s r o:Dig}{t:Int}{l l':List Rb}
end
section
variable {s r o d:Dig}{t:Int}{m:List Rb}{w:aH}
end
end Go.Pl
