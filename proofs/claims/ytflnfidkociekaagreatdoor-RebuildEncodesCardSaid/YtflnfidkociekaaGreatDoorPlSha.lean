/- Plain Lean: SHA-256 bC1 lists of bytes, and what the operations on words of 32 bits give. By an AI agent. -/
import Derived.Test.YtflnfidkociekaaGreatDoorHlS
set_option linter.unusedSimpArgs false
set_option linter.unusedVariables false
set_option linter.defProp false
namespace Go.Hl
open Go
section
variable {P:Program}{n k:Nat}{Q:eJ}{fr:Fr}{ob:Ob}{nx:Nat}
def HO.close (ob:Ob)(cl:List Nat):HO→HO
  | .box t v=> .box t (v.close ob cl).norm
  | .row e sz l=> .row e sz l
  | .mp e sz D=> .mp e sz D
  | .dead=> .dead
  | .tab T=> .tab T
  | .hrow e sz l=> .hrow e sz (HV.closeL ob cl l)
def clF (ob:Ob)(cl:List Nat)(fr:Fr):Fr:=fun t=>((fr t).close ob cl).norm
def clO (ob:Ob)(cl:List Nat):Ob:=fun id=>if cl.contains id=true then none else(ob id).map (HO.close ob cl)
theorem iB (cl:List Nat)(t:Nat):clF ob cl fr t=((fr t).close ob cl).norm:=rfl
theorem iC (cl:List Nat)(id:Nat):clO ob cl id=if cl.contains id=true then none else(ob id).map (HO.close ob cl):=rfl
mutual
theorem HV.close_men {cl:List Nat}{M:Nat→Prop}: ∀{v:HV},v.men M→(v.close ob cl).men M
  | .junk,h=>h
  | .c _,_=>by simp[HV.close,HV.men]
  | .agg l,h=>by simp only[HV.close,HV.men]at h⊢;exact HV.closeL_men h
  | .own id n,h=>by
    simp only[HV.close];split
    · split
      · split
        · simp[HV.men]
        · exact h
      · exact h
    · exact h
  | .ptr ..,h=>h
  | .eptr ..,h=>h
  | .osl id n lo sz hi,h=>by
    simp only[HV.close];split
    · split
      · split
        · simp[HV.men]
        · exact h
      · exact h
    · exact h
  | .mapr ..,h=>h
  | .mrow ..,h=>h
  | .clo ..,h=>h
  | .opq _,h=>h
  | .tup l,h=>by simp only[HV.close,HV.men]at h⊢;exact HV.closeL_men h
theorem HV.closeL_men {cl:List Nat}{M:Nat→Prop}: ∀{l:List HV},HV.menL M l→HV.menL M (HV.closeL ob cl l)
  |[],h=>by simp[HV.closeL,HV.menL]
  |v::l,h=>by simp only[HV.closeL,HV.menL]at h⊢;exact⟨HV.norm_men (HV.close_men h.1),HV.closeL_men h.2⟩
end
theorem HV.close_junk {cl:List Nat}{v:HV}(h:(v.close ob cl).norm≠ .junk):v≠ .junk:=by
  intro e;subst e;exact h rfl
theorem eK {code:Code}(cl:List Nat)(h:Hw P n k code Q (clF ob cl fr) (clO ob cl) nx):Hw P n k code Q fr ob nx:=by
  intro c a w hn hk hz hA;refine h c a w hn hk hz ?_;obtain⟨ρ,h⟩:=hA
  let ρ2:Env:=fun id=>if cl.contains id=true then none else ρ id
  have hρ2: ∀id L,ρ2 id=some L→ρ id=some L:=fun id L hL=>by grind
  have hcl: ∀id∈cl,ρ2 id=none:=fun id hid=>by grind
  have hown: ∀b,Own ρ2 b→Own ρ b:=fun b ⟨id,L,h1,h2⟩=>⟨id,L,hρ2 id L h1,h2⟩;have hst:Stay w (Owned ρ c.X) w (Owned ρ2 c.X):=Stay.same (fun b _ hb=>hb.imp id (hown b));refine⟨ρ2,⟨fun id o ho=>?_,fun id hid=>?_,fun id id' L L' b h1 h2 h3 h4=>h.s.apart id id' L L' b (hρ2 _ _ h1) (hρ2 _ _ h2) h3 h4,fun id L b h1 h2=>h.s.xb id L b (hρ2 _ _ h1) h2⟩,fun t ht=>?_,fun t=>HV.norm_men (HV.close_men (h.mf t)),fun id o ho=>?_,h.m0,?_,?_,h.defers,h.size,h.xlt⟩
  · simp only[clO]at ho
    split at ho
    · grind
    · rename_i hc
      obtain⟨o',ho',rfl⟩:=Option.map_eq_some_iff.1 ho;have hid:ρ2 id=ρ id:=by simp only[ρ2,hc];rfl
      have hobj:=h.s.objs id o' ho';cases o' with
      |box t v=>
        obtain⟨b,cs,e1,e2,e3⟩:=hobj;exact⟨b,cs,by grind,e2,HV.norm_rep (fI h.s hcl hρ2 hst e3)⟩
      |row e sz l=>
        obtain⟨hd,xs,e1,e2,e3,e4⟩:=hobj;exact⟨hd,xs,by grind,e2.stay hst,e3,e4⟩
      |mp e sz D=>
        obtain⟨b,hf,e1,e2⟩:=hobj;exact⟨b,hf,by grind,e2.stay hst rfl (fun _ _ _ _ _=>rfl)⟩
      |dead=>exact hid.trans hobj
      |tab T=>exact⟨hid.trans hobj.1,iG hst hobj.2⟩
      |hrow e sz l=>
        obtain⟨hd,xs,e1,e2,e3,e4⟩:=hobj;exact⟨hd,xs,by grind,iU h.s hcl hρ2 hst e2,lM l e3,by grind[gX]⟩
  · simp only[clO]at hid
    simp only[ρ2];split
    · rfl
    · rename_i hc
      rw[if_neg hc,Option.map_eq_none_iff]at hid;exact h.s.none id hid
  · have:=h.f t (HV.close_junk ht)
    exact⟨HV.norm_rep (fI h.s hcl hρ2 hst this.1),by rw[clF,HV.norm_agg,HV.close_agg];exact this.2⟩
  · simp only[clO]at ho
    split at ho
    · grind
    · obtain⟨o',ho',rfl⟩:=Option.map_eq_some_iff.1 ho
      obtain⟨m1,m2⟩:=h.mo id o' ho';refine⟨m1,?_⟩;cases o' with
      |box t v=>exact HV.norm_men (HV.close_men m2)
      |row e sz l=>trivial
      |mp e sz D=>trivial
      |dead=>trivial
      |tab _=>trivial
      |hrow e sz l=>exact HV.closeL_men m2
  · exact h.base.trans ⟨fun _ _ _=>rfl,fun b hb=> .inl (hown b hb),Nat.le_refl _,rfl,rfl,rfl⟩
  · exact Moves.trans (fun _ h=>h) h.moves (fun id L _ hL=>⟨L,hρ2 id L hL,.inl rfl⟩)
theorem ownsRow_nil {w:World}{e sz:Nat}:w.ownsRow 0 e sz (.slice none 0 0) 0 []:=by
  refine⟨by simp,.inl ⟨rfl,rfl⟩⟩
theorem RepA'.emptyRow {c:Ctx}{M M':Nat→Prop}{a:Act}{w:World}{ρ:Env}(h:RepA' c M fr ob a w ρ){id e sz:Nat}(hn: ¬M id)(hM: ∀i,M i→M' i)(hM':M' id):
    RepA' c M' fr (upd ob id (some (.row e sz []))) a w (upd ρ id (some (.hdr (.slice none 0 0)))):=by
  obtain⟨hob,hρ⟩:=h.nid_none hn;have hown: ∀b,Own (upd ρ id (some (.hdr (.slice none 0 0)))) b→Own ρ b:=by
    rintro b ⟨i,L,h1,h2⟩;by_cases e:i=id
    · subst e;rw[bC]at h1;cases h1;cases h2
    · rw[bL _ _ e]at h1;exact⟨i,L,h1,h2⟩
  have hst:Stay w (Owned ρ c.X) w (Owned (upd ρ id (some (.hdr (.slice none 0 0)))) c.X):=Stay.same (fun b _ hb=>hb.imp (fun x=>x) (hown b));have hmv:Moves M ρ (upd ρ id (some (.hdr (.slice none 0 0)))):=Moves.upd_new hn;refine⟨⟨fun i o ho=>?_,fun i hi=>?_,fun i i' L L' b h1 h2 h3 h4=>?_,fun i L b h1 h2=>?_⟩,fun t ht=>⟨RepH.stay hst hmv (h.mf t) (h.f t ht).1,(h.f t ht).2⟩,fun t=>HV.men_mono hM (h.mf t),fun i o ho=>?_,fun i hi=>hM i (h.m0 i hi),?_,?_,h.defers,h.size,h.xlt⟩
  · by_cases e':i=id
    · subst e'
      rw[bC]at ho;cases ho;exact⟨.slice none 0 0,[],bC _ _ _,by simp[RepL],by simp,ownsRow_nil⟩
    · rw[bL _ _ e']at ho
      exact RepO.stay hst hmv (h.mo i o ho).2 (bL _ _ e') (fun _ _ _ _=>rfl) (h.s.objs i o ho)
  · by_cases e':i=id
    · simp_all
    · rw[bL _ _ e']at hi⊢;exact h.s.none i hi
  · by_cases e1:i=id
    · subst e1;rw[bC]at h1;cases h1;cases h3
    · by_cases e2:i'=id
      · subst e2;rw[bC]at h2;cases h2;cases h4
      · rw[bL _ _ e1]at h1;rw[bL _ _ e2]at h2
        exact h.s.apart i i' L L' b h1 h2 h3 h4
  · by_cases e1:i=id
    · subst e1;rw[bC]at h1;cases h1;cases h2
    · rw[bL _ _ e1]at h1;exact h.s.xb i L b h1 h2
  · by_cases e':i=id
    · subst e';rw[bC]at ho;cases ho;exact⟨hM',trivial⟩
    · rw[bL _ _ e']at ho
      exact⟨hM _ (h.mo i o ho).1,HO.men_mono hM (h.mo i o ho).2⟩
  · exact h.base.trans ⟨fun _ _ _=>rfl,fun b hb=> .inl (hown b hb),Nat.le_refl _,rfl,rfl,rfl⟩
  · exact Moves.trans h.m0 h.moves hmv
theorem rA {w:World}{ρ:Env}{O:Nat→Prop}{v v':HV}{off id:Nat}{cs:List Value}(hg:HV.getAt off 1 false v=some (.c .nils))(hs:v.sto=true)(hv:HV.setAt off 1 (.own id 0) v=some v')(hρ:ρ id=some (.hdr (.slice none 0 0)))
    (h:RepH w ρ O v cs):RepH w ρ O v' cs:=by
  obtain⟨c1,c2,c3,e0,e1,e2,e3,_⟩:=HV.getAt_spec hg hs h;obtain⟨d1,d2,d3,f0,f1,f2,f3,_⟩:=HV.setAt_spec (x:= .own id 0) rfl hv hs h;have:c1=d1∧c2++c3=d2++d3:=by
    have:=e0.symm.trans f0;rw[List.append_assoc,List.append_assoc]at this;exact List.append_inj this (by omega)
  obtain⟨rfl,h23⟩:=this;have h23:=List.append_inj h23 (by omega);obtain⟨rfl,rfl⟩:=h23;rw[e0];refine f3 c2 ?_;simp only[RepH,RepC]at e3⊢;refine⟨_,e3,rfl,fun hd hh=>?_⟩;grind
theorem iD {code:Code}(t off e sz:Nat){v':HV}(hg:HV.getAt off 1 false (fr t)=some (.c .nils))(hs:(fr t).sto=true)(hv:HV.setAt off 1 (.own nx 0) (fr t)=some v')(ha:v'.isAgg=(fr t).isAgg)
    (h:Hw P n k code Q (upd fr t v') (upd ob nx (some (.row e sz []))) (nx+1)):Hw P n k code Q fr ob nx:=by
  intro c a w hn hk hz hA;refine h c a w hn hk hz ?_;obtain⟨ρ,hA⟩:=hA;have hA':=hA.emptyRow (M':=(· <nx+1)) (id:=nx) (e:=e) (sz:=sz) (by omega) (fun i hi=>by omega) (by omega);refine⟨_,hA'.s,fun t' ht'=>?_,fun t'=>?_,hA'.mo,hA'.m0,hA'.base,hA'.moves,hA'.defers,hA'.size,hA'.xlt⟩
  · by_cases e':t'=t
    · subst e'
      rw[bC];have hj:fr t'≠ .junk:=by intro e';rw[e']at hs;simp[HV.sto]at hs
      have hf:=hA'.f t' hj;have hr:=rA hg hs hv (bC _ _ _) hf.1;exact⟨hr,by rw[ha];exact hf.2⟩
    · rw[bL _ _ e']at ht'⊢
      exact hA'.f t' ht'
  · by_cases e':t'=t
    · subst e'
      rw[bC];have hj:fr t'≠ .junk:=by intro e';rw[e']at hs;simp[HV.sto]at hs
      obtain⟨d1,d2,d3,f0,f1,f2,f3,f4,f5⟩:=HV.setAt_spec (x:= .own nx 0) rfl hv hs (hA'.f t' hj).1;exact f5 _ (by simp[HV.men]) (hA'.mf t')
    · rw[bL _ _ e'];exact hA'.mf t'
theorem pZ {code:Code}(id off e sz:Nat){T:TypeId}{v v':HV}(hb:ob id=some (.box T v))(hg:HV.getAt off 1 false v=some (.c .nils))(hs:v.sto=true)(hv:HV.setAt off 1 (.own nx 0) v=some v')
    (h:Hw P n k code Q fr (upd (upd ob nx (some (.row e sz []))) id (some (.box T v'))) (nx+1)):Hw P n k code Q fr ob nx:=by
  intro c a w hn hk hz hA;refine h c a w hn hk hz ?_;obtain⟨ρ,hA⟩:=hA;have hid:id<nx:=(hA.mo id _ hb).1;have hA':=hA.emptyRow (M':=(· <nx+1)) (id:=nx) (e:=e) (sz:=sz) (by omega) (fun i hi=>by omega) (by omega);have hb':upd ob nx (some (.row e sz [])) id=some (.box T v):=by rw[bL _ _ (by omega)];exact hb
  obtain⟨b,cs,e1,e2,e3⟩:=hA'.s.objs id _ hb';refine⟨_,⟨fun i o ho=>?_,fun i hi=>?_,hA'.s.apart,hA'.s.xb⟩,hA'.f,hA'.mf,fun i o ho=>?_,hA'.m0,hA'.base,hA'.moves,hA'.defers,hA'.size,hA'.xlt⟩
  · by_cases e':i=id
    · subst e'
      rw[bC]at ho;cases ho;exact⟨b,cs,e1,e2,rA hg hs hv (bC _ _ _) e3⟩
    · rw[bL _ _ e']at ho
      exact hA'.s.objs i o ho
  · by_cases e':i=id
    · simp_all
    · rw[bL _ _ e']at hi
      exact hA'.s.none i hi
  · by_cases e':i=id
    · subst e'
      rw[bC]at ho;cases ho;obtain⟨d1,d2,d3,f0,f1,f2,f3,f4,f5⟩:=HV.setAt_spec (x:= .own nx 0) rfl hv hs e3;exact⟨(hA'.mo i _ hb').1,f5 _ (by simp[HV.men]) (hA'.mo i _ hb').2⟩
    · rw[bL _ _ e']at ho
      exact hA'.mo i o ho
def bY (ob:Ob)(id:Nat):Ob:=fun i=>if i=id then none else ob i
theorem aI1 {code:Code}(t id:Nat){T:TypeId}{v:CV}(ht:fr t= .ptr id 0)(hb:ob id=some (.box T (.c v)))
    (h:Hw P n k code Q (upd fr t (.c (.rp v))) (bY ob id) nx):Hw P n k code Q fr ob nx:=by
  intro c a w hn hk hz hA;refine h c a w hn hk hz ?_;obtain⟨ρ,h⟩:=hA
  let ρ2:Env:=fun i=>if i=id then none else ρ i
  have hρ2: ∀i L,ρ2 i=some L→ρ i=some L:=fun i L hL=>by grind
  have hown: ∀b,Own ρ2 b→Own ρ b:=fun b ⟨i,L,h1,h2⟩=>⟨i,L,hρ2 i L h1,h2⟩;have hst:Stay w (Owned ρ c.X) w (Owned ρ2 c.X):=Stay.same (fun b _ hb=>hb.imp (fun x=>x) (hown b));have hmv: ∀M:Nat→Prop,Moves M ρ ρ2:=fun M i L _ hL=>⟨L,hρ2 i L hL,.inl rfl⟩;obtain⟨b,cs,e1,e2,e3⟩:=h.s.objs id _ hb;obtain⟨b',e1',he⟩:=gH (x:= .tmp t) h ht (by rw[hb];rfl);rw[e1]at e1';cases e1';have hnb: ¬Owned ρ2 c.X b:=by
    rintro(hx|⟨i,L,h1,h2⟩)
    · exact h.s.xb id _ b e1 rfl hx
    · have:=h.s.apart i id L _ b (hρ2 i L h1) e1 h2 rfl
      grind
  refine⟨ρ2,⟨fun i o ho=>?_,fun i hi=>?_,fun i i' L L' b h1 h2 h3 h4=>h.s.apart i i' L L' b (hρ2 _ _ h1) (hρ2 _ _ h2) h3 h4,fun i L b h1 h2=>h.s.xb i L b (hρ2 _ _ h1) h2⟩,fun t' ht'=>?_,fun t'=>?_,fun i o ho=>?_,h.m0,?_,?_,h.defers,h.size,h.xlt⟩
  · simp only[bY]at ho
    split at ho
    · grind
    · rename_i hne
      exact RepO.stay hst (hmv _) (h.mo i o ho).2 (by grind) (fun _ _ _ _=>rfl) (h.s.objs i o ho)
  · simp only[bY]at hi
    simp only[ρ2];split
    · rfl
    · rename_i hne
      rw[if_neg hne]at hi;exact h.s.none i hi
  · by_cases e:t'=t
    · subst e
      rw[bC];have he':a.tmps.getD t' undef= .pointer (some ⟨b,0,none⟩):=he;rw[he'];refine cE ?_ rfl rfl;simp only[RepC];simp only[RepH]at e3;refine⟨⟨b,0,none⟩,cs,rfl,e3.stay hst,fun j u hj=>?_,fun _=>hnb⟩;have hlt:j<cs.length:=(List.getElem?_eq_some_iff.1 hj).1;rw[dD,cell_of_row w b _ _ _ _ e2];simpa using hj
    · rw[bL _ _ e]at ht'⊢
      exact⟨RepH.stay hst (hmv _) (h.mf t') (h.f t' ht').1,(h.f t' ht').2⟩
  · by_cases e:t'=t
    · grind[bC,HV.men]
    · rw[bL _ _ e];exact h.mf t'
  · simp only[bY]at ho
    split at ho
    · grind
    · exact h.mo i o ho
  · exact h.base.trans ⟨fun _ _ _=>rfl,fun b hb=> .inl (hown b hb),Nat.le_refl _,rfl,rfl,rfl⟩
  · exact Moves.trans (fun _ h=>h) h.moves (hmv _)
end
def iX (ops:Array Oper)(p:Nat):Bool:=match ops[p]? with|some o=>bX o.op|none=>true
def effAt (ops:Array Oper)(p:Nat):Bool:=match ops[p]? with|some o=>isEff o.op|none=>false
def ids4 (nx p:Nat):List Nat:=[nx+4*p,nx+4*p+1,nx+4*p+2,nx+4*p+3]
def getF (C:jJ)(p:Nat):List Nat:=C.flatMap fun q=>if q.1=p then q.2 else []
abbrev rB :=List (Nat×List Nat×List Nat)
def hwalk2G (P:Program)(ops:Array Oper)(nx:Nat)(Q:Fr→Ob→Prop):rB→jJ→Fr→Ob→Prop
  |[],_,fr,ob=>Q fr ob
  |(i,cr,rd)::rest,C,fr,ob=>dL P ops nx (cr.flatMap (ids4 nx)++rd.flatMap (getF C)) i (hwalk2G P ops nx Q rest (match ops[i]? with
      |some o=>if isEff o.op=true then C else(i,if hguard ops o fr=some true then touch o.op (ev fr)else [])::C
      |none=>C)) fr ob
def chk (ops:Array Oper)(wt:Nat→Nat→Bool):rB→List Nat→Bool
  |[],_=>true
  |(i,cr,rd)::rest,T=>T.all (fun p=>wt i p||((iX ops p||cr.contains p)&&(!(effAt ops i)||rd.contains p)))&&chk ops wt rest (if effAt ops i then T else i::T)
variable {ob:Ob}{fr:Fr}{av:List Nat}{nx:Nat}{ops:Array Oper}{P:Program}
theorem aP9 {av':List Nat}{i:Nat}{K:Fr→Ob→Prop}(hav: ∀id,(ob id).isSome=true→id∈av→id∈av')(h:dL P ops nx av' i K fr ob):
    dL P ops nx av i (fun fr' ob'=>K fr' ob'∧(∀id,ob id=none→(iX ops i=true∨ ¬(nx+4*i≤id∧id<nx+4*i+4))→ob' id=none)) fr ob:=by
  unfold dL at h⊢;cases ho:ops[i]? with
  |none=>grind
  |some o=>
    rw[ho]at h;simp only at h⊢;cases hg:hguard ops o fr with
    |none=>grind
    |some b=>
      rw[hg]at h;cases b with
      |false=>grind
      |true=>
        simp only at h⊢;unfold dP at h⊢;cases hc:hcallOf o.op with
        |none=>
          rw[hc]at h;simp only at h⊢;obtain⟨v,u,hK,hform,hid,hq⟩:=qU h.2;refine⟨fun id hi=>⟨fun hin=>(h.1 id hi).1 (hav id (h.1 id hi).2 hin),(h.1 id hi).2⟩,hform ob (fun _ _=>rfl) _ ⟨hK,fun id h1 h2=>?_⟩⟩;grind[gE,iX]
        |some p=>
          obtain⟨f,xs⟩:=p;rw[hc]at h;simp only at h⊢;obtain⟨h1,nd,h⟩:=h;refine⟨h1,nd,?_⟩;have hnq:iX ops i=false:=by
            simp only[iX,ho];cases hop':o.op<;>rw[hop']at hc<;>simp only[hcallOf]at hc<;>try cases hc
            rename_i cl;grind[bX]
          have hcall: ∀g args,HCallL P av' g args ob (nx+4*i) (fun v ob'=>K (updo fr o.dst v) ob')→HCallL P av g args ob (nx+4*i) (fun v ob'=>K (updo fr o.dst v) ob'∧(∀id,ob id=none→(iX ops i=true∨ ¬(nx+4*i≤id∧id<nx+4*i+4))→ob' id=none)):=by
            rintro g args ⟨σ,largs,lob,R,h1,h2,h3,h5,h6,h7⟩;have hσ: ∀j,j<σ.length→(ob (σ.getD j 0)).isSome=true:=fun j hj=>by
              obtain⟨o',ho'⟩:=h2.all j hj;grind
            refine⟨σ,largs,lob,R,h1,h2,⟨h3.1,fun j hj=>(h3.2 j hj).imp (fun h hin=>h (hav _ (hσ j hj) hin)) (fun h=>h)⟩,h5,h6,fun r lob' hR hr=>⟨h7 r lob' hR hr,fun id e1 e2=>?_⟩⟩
            · unfold bU
              split
              · rename_i j hj
                exfalso;rw[List.findIdx?_eq_some_iff_getElem]at hj;obtain⟨hj1,hj2,_⟩:=hj;have:=hσ j hj1;rw[List.getD_eq_getElem?_getD,List.getElem?_eq_getElem hj1,Option.getD_some]at this;simp only[beq_iff_eq]at hj2;rw[hj2,e1]at this;cases this
              · rcases e2 with e2|e2
                · rw[hnq]at e2;cases e2
                · rw[if_neg e2];exact e1
          grind
theorem rC {P:Program}{ops:Array Oper}{nx:Nat}{wt:Nat→Nat→Bool}{Q:Fr→Ob→Prop}: ∀(plan:rB) (C:jJ) (fr:Fr) (ob:Ob),chk ops wt plan (C.map (·.1))=true→
    (∀p,iX ops p=true→ ∀t,t<4→ob (nx+4*p+t)=none)→hwalk2G P ops nx Q plan C fr ob→jW P ops nx wt Q (plan.map (·.1)) C fr ob
  |[],C,fr,ob,_,_,h=>h
  |(i,cr,rd)::rest,C,fr,ob,hc,hn,h=>by
    simp only[hwalk2G,jW,List.map_cons,chk,Bool.and_eq_true]at h hc⊢;have hav: ∀id,(ob id).isSome=true→id∈fU ops nx wt C i→id∈cr.flatMap (ids4 nx)++rd.flatMap (getF C):=by
      intro id hs hid;simp only[fU,List.mem_flatMap]at hid;obtain⟨p,hp,hid⟩:=hid;have hT:=List.all_eq_true.1 hc.1 p.1 (List.mem_map.2 ⟨p,hp,rfl⟩);split at hid
      · grind
      · rename_i hw
        have hw':wt i p.1=false:=by simpa using hw
        simp only[hw',Bool.false_or,Bool.and_eq_true,Bool.or_eq_true,Bool.not_eq_true']at hT;rcases List.mem_append.1 hid with hid|hid
        · rcases hT.1 with hq|hq
          · simp only[List.mem_cons,List.not_mem_nil,or_false]at hid
            have: ∃t,t<4∧id=nx+4*p.1+t:=by
              rcases hid with e|e|e|e
              · simp_all
              · grind
              · grind
              · grind
            grind
          · refine List.mem_append_left _ (List.mem_flatMap.2 ⟨p.1,by grind,hid⟩)
        · split at hid
          · rename_i he
            have he':effAt ops i=true:=by
              simp only[effAt];cases ho:ops[i]? with
              |none=>grind[absurd,dL]
              |some o=>grind
            rcases hT.2 with h'|h'
            · grind
            · refine List.mem_append_right _ (List.mem_flatMap.2 ⟨p.1,by grind,?_⟩)
              exact List.mem_flatMap.2 ⟨p,hp,by grind⟩
          grind
    refine gI (fun _ h=>h) (fun fr' ob' hK=>?_) (aP9 hav h);refine rC rest _ fr' ob' ?_ (fun p hq t ht=>?_) hK.1
    · grind[effAt,absurd,dL,isEff]
    · refine hK.2 _ (hn p hq t ht) ?_
      by_cases e:i=p;all_goals grind
variable {Q:eJ}
theorem kV {n k:Nat}{id:Nat}(hm:P.follows .mixedOrders=true)(plan:rB)(ms:List Nat)(hd:kC n ops=true)(hp:jX ops (plan.map (·.1)) (Array.replicate ops.size false)=true)(hw1:aE2 ops ms=true)
    (hw2:ms.all (fun m=>decide (m<2^ms.length))=true) (hl:plan.length=ops.size) (hc:chk ops (xD ms) plan []=true)
    (h:hwalk2G P ops nx (fun fr' ob'=>Q .normal fr' ob' (nx+4*ops.size)) plan [] fr ob):Hw P n k (.region id ops true) Q fr ob nx:=by
  intro c a w hn hk hz hA;have hf: ∀id,nx≤id→ob id=none:=fun id hid=>by
    obtain⟨ρ,hA'⟩:=hA;exact(hA'.nid_none (nid:=id) (by omega)).1
  exact aE3 hm (plan.map (·.1)) ms hd hp hw1 hw2 (by grind) (rC plan [] fr ob hc (fun p _ t _=>hf _ (by omega)) h) c a w hn hk hz hA
def hwalk2 (P:Program)(ops:Array Oper)(nx:Nat)(Q:Fr→Ob→Prop):rB→jJ→Fr→Ob→Prop
  |[],_,fr,ob=>Q fr ob
  |(i,cr,rd)::rest,C,fr,ob=>hopI P ops nx (cr.flatMap (ids4 nx)++rd.flatMap (getF C)) i (hwalk2 P ops nx Q rest (match ops[i]? with
      |some o=>if isEff o.op=true then C else(i,if hguard ops o fr=some true then touch o.op (ev fr)else [])::C
      |none=>C)) fr ob
theorem xG {P:Program}{ops:Array Oper}{nx:Nat}{Q:Fr→Ob→Prop}: ∀{l:rB} {C:jJ} {fr:Fr} {ob:Ob},hwalk2 P ops nx Q l C fr ob→hwalk2G P ops nx Q l C fr ob
  |[],_,_,_,h=>h
  |(_,_,_)::_,_,_,_,h=>qW (fun _ _=>xG) h
theorem eL {n k:Nat}{id:Nat}(hm:P.follows .mixedOrders=true)(plan:rB)(ms:List Nat)(hd:kC n ops=true)(hp:jX ops (plan.map (·.1)) (Array.replicate ops.size false)=true)(hw1:aE2 ops ms=true)
    (hw2:ms.all (fun m=>decide (m<2^ms.length))=true) (hl:plan.length=ops.size) (hc:chk ops (xD ms) plan []=true)
    (h:hwalk2 P ops nx (fun fr' ob'=>Q .normal fr' ob' (nx+4*ops.size)) plan [] fr ob):Hw P n k (.region id ops true) Q fr ob nx:=
  kV hm plan ms hd hp hw1 hw2 hl hc (xG h)
variable {args:List CV}{K:HV→Ob→Prop}{nid:Nat}{f:FuncId}
theorem bH {R:CV→Prop}(h:cL P f args R)(hfree:ob nid=none∧ob (nid+1)=none∧ob (nid+2)=none∧ob (nid+3)=none)(hK: ∀v,R v→K (.c v) ob):
    HCall P av f (args.map .c) ob nid K:=by
  refine⟨[],args.map .c,cH,_,h,bJ args,⟨List.nodup_nil,by simp⟩,(HV.renL_c _ _).symm,fun j o h=>by simp[cH]at h,fun r lob' hR _=>?_⟩;obtain⟨v,rfl,hv,rfl⟩:=hR;rw[kD (fun i h1 h2=>?_)]
  · exact hK v hv
  grind
theorem cP {α:Type}{f:α→CV}(h: ∀x,(f x).denil=f x): ∀l:List α,CV.denilL (l.map f)=l.map f
  |[]=>rfl
  |x::l=>by simp only[List.map_cons,CV.denilL,h,cP h l]
theorem denilL_str (l:List (List UInt8)):CV.denilL (l.map .str)=l.map .str:=cP (fun _=>rfl) l
theorem denilL_int (k:IntKind)(l:List Int):CV.denilL (l.map (.int k))=l.map (.int k):=cP (fun _=>rfl) l
theorem cells_mem_str {l:List (List UInt8)}:(∀v∈l.map CV.str,v.cells=1)↔True:=by simp[CV.cells]
def aX4 (P:Program)(f:FuncId)(T:TypeId)(v:CV)(args:List CV)(R:CV→CV→Prop):Prop:=
  HFn P f (.ptr 0 0::args.map .c) 1 (fob [(0,.box T (.c v))]) (fun r ob'=> ∃u v',r= .c u∧ob'=fob [(0,.box T (.c v'))]∧R u v')
theorem gF (T:TypeId)(v:CV)(args:List CV):LocOk 1 (.ptr 0 0::args.map .c) (fob [(0,.box T (.c v))]):=by
  refine⟨fun j h=>?_,fun id o h=>?_,?_⟩
  · have:j=0:=by omega
    subst this;exact⟨_,rfl⟩
  · by_cases e:id=0
    · subst e
      simp only[fob_at,if_true,Option.some.injEq]at h;grind[HO.men,HV.men]
    grind[fob_at,fob_nil]
  grind[HV.menL,HV.men,HV.menL_c]
variable {R:CV→CV→Prop}{T:TypeId}
theorem kE {r w:HV}(cl:List Nat)(u v':CV)(h:(r.close ob cl).norm= .c u)(hb:ob 0=some (.box T w))(hw:(w.close ob cl).norm= .c v')(h0:0∉cl)(hR:R u v'):
    mN 1 r ob (fun r ob'=> ∃u v',r= .c u∧ob'=fob [(0,.box T (.c v'))]∧R u v'):=by
  refine⟨cl,id,.c u,fob [(0,.box T (.c v'))],⟨u,v',rfl,rfl,hR⟩,by rw[h];rfl,fun _ _=>rfl,fun _ _ _ _ h=>h,by simp[HV.men],fun j o ho=>?_⟩;by_cases e:j=0
  · subst e
    simp only[fob_at,if_true,Option.some.injEq]at ho;subst ho;refine⟨by omega,by simp[HO.men,HV.men],h0,.box T w,hb,?_⟩;simp only[hw];rfl
  grind[fob_at,fob_nil]
theorem gK {id:Nat}{v:CV}(h:aX4 P f T v args R)(hid:ob id=some (.box T (.c v)))(hav:id∉av)
    (hfree:ob nid=none∧ob (nid+1)=none∧ob (nid+2)=none∧ob (nid+3)=none) (hK: ∀u v',R u v'→K (.c u) (upd ob id (some (.box T (.c v'))))):
    HCall P av f (.ptr id 0::args.map .c) ob nid K:=by
  refine⟨[id],.ptr 0 0::args.map .c,_,_,h,gF T v args,⟨by simp,by grind⟩,?_,fun j o hj=>?_,fun r lob' hR _=>?_⟩
  · simp only[HV.renL,HV.ren,HV.renL_c]
    rfl
  · by_cases e:j=0
    · subst e
      simp only[fob_at,if_true,Option.some.injEq]at hj;grind[HO.ren,HV.ren]
    grind[fob_at,fob_nil]
  · obtain⟨u,v',rfl,rfl,hR⟩:=hR
    have e:bU ob [id] nid (fob [(0,.box T (.c v'))])=upd ob id (some (.box T (.c v'))):=by
      funext i;by_cases e:i=id
      · subst e
        simp only[bU,bC,List.findIdx?_cons,beq_self_eq_true,if_true,fob_at,Option.map_some];rfl
      · have e':(id==i)=false:=by simp;exact fun h=>e h.symm
        simp only[bU,List.findIdx?_cons,e',List.findIdx?_nil,Option.map_none,bL _ _ e];simp only[Bool.false_eq_true,if_false];split
        · rename_i hr
          have h1:[id].length+(i-nid)≠0:=by simp
          rw[fob_at,if_neg h1,fob_nil];grind
        · rfl
    rw[e];exact hK u v' hR
section
variable {P:Program}{ti:TyI}{t t2 f nid nx i:Nat}{a a' b b' x x' y y':HV}{ob ob':Ob}{K:HV→Prop}{KO:HV→Ob→Prop}{KC:CV→Prop}
@[congr] theorem bF9 (h:a=a'):hload ti a ob K=hload ti a' ob K:=by rw[h]
@[congr] theorem bE8 (h:a=a')(h2:b=b'):hstore ti a b ob KO=hstore ti a' b' ob KO:=by rw[h,h2]
@[congr] theorem aW6 (h:a=a'):hfieldAddr P t a f ob K=hfieldAddr P t a' f ob K:=by rw[h]
@[congr] theorem aW7 (h:a=a')(h2:b=b'):hindexAddr P t a b ob K=hindexAddr P t a' b' ob K:=by rw[h,h2]
@[congr] theorem bE9 {ps:List (Nat×Operand)}{e:Operand→HV}{ps':List (Nat×Operand)}(h:ps=ps'):dY ti ps e K=dY ti ps' e K:=by rw[h]
@[congr] theorem bF0 {lo lo' hi hi':Option HV}(h:a=a')(h1:lo=lo')(h2:hi=hi'):hslice P t a lo hi K=hslice P t a' lo' hi' K:=by rw[h,h1,h2]
@[congr] theorem bF1 (h:a=a')(h2:b=b'):hindex P t a b K=hindex P t a' b' K:=by rw[h,h2]
@[congr] theorem bH7 (h:a=a'):hext a i K=hext a' i K:=by rw[h]
@[congr] theorem bG0 (h:a=a'):hconv P t t2 a K=hconv P t t2 a' K:=by rw[h]
@[congr] theorem bI6 {op:UnOp}(h:a=a'):hun op a K=hun op a' K:=by rw[h]
@[congr] theorem bH8 {l l':List HV}(h:l=l'):hclo f l K=hclo f l' K:=by rw[h]
@[congr] theorem bH9 {mx:Bool}(h:a=a')(h2:b=b'):hmax mx a b K=hmax mx a' b' K:=by rw[h,h2]
@[congr] theorem bG1 (h:x=x')(h1:a=a')(h2:b=b'):hpick x a b K=hpick x' a' b' K:=by rw[h,h1,h2]
@[congr] theorem bC5 (h:a=a')(h2:b=b'):happend P t a b nid ob KO=happend P t a' b' nid ob KO:=by rw[h,h2]
@[congr] theorem bB6 (h:a=a')(h2:b=b'):happend2 P t a b nid ob KO=happend2 P t a' b' nid ob KO:=by rw[h,h2]
@[congr] theorem bC6 {lo lo' hi hi':Option HV}(h:a=a')(h1:lo=lo')(h2:hi=hi')(h3:ob=ob'):hslice2 P t a lo hi ob K=hslice2 P t a' lo' hi' ob' K:=by rw[h,h1,h2,h3]
@[congr] theorem bC7 {lo lo':Option HV}{hi hi' mx mx':HV}(h:a=a')(h1:lo=lo')(h2:hi=hi')(h3:mx=mx'):hslice3 P t a lo hi mx K=hslice3 P t a' lo' hi' mx' K:=by rw[h,h1,h2,h3]
@[congr] theorem bG2 (h:a=a')(h2:b=b')(h3:ob=ob'):hcopy P t a b ob KO=hcopy P t a' b' ob' KO:=by rw[h,h2,h3]
@[congr] theorem bF2 (h:a=a'):hclear P t a ob KO=hclear P t a' ob KO:=by rw[h]
@[congr] theorem bC8 (h:a=a')(h2:b=b'):hlookup P t a b ob K=hlookup P t a' b' ob K:=by rw[h,h2]
@[congr] theorem aW8 (h:a=a')(h2:b=b')(h3:x=x'):hmapUpdate P t a b x ob KO=hmapUpdate P t a' b' x' ob KO:=by rw[h,h2,h3]
@[congr] theorem bI0 {op:BinOp}(h:a=a')(h2:b=b'):fY P op t a b KC=fY P op t a' b' KC:=by rw[h,h2]
@[congr] theorem bI1 {op:BinOp}{k:IntKind}{m m' n n':Int}(h:m=m')(h2:n=n'):hint op k m n KC=hint op k m' n' KC:=by rw[h,h2]
@[congr] theorem bF3 {op:BinOp}{k:IntKind}{m m' n n':Int}(h:m=m')(h2:n=n'):hshift op k m n KC=hshift op k m' n' KC:=by rw[h,h2]
@[congr] theorem bI2 {op:BinOp}{m m' n n':List UInt8}(h:m=m')(h2:n=n'):hstr op m n KC=hstr op m' n' KC:=by rw[h,h2]
@[congr] theorem bG3 {ops:Array Oper}{G:Fr→Ob→Prop}{l l':List Nat}{fr fr':Fr}(h:l=l')(h1:fr=fr')(h2:ob=ob'):hlexG P ops nx G l fr ob=hlexG P ops nx G l' fr' ob':=by rw[h,h1,h2]
@[congr] theorem bC9 {ops:Array Oper}{G:Fr→Ob→Prop}{l:rB}{C C':jJ}{fr fr':Fr}(h:C=C')(h1:fr=fr')(h2:ob=ob'):hwalk2G P ops nx G l C fr ob=hwalk2G P ops nx G l C' fr' ob':=by rw[h,h1,h2]
@[congr] theorem bG4 {av av':List Nat}{l l':List HV}{n n':Nat}(h1:av=av')(h2:l=l')(h3:ob=ob')(h4:n=n'):HCall P av f l ob n KO=HCall P av' f l' ob' n' KO:=by rw[h1,h2,h3,h4]
theorem updo_at (fr:Fr)(d:Nat)(v:HV)(t:Nat):updo fr (some d) v t=if t=d then v else fr t:=rfl
theorem updo_none (fr:Fr)(v:HV):updo fr none v=fr:=rfl
theorem hbin_int {op:BinOp}{k k':IntKind}{m n:Int}:fY P op t (.c (.int k m)) (.c (.int k' n)) KC=if isShift op then hshift op k m n KC else k=k'∧hint op k m n KC:=rfl
theorem hbin_str {op:BinOp}{m n:List UInt8}:fY P op t (.c (.str m)) (.c (.str n)) KC=hstr op m n KC:=rfl
theorem hbin_bool {op:BinOp}{m n:Bool}:fY P op t (.c (.bool m)) (.c (.bool n)) KC=hlift (bB P t) fun ti=>ti.d= .bool∧match op with
    | .eql=>KC (.bool (m==n))
    | .neq=>KC (.bool (!(m==n)))
    |_=>False:=rfl
end
end Go.Hl
namespace Go.Pl
open Go Go.Hl
abbrev aU :=List UInt8
abbrev Dig :={l:List UInt8//l.length=32}
def dgl (d:Dig):List CV:=d.1.map fun b=> .int .u8 b.toNat
def dg (d:Dig):CV:= .agg (dgl d)
def dg1 (b:UInt8):Dig:=⟨b::List.replicate 31 0,by simp⟩
def zdg :Dig:=⟨List.replicate 32 0,by simp⟩
def zd :CV:=dg zdg
def dgi (k:IntKind)(n:Int):CV:= .agg (.int k n::List.replicate 31 (.int .u8 0))
theorem bD0 (b:UInt8):dgi .u8 b.toNat=dg (dg1 b):=rfl
theorem dgi_1 :dgi .u8 1=dg (dg1 1):=rfl
theorem dgi_2 :dgi .u8 2=dg (dg1 2):=rfl
theorem dgi_3 :dgi .u8 3=dg (dg1 3):=rfl
theorem tR {n:Int}(h:0≤n)(h':n<256):dgi .u8 n=dg (dg1 (UInt8.ofNat n.toNat)):=by grind[bD0,UInt8.ofNat,UInt8.toNat_ofNat',Nat.mod_eq_of_lt]
theorem pF : ∀{α:Type} (l:List α) (k:IntKind) (f:α→Int),CV.cellsL (l.map fun b=> .int k (f b))=l.length
  |_,[],_,_=>rfl
  |_,x::l,k,f=>by simp only[List.map_cons,CV.cellsL,CV.cells,pF l,List.length_cons];omega
theorem dg_cells (d:Dig):(dg d).cells=32:=by simp only[dg,dgl,CV.cells,pF,d.2]
theorem dg_isAgg (d:Dig):(dg d).isAgg=true:=rfl
theorem pG : ∀{α:Type} (l:List α) (k:IntKind) (f:α→Int),CV.denilL (l.map fun b=> .int k (f b))=l.map fun b=> .int k (f b)
  |_,[],_,_=>rfl
  |_,x::l,k,f=>by simp only[List.map_cons,CV.denilL,CV.denil,pG l]
theorem dg_denil (d:Dig):(dg d).denil=dg d:=by simp only[dg,dgl,CV.denil,pG]
theorem dg_getAt (d:Dig):CV.getAt 0 32 true (dg d)=some (dg d):=by
  have:=dg_cells d;simp_all[dg,CV.cells,CV.getAt,and_self,if_true]
theorem dg_setAt (d:Dig)(x:HV):CV.setAt 0 32 x (dg d)=some x:=by
  have:=dg_cells d;simp_all[dg,CV.cells,CV.setAt,and_self,if_true]
theorem zd_cells :zd.cells=32:=dg_cells _
theorem zd_isAgg :zd.isAgg=true:=rfl
theorem zd_denil :zd.denil=zd:=dg_denil _
theorem zd_getAt :CV.getAt 0 32 true zd=some zd:=dg_getAt _
theorem zd_setAt (x:HV):CV.setAt 0 32 x zd=some x:=dg_setAt _ x
theorem dgi_cells (k:IntKind)(n:Int):(dgi k n).cells=32:=rfl
theorem dgi_isAgg (k:IntKind)(n:Int):(dgi k n).isAgg=true:=rfl
theorem dgi_denil (k:IntKind)(n:Int):(dgi k n).denil=dgi k n:=rfl
theorem dgi_getAt (k:IntKind)(n:Int):CV.getAt 0 32 true (dgi k n)=some (dgi k n):=rfl
def zP (ti:TyI)(v:HV)(K:HV→Prop):Prop:=dY ti [(0,.tmp 0)] (fun _=>v) K
def hbuildDig (ti:TyI)(v:HV)(K:HV→Prop):Prop:=
  match v with
  | .c (.int k n)=>K (.c (dgi k n))
  |v=>zP ti v K
@[congr] theorem aX5 {ti:TyI}{v v':HV}{K:HV→Prop}(h:v=v'):hbuildDig ti v K=hbuildDig ti v' K:=by rw[h]
theorem hbuild_dig {bytes:Nat}{t:TypeId}{e:Operand→HV}{x:Operand}{K:HV→Prop}:dY ⟨32,bytes,.array 32 t,zd⟩ [(0,x)] e K=hbuildDig ⟨32,bytes,.array 32 t,zd⟩ (e x) K:=by
  have key:dY ⟨32,bytes,.array 32 t,zd⟩ [(0,x)] e K=dY ⟨32,bytes,.array 32 t,zd⟩ [(0,.tmp 0)] (fun _=>e x) K:=rfl;rw[key];unfold hbuildDig;split
  · rename_i k n h
    rw[h];have:hfill (fun _=>HV.c (.int k n)) [(0,.tmp 0)] ((dgl zdg).map .c)=some (.c (.int k n)::(List.replicate 31 (CV.int .u8 0)).map .c):=by
      simp only[hfill];rfl
    simp only[dY,zd,dg,this,hlift_some];rfl
  · rfl
theorem hbuild_agg {s bytes:Nat}{d:TyD}{zs:List CV}{ps:List (Nat×Operand)}{e:Operand→HV}{K:HV→Prop}:dY ⟨s,bytes,d,.agg zs⟩ ps e K=hlift (hfill e ps (zs.map .c)) fun hs=>K (HV.norm (.agg hs)):=rfl
theorem tS : ∀(l m:List UInt8),CV.eqvL (l.map fun b=> .int .u8 b.toNat) (m.map fun b=> .int .u8 b.toNat)=(l==m)
  |[],[]=>rfl
  |[],_::_=>rfl
  |_::_,[]=>rfl
  |a::l,b::m=>by
    simp only[List.map_cons,CV.eqvL,CV.eqv,tS l m,List.cons_beq_cons];congr 1;rw[Bool.eq_iff_iff];simp only[beq_iff_eq];constructor
    · grind[UInt8.toNat_inj]
    grind
theorem aQ0 (a b:Dig):CV.eqv (dg a) (dg b)=(a==b):=by simp_all[dg,dgl,CV.eqv,tS,Bool.eq_iff_iff,beq_iff_eq,Subtype.ext_iff]
variable {z:CV}{e:TypeId}{n:Nat}{P:Program}
theorem zQ {s b:Nat}(he:bB P e=some ⟨s,b,.int .u8,z⟩)(l:List UInt8):CV.ofTyA P (n+1) e (l.map fun b=> .int .u8 b.toNat)=true:=by
  induction l with
  |nil=>simp only[List.map_nil,CV.ofTyA]
  |cons x l ih=>
    rw[List.map_cons,CV.ofTyA,ih,Bool.and_true];unfold CV.ofTy;rw[he];rfl
theorem vK {t:TypeId}{z':CV}{s b s' b':Nat}(ht:bB P t=some ⟨s,b,.array 32 e,z⟩)(he:bB P e=some ⟨s',b',.int .u8,z'⟩)(hc:P.cellsOf e=1)(d:Dig):CV.ofTy P (n+2) t (dg d)=true:=by
  have h1:(dgl d).length=32:=by simp only[dgl,List.length_map,d.2]
  have h2:(dgl d).all (fun v=>v.cells==P.cellsOf e)=true:=by
    rw[hc];simp only[dgl,List.all_map,List.all_eq_true,Function.comp,CV.cells,beq_self_eq_true,implies_true]
  simp only[dg,CV.ofTy,ht,h1,h2,beq_self_eq_true,Bool.true_and];exact zQ he d.1
theorem qA {t:TypeId}{z':CV}{s b s' b':Nat}(ha:aD3 P t=true)(ht:bB P t=some ⟨s,b,.array 32 e,z⟩)(he:bB P e=some ⟨s',b',.int .u8,z'⟩)(hc:P.cellsOf e=1)(x y:Dig)(K:CV→Prop):
    fY P .eql t (.c (dg x)) (.c (dg y)) K=K (.bool (x==y))∧fY P .neq t (.c (dg x)) (.c (dg y)) K=K (.bool (!(x==y))):=by
  have h1:=vK (n:=6) ht he hc x;have h2:=vK (n:=6) ht he hc y;have h3:=aQ0 x y;simp_all[dg,fY,and_self,true_and]
structure Rp where
  s:Dig
  r:Dig
  o:Dig
  at_:Int
structure Rb where
  w:aU
  p:Rp
def Rp.cv (x:Rp):CV:= .agg [.agg [dg x.s,dg x.r,dg x.o],.int .i64 x.at_]
def Rb.cv (x:Rb):CV:= .agg [.str x.w,x.p.cv]
theorem denilL_rb (l:List Rb):CV.denilL (l.map Rb.cv)=l.map Rb.cv:=cP (fun x=>by simp only[Rb.cv,Rp.cv,CV.denil,CV.denilL,dg_denil]) l
theorem denilL_rp (l:List Rp):CV.denilL (l.map Rp.cv)=l.map Rp.cv:=cP (fun x=>by simp only[Rp.cv,CV.denil,CV.denilL,dg_denil]) l
theorem Rb.denil (x:Rb):x.cv.denil=x.cv:=by simp only[Rb.cv,Rp.cv,CV.denil,CV.denilL,dg_denil]
theorem Rp.denil (x:Rp):x.cv.denil=x.cv:=by simp only[Rp.cv,CV.denil,CV.denilL,dg_denil]
theorem Rb.cells (x:Rb):x.cv.cells=98:=by simp[Rb.cv,Rp.cv,CV.cells,CV.cellsL,dg_cells]
theorem Rp.cells (x:Rp):x.cv.cells=97:=by simp[Rp.cv,CV.cells,CV.cellsL,dg_cells]
theorem Rb.getW (x:Rb):CV.getAt 0 1 false x.cv=some (.str x.w):=by simp[Rb.cv,CV.getAt,CV.getAtL,CV.cells]
theorem Rb.getP (x:Rb):CV.getAt 1 97 true x.cv=some x.p.cv:=by
  have:=Rp.cells x.p;simp_all[CV.getAt,Rp.cv,CV.cells,and_self,if_true,Rb.cv,CV.getAtL,CV.cellsL]
theorem Rb.getAll (x:Rb):CV.getAt 0 98 true x.cv=some x.cv:=by
  have:=Rb.cells x;simp_all[Rb.cv,CV.cells,CV.getAt,and_self,if_true]
theorem Rp.getS (p:Rp):CV.getAt 0 96 true p.cv=some (.agg [dg p.s,dg p.r,dg p.o]):=by simp[Rp.cv,CV.getAt,CV.getAtL,CV.cells,CV.cellsL,dg_cells]
theorem Rp.getT (p:Rp):CV.getAt 96 1 false p.cv=some (.int .i64 p.at_):=by simp[Rp.cv,CV.getAt,CV.getAtL,CV.cells,CV.cellsL,dg_cells]
theorem Rp.getAll (p:Rp):CV.getAt 0 97 true p.cv=some p.cv:=by
  have:=Rp.cells p;simp_all[Rp.cv,CV.cells,CV.getAt,and_self,if_true]
theorem Rb.isAgg (x:Rb):x.cv.isAgg=true:=rfl
theorem Rp.isAgg (x:Rp):x.cv.isAgg=true:=rfl
def mO (s r:Dig)(t:Int)(x:Rb):Bool:=x.p.s==s&&x.p.r==r&&decide (x.p.at_≤t)
def bJ3 (some:List Rb)(x:Rb):Bool:=some.all fun y=>!(y.w==x.w)||decide (y.p.at_≤x.p.at_)
variable {α:Type}
theorem gT (p:α→Bool)(l:List α)(i:Nat)(h:i<l.length):(l.take (i+1)).filter p=(l.take i).filter p++if p l[i]then [l[i]]else []:=by grind[List.take_succ_eq_append_getElem]
structure Jd where
  a:List aU
  d:List aU
  f:List aU
theorem rD {β:Type}(g:β→α→β)(b:β)(l:List α)(i:Nat)(h:i<l.length):(l.take (i+1)).foldl g b=g ((l.take i).foldl g b) l[i]:=by
  rw[List.take_succ_eq_append_getElem h,List.foldl_append];rfl
def ns (l:List aU):CV:=if l=[]then .nils else .slc (l.map .str)
theorem ns_denil (l:List aU):(ns l).denil= .slc (l.map .str):=by grind[ns,CV.denil,denilL_str]
theorem ns_cells (l:List aU):(ns l).cells=1:=by unfold ns;split<;>rfl
theorem ns_isAgg (l:List aU):(ns l).isAgg=false:=by unfold ns;split<;>rfl
theorem ns_getAt (l:List aU):CV.getAt 0 1 false (ns l)=some (ns l):=by unfold ns;split<;>rfl
theorem ns_setAt (l:List aU)(x:HV):CV.setAt 0 1 x (ns l)=some x:=by unfold ns;split<;>rfl
end Go.Pl
namespace Go.Hl
open Go
def gd (ops:Array Oper)(o:Oper):Option (Option (Nat×Bool)):=
  match o.guard with
  |none=>some none
  |some (j,want)=>match(ops[j]?).bind (·.dst)with
    |some d=>some (some (d,want))
    |none=>none
def hgd (g:Option (Nat×Bool))(fr:Fr):Option Bool:=
  match g with
  |none=>some true
  |some (d,want)=>match fr d with
    | .c (.bool b)=>some (b==want)
    | .tup _=>some false
    |_=>none
def hop1 (P:Program)(nid:Nat)(av:List Nat)(g:Option (Nat×Bool))(o:Op)(d:Option Nat)(K:Fr→Ob→Prop)(fr:Fr)(ob:Ob):Prop:=
  match hgd g fr with
  |some true=>hstep P av nid o (ev fr) ob fun v ob'=>K (updo fr d v) ob'
  |some false=>K (updo fr d (.tup [])) ob
  |none=>False
section
variable {P:Program}{ops:Array Oper}{nx i:Nat}{o:Oper}{g:Option (Nat×Bool)}{Q:Fr→Ob→Prop}{fr:Fr}{ob:Ob}
theorem iM (hg:gd ops o=some g):hguard ops o fr=hgd g fr:=by grind[gd,hguard,hgd,bind]
theorem kW {av:List Nat}{K:Fr→Ob→Prop}(ho:ops[i]? =some o)(hg:gd ops o=some g)(h:hop1 P (nx+4*i) av g o.op o.dst K fr ob):hopI P ops nx av i K fr ob:=by grind[hop1,hopI,iM]
theorem aB {l:List Nat}(ho:ops[i]? =some o)(hg:gd ops o=some g)(h: ∀K:Fr→Ob→Prop,(∀fr ob,hlex P ops nx Q l fr ob→K fr ob)→hop1 P (nx+4*i) [] g o.op o.dst K fr ob):hlex P ops nx Q (i::l) fr ob:=by grind[hlex,kW]
theorem bR {cr rd:List Nat}{l:rB}{C:jJ}(ho:ops[i]? =some o)(hg:gd ops o=some g)
    (h: ∀K:Fr→Ob→Prop,(∀fr' ob',hwalk2 P ops nx Q l (if isEff o.op=true then C else(i,if hgd g fr=some true then touch o.op (ev fr)else [])::C) fr' ob'→K fr' ob')→
      hop1 P (nx+4*i) (cr.flatMap (ids4 nx)++rd.flatMap (getF C)) g o.op o.dst K fr ob):hwalk2 P ops nx Q ((i,cr,rd)::l) C fr ob:=by grind[hwalk2,kW,iM]
theorem eE {id n sz:Nat}{el:TypeId}{l:List CV}{ob:Ob}{K:HV→Ob→Prop}(hn:n=l.length)(h:K (.c (.slc l)) (upd ob id (some .dead))):zI id ob K (.own id n) (upd ob id (some (.row el sz l))):=
  ⟨n,el,sz,l,rfl,rfl,hn,h⟩
def iN (P:Program)(nid:Nat)(av:List Nat)(g:Option (Nat×Bool))(o:Op)(d:Option Nat)(id:Nat)(K:Fr→Ob→Prop)(fr:Fr)(ob:Ob):Prop:=
  match hgd g fr with
  |some true=>(hcallOf o=none∧lC nid o (ev fr)=some id)∧(∀i∈touch o (ev fr),i∉av∧(ob i).isSome=true)∧hop P nid o (ev fr) ob (zI id ob fun v ob'=>K (updo fr d v) ob')
  |some false=>K (updo fr d (.tup [])) ob
  |none=>False
theorem pH {av:List Nat}{K:Fr→Ob→Prop}{id:Nat}(ho:ops[i]? =some o)(hg:gd ops o=some g)(h:iN P (nx+4*i) av g o.op o.dst id K fr ob):dL P ops nx av i K fr ob:=by
  unfold iN at h;unfold dL;rw[ho];simp only[iM hg];cases hb:hgd g fr with
  |none=>grind
  |some b=>
    rw[hb]at h;cases b with
    |false=>exact h
    |true=>
      obtain⟨⟨h1,h2⟩,h3,h4⟩:=h;simp only;unfold dP;rw[h1];exact⟨h3,.inr (.inl ⟨id,h2,h4⟩)⟩
theorem cW {l:List Nat}(ho:ops[i]? =some o)(hg:gd ops o=some g)(h: ∀K:Fr→Ob→Prop,(∀fr ob,hlexG P ops nx Q l fr ob→K fr ob)→hop1 P (nx+4*i) [] g o.op o.dst K fr ob):hlexG P ops nx Q (i::l) fr ob:=by
  simp only[hlexG];exact qW (fun _ _ h=>h) (kW ho hg (h _ fun _ _ h=>h))
theorem fP {l:List Nat}(id:Nat)(ho:ops[i]? =some o)(hg:gd ops o=some g)(h: ∀K:Fr→Ob→Prop,(∀fr ob,hlexG P ops nx Q l fr ob→K fr ob)→iN P (nx+4*i) [] g o.op o.dst id K fr ob):hlexG P ops nx Q (i::l) fr ob:=by
  simp only[hlexG];exact pH ho hg (h _ fun _ _ h=>h)
theorem cB {cr rd:List Nat}{l:rB}{C:jJ}(ho:ops[i]? =some o)(hg:gd ops o=some g)
    (h: ∀K:Fr→Ob→Prop,(∀fr' ob',hwalk2G P ops nx Q l (if isEff o.op=true then C else(i,if hgd g fr=some true then touch o.op (ev fr)else [])::C) fr' ob'→K fr' ob')→
      hop1 P (nx+4*i) (cr.flatMap (ids4 nx)++rd.flatMap (getF C)) g o.op o.dst K fr ob):hwalk2G P ops nx Q ((i,cr,rd)::l) C fr ob:=by
  simp only[hwalk2G];refine qW (fun _ _ h=>h) (kW ho hg (h _ fun fr' ob' h=>?_));grind[iM]
theorem fM {cr rd:List Nat}{l:rB}{C:jJ}(id:Nat)(ho:ops[i]? =some o)(hg:gd ops o=some g)
    (h: ∀K:Fr→Ob→Prop,(∀fr' ob',hwalk2G P ops nx Q l (if isEff o.op=true then C else(i,if hgd g fr=some true then touch o.op (ev fr)else [])::C) fr' ob'→K fr' ob')→
      iN P (nx+4*i) (cr.flatMap (ids4 nx)++rd.flatMap (getF C)) g o.op o.dst id K fr ob):hwalk2G P ops nx Q ((i,cr,rd)::l) C fr ob:=by
  simp only[hwalk2G];refine pH ho hg (h _ fun fr' ob' h=>?_);grind[iM]
end
end Go.Hl
namespace Go.Pl
open Go Go.Hl
abbrev W32 :=BitVec 32
def w32 (x:W32):CV:= .int .u32 (x.toNat:Int)
def ws (l:List W32):CV:= .agg (l.map w32)
def u8 (x:UInt8):CV:= .int .u8 (x.toNat:Int)
def us (l:List UInt8):CV:= .agg (l.map u8)
def itN {α:Type}(f:Nat→α→α):Nat→α→α
  |0,s=>s
  |n+1,s=>f n (itN f n s)
def gw (l:List W32)(i:Nat):W32:=l.getD i 0
def gb (l:List UInt8)(i:Nat):UInt8:=l.getD i 0
def sV (x:W32)(n:Nat):W32:=(x>>>n)|||(x<<<(32-n))
def bw (x:UInt8):W32:=BitVec.ofNat 32 x.toNat
def be (b:List UInt8)(i:Nat):W32:=((bw (gb b (4*i))<<<24|||bw (gb b (4*i+1))<<<16)|||bw (gb b (4*i+2))<<<8)|||bw (gb b (4*i+3))
def sg0 (x:W32):W32:=(sV x 7^^^sV x 18)^^^(x>>>3)
def sg1 (x:W32):W32:=(sV x 17^^^sV x 19)^^^(x>>>10)
def wA (b:List UInt8)(n:Nat):List W32:=itN (fun i w=>w.set i (be b i)) n (List.replicate 64 0)
def wB (w:List W32)(n:Nat):List W32:=itN (fun i w=>w.set (i+16) (((gw w i+sg0 (gw w (i+1)))+gw w (i+9))+sg1 (gw w (i+14)))) n w
def bD1 (b:List UInt8):List W32:=wB (wA b 16) 48
def bG5 :List W32:=[
  0x428a2f98,0x71374491,0xb5c0fbcf,0xe9b5dba5,0x3956c25b,0x59f111f1,0x923f82a4,0xab1c5ed5,
  0xd807aa98,0x12835b01,0x243185be,0x550c7dc3,0x72be5d74,0x80deb1fe,0x9bdc06a7,0xc19bf174,
  0xe49b69c1,0xefbe4786,0x0fc19dc6,0x240ca1cc,0x2de92c6f,0x4a7484aa,0x5cb0a9dc,0x76f988da,
  0x983e5152,0xa831c66d,0xb00327c8,0xbf597fc7,0xc6e00bf3,0xd5a79147,0x06ca6351,0x14292967,
  0x27b70a85,0x2e1b2138,0x4d2c6dfc,0x53380d13,0x650a7354,0x766a0abb,0x81c2c92e,0x92722c85,
  0xa2bfe8a1,0xa81a664b,0xc24b8b70,0xc76c51a3,0xd192e819,0xd6990624,0xf40e3585,0x106aa070,
  0x19a4c116,0x1e376c08,0x2748774c,0x34b0bcb5,0x391c0cb3,0x4ed8aa4a,0x5b9cca4f,0x682e6ff3,
  0x748f82ee,0x78a5636f,0x84c87814,0x8cc70208,0x90befffa,0xa4506ceb,0xbef9a3f7,0xc67178f2]
structure St where
  (a b c d e f g h:W32)
def St.l (s:St):List W32:=[s.a,s.b,s.c,s.d,s.e,s.f,s.g,s.h]
def t1 (s:St)(k w:W32):W32:=(((s.h+((sV s.e 6^^^sV s.e 11)^^^sV s.e 25))+((s.e&&&s.f)^^^(~~~s.e&&&s.g)))+k)+w
def t2 (s:St):W32:=((sV s.a 2^^^sV s.a 13)^^^sV s.a 22)+(((s.a&&&s.b)^^^(s.a&&&s.c))^^^(s.b&&&s.c))
def rnd (w:List W32)(i:Nat)(s:St):St:=⟨t1 s (gw bG5 i) (gw w i)+t2 s,s.a,s.b,s.c,s.d+t1 s (gw bG5 i) (gw w i),s.e,s.f,s.g⟩
def bG6 (s r:St):St:=⟨s.a+r.a,s.b+r.b,s.c+r.c,s.d+r.d,s.e+r.e,s.f+r.f,s.g+r.g,s.h+r.h⟩
def comp (s:St)(p:List UInt8):St:=bG6 s (itN (rnd (bD1 p)) 64 s)
def blk (p:List UInt8)(n:Nat)(s:St):St:=itN (fun i s=>comp s ((p.drop (64*i)).take 64)) n s
def zs (n:Nat):Nat:=(119-n%64)%64
section
variable {α:Type}{f:α→CV}
theorem gL (hc: ∀x,(f x).cells=1): ∀l:List α,CV.cellsL (l.map f)=l.length
  |[]=>rfl
  |x::l=>by simp only[List.map_cons,CV.cellsL,hc,gL hc l,List.length_cons];omega
theorem rE (hc: ∀x,(f x).cells=1)(hg: ∀x,CV.getAt 0 1 false (f x)=some (f x)): ∀(l:List α) (i:Nat) (h:i<l.length),CV.getAtL i 1 false (l.map f)=some (f l[i])
  |[],i,h=>by simp at h
  |x::l,0,h=>by simp only[List.map_cons,CV.getAtL,hc,if_pos (show 0<1 by omega),hg,List.getElem_cons_zero]
  |x::l,i+1,h=>by
    simp only[List.map_cons,CV.getAtL,hc,if_neg (show¬i+1<1 by omega),Nat.add_sub_cancel,List.getElem_cons_succ];exact rE hc hg l i (by simpa using h)
theorem aI2 (hc: ∀x,(f x).cells=1)(hg: ∀x,CV.getAt 0 1 false (f x)=some (f x)){l:List α}{i:Nat}(h:i<l.length):CV.getAt i 1 false (.agg (l.map f))=some (f l[i]):=by
  simp only[CV.getAt,Bool.false_eq_true,and_false,if_false];exact rE hc hg l i h
theorem lP (hc: ∀x,(f x).cells=1)(hs: ∀x y,CV.setAt 0 1 y (f x)=some y)(y:α): ∀(l:List α) (i:Nat),i<l.length→CV.setAtL i 1 (.c (f y)) (l.map f)=some (((l.set i y).map f).map .c)
  |[],i,h=>by simp at h
  |x::l,0,h=>by simp only[List.map_cons,CV.setAtL,hc,if_pos (show 0<1 by omega),hs,Option.map_some,List.set_cons_zero]
  |x::l,i+1,h=>by
    simp only[List.map_cons,CV.setAtL,hc,if_neg (show¬i+1<1 by omega),Nat.add_sub_cancel,List.set_cons_succ];rw[lP hc hs y l i (by simpa using h)];rfl
theorem aI3 (hc: ∀x,(f x).cells=1)(hs: ∀x y,CV.setAt 0 1 y (f x)=some y){y:α}{l:List α}{i:Nat}(h:i<l.length)(h2:l.length≠1):CV.setAt i 1 (.c (f y)) (.agg (l.map f))=some (.agg (((l.set i y).map f).map .c)):=by
  simp only[CV.setAt,gL hc,h2,and_false,if_false];rw[lP hc hs y l i h];rfl
end
theorem vL : ∀l:List CV,HV.toCL (l.map .c)=some l
  |[]=>rfl
  |x::l=>by simp only[List.map_cons,HV.toCL,HV.toC,vL l]
theorem aX6 (l:List CV):HV.norm (.agg (l.map .c))= .c (.agg l):=by simp only[HV.norm,HV.toC,vL,Option.map_some]
theorem ws_cells (l:List W32):(ws l).cells=l.length:=gL (fun _=>rfl) l
theorem us_cells (l:List UInt8):(us l).cells=l.length:=gL (fun _=>rfl) l
variable {i:Nat}
theorem bD2 {l:List UInt8}(h:i<l.length):CV.getAt i 1 false (us l)=some (u8 l[i]):=aI2 (fun _=>rfl) (fun _=>rfl) h
theorem bD3 {l:List UInt8}(y:UInt8)(h:i<l.length)(h2:l.length≠1):CV.setAt i 1 (.c (u8 y)) (us l)=some (.agg (((l.set i y).map u8).map .c)):=aI3 (fun _=>rfl) (fun _ _=>rfl) h h2
def wz (n:Nat):List W32:=List.replicate n 0
def uz (n:Nat):List UInt8:=List.replicate n 0
end Go.Pl
