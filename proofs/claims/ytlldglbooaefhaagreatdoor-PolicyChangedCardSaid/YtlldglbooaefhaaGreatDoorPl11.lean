/- Plain Lean: root documents, who vouches, what is valid. By an AI agent. -/
import Derived.Test.YtlldglbooaefhaaGreatDoorHlS
import Derived.Sort.KeysCollected
set_option linter.unusedSimpArgs false
set_option linter.unusedVariables false
set_option linter.defProp false
namespace Go.Hl
open Go
section
variable {P:Program}{n k:Nat}{Q:eF}{fr:Fr}{ob:Ob}{nx:Nat}
def HO.close (ob:Ob)(cl:List Nat):HO→HO
 | .box t v=> .box t (v.close ob cl).norm
 | .row e sz l=> .row e sz l
 | .mp e sz D=> .mp e sz D
 | .dead=> .dead
 | .tab T=> .tab T
 | .hrow e sz l=> .hrow e sz (HV.closeL ob cl l)
def clF (ob:Ob)(cl:List Nat)(fr:Fr):Fr:=fun t=>((fr t).close ob cl).norm
def clO (ob:Ob)(cl:List Nat):Ob:=fun id=>if cl.contains id=true then none else(ob id).map (HO.close ob cl)
theorem dI (cl:List Nat)(t:Nat):clF ob cl fr t=((fr t).close ob cl).norm:=rfl
theorem dJ (cl:List Nat)(id:Nat):clO ob cl id=if cl.contains id=true then none else(ob id).map (HO.close ob cl):=rfl
mutual
theorem HV.close_men {cl:List Nat}{M:Nat→Prop}: ∀{v:HV},v.men M→(v.close ob cl).men M
 | .junk,h=>h
 | .c _,_=>by simp[HV.close,HV.men]
 | .agg l,h=>by simp only[HV.close,HV.men]at h⊢;exact HV.closeL_men h
 | .own id n,h=>by
  simp only[HV.close];split
  ·
   split
   ·
    split
    · simp[HV.men]
    · exact h
   · exact h
  · exact h
 | .ptr ..,h=>h
 | .eptr ..,h=>h
 | .osl id n lo sz hi,h=>by
  simp only[HV.close];split
  ·
   split
   ·
    split
    · simp[HV.men]
    · exact h
   · exact h
  · exact h
 | .mapr ..,h=>h
 | .mrow ..,h=>h
 | .clo ..,h=>h
 | .opq _,h=>h
 | .tup l,h=>by simp only[HV.close,HV.men]at h⊢;exact HV.closeL_men h
theorem HV.closeL_men {cl:List Nat}{M:Nat→Prop}: ∀{l:List HV},HV.menL M l→HV.menL M (HV.closeL ob cl l)
 |[],h=>by simp[HV.closeL,HV.menL]
 |v::l,h=>by simp only[HV.closeL,HV.menL]at h⊢;exact⟨HV.norm_men (HV.close_men h.1),HV.closeL_men h.2⟩
end
theorem HV.close_junk {cl:List Nat}{v:HV}(h:(v.close ob cl).norm≠ .junk):v≠ .junk:=by
 intro e;subst e;exact h rfl
theorem dA {code:Code}(cl:List Nat)(h:Hw P n k code Q (clF ob cl fr) (clO ob cl) nx):Hw P n k code Q fr ob nx:=by
 intro c a w hn hk hz hA;refine h c a w hn hk hz ?_;obtain⟨ρ,h⟩:=hA
 let ρ2:Env:=fun id=>if cl.contains id=true then none else ρ id
 have hρ2: ∀id L,ρ2 id=some L→ρ id=some L:=fun id L hL=>by grind
 have hcl: ∀id∈cl,ρ2 id=none:=fun id hid=>by grind
 have hown: ∀b,Own ρ2 b→Own ρ b:=fun b ⟨id,L,h1,h2⟩=>⟨id,L,hρ2 id L h1,h2⟩;have hst:Stay w (Owned ρ c.X) w (Owned ρ2 c.X):=Stay.same (fun b _ hb=>hb.imp id (hown b));refine⟨ρ2,⟨fun id o ho=>?_,fun id hid=>?_,fun id id' L L' b h1 h2 h3 h4=>h.s.apart id id' L L' b (hρ2 _ _ h1) (hρ2 _ _ h2) h3 h4,fun id L b h1 h2=>h.s.xb id L b (hρ2 _ _ h1) h2⟩,fun t ht=>?_,fun t=>HV.norm_men (HV.close_men (h.mf t)),fun id o ho=>?_,h.m0,?_,?_,h.defers,h.size,h.xlt⟩
 ·
  simp only[clO]at ho;split at ho
  · grind
  ·
   rename_i hc;obtain⟨o',ho',rfl⟩:=Option.map_eq_some_iff.1 ho;have hid:ρ2 id=ρ id:=by simp only[ρ2,hc];rfl
   have hobj:=h.s.objs id o' ho';cases o' with
   |box t v=>
    obtain⟨b,cs,e1,e2,e3⟩:=hobj;exact⟨b,cs,by grind,e2,HV.norm_rep (gZ h.s hcl hρ2 hst e3)⟩
   |row e sz l=>
    obtain⟨hd,xs,e1,e2,e3,e4⟩:=hobj;exact⟨hd,xs,by grind,e2.stay hst,e3,e4⟩
   |mp e sz D=>
    obtain⟨b,hf,e1,e2⟩:=hobj;exact⟨b,hf,by grind,e2.stay hst rfl (fun _ _ _ _ _=>rfl)⟩
   |dead=>exact hid.trans hobj
   |tab T=>exact⟨hid.trans hobj.1,kX hst hobj.2⟩
   |hrow e sz l=>
    obtain⟨hd,xs,e1,e2,e3,e4⟩:=hobj;exact⟨hd,xs,by grind,lQ h.s hcl hρ2 hst e2,pF l e3,by grind[kN]⟩
 ·
  simp only[clO]at hid;simp only[ρ2];split
  · rfl
  · rename_i hc;rw[if_neg hc,Option.map_eq_none_iff]at hid;exact h.s.none id hid
 · have:=h.f t (HV.close_junk ht);exact⟨HV.norm_rep (gZ h.s hcl hρ2 hst this.1),by rw[clF,HV.norm_agg,HV.close_agg];exact this.2⟩
 ·
  simp only[clO]at ho;split at ho
  · grind
  ·
   obtain⟨o',ho',rfl⟩:=Option.map_eq_some_iff.1 ho;obtain⟨m1,m2⟩:=h.mo id o' ho';refine⟨m1,?_⟩;cases o' with
   |box t v=>exact HV.norm_men (HV.close_men m2)
   |row e sz l=>trivial
   |mp e sz D=>trivial
   |dead=>trivial
   |tab _=>trivial
   |hrow e sz l=>exact HV.closeL_men m2
 · exact h.base.trans ⟨fun _ _ _=>rfl,fun b hb=> .inl (hown b hb),Nat.le_refl _,rfl,rfl,rfl⟩
 · exact Moves.trans (fun _ h=>h) h.moves (fun id L _ hL=>⟨L,hρ2 id L hL,.inl rfl⟩)
theorem ownsRow_nil {w:World}{e sz:Nat}:w.ownsRow 0 e sz (.slice none 0 0) 0 []:=by
 refine⟨by simp,.inl ⟨rfl,rfl⟩⟩
theorem RepA'.emptyRow {c:Ctx}{M M':Nat→Prop}{a:Act}{w:World}{ρ:Env}(h:RepA' c M fr ob a w ρ){id e sz:Nat}(hn: ¬M id)(hM: ∀i,M i→M' i)(hM':M' id):
  RepA' c M' fr (upd ob id (some (.row e sz []))) a w (upd ρ id (some (.hdr (.slice none 0 0)))):=by
 obtain⟨hob,hρ⟩:=h.nid_none hn;have hown: ∀b,Own (upd ρ id (some (.hdr (.slice none 0 0)))) b→Own ρ b:=by
  rintro b ⟨i,L,h1,h2⟩;by_cases e:i=id
  · subst e;rw[aP]at h1;cases h1;cases h2
  · rw[aY _ _ e]at h1;exact⟨i,L,h1,h2⟩
 have hst:Stay w (Owned ρ c.X) w (Owned (upd ρ id (some (.hdr (.slice none 0 0)))) c.X):=Stay.same (fun b _ hb=>hb.imp (fun x=>x) (hown b));have hmv:Moves M ρ (upd ρ id (some (.hdr (.slice none 0 0)))):=Moves.upd_new hn;refine⟨⟨fun i o ho=>?_,fun i hi=>?_,fun i i' L L' b h1 h2 h3 h4=>?_,fun i L b h1 h2=>?_⟩,fun t ht=>⟨RepH.stay hst hmv (h.mf t) (h.f t ht).1,(h.f t ht).2⟩,fun t=>HV.men_mono hM (h.mf t),fun i o ho=>?_,fun i hi=>hM i (h.m0 i hi),?_,?_,h.defers,h.size,h.xlt⟩
 ·
  by_cases e':i=id
  · subst e';rw[aP]at ho;cases ho;exact⟨.slice none 0 0,[],aP _ _ _,by simp[RepL],by simp,ownsRow_nil⟩
  · rw[aY _ _ e']at ho;exact RepO.stay hst hmv (h.mo i o ho).2 (aY _ _ e') (fun _ _ _ _=>rfl) (h.s.objs i o ho)
 ·
  by_cases e':i=id
  · simp_all
  · rw[aY _ _ e']at hi⊢;exact h.s.none i hi
 ·
  by_cases e1:i=id
  · subst e1;rw[aP]at h1;cases h1;cases h3
  ·
   by_cases e2:i'=id
   · subst e2;rw[aP]at h2;cases h2;cases h4
   · rw[aY _ _ e1]at h1;rw[aY _ _ e2]at h2;exact h.s.apart i i' L L' b h1 h2 h3 h4
 ·
  by_cases e1:i=id
  · subst e1;rw[aP]at h1;cases h1;cases h2
  · rw[aY _ _ e1]at h1;exact h.s.xb i L b h1 h2
 ·
  by_cases e':i=id
  · subst e';rw[aP]at ho;cases ho;exact⟨hM',trivial⟩
  · rw[aY _ _ e']at ho;exact⟨hM _ (h.mo i o ho).1,HO.men_mono hM (h.mo i o ho).2⟩
 · exact h.base.trans ⟨fun _ _ _=>rfl,fun b hb=> .inl (hown b hb),Nat.le_refl _,rfl,rfl,rfl⟩
 · exact Moves.trans h.m0 h.moves hmv
theorem vP {w:World}{ρ:Env}{O:Nat→Prop}{v v':HV}{off id:Nat}{cs:List Value}(hg:HV.getAt off 1 false v=some (.c .nils))(hs:v.sto=true)(hv:HV.setAt off 1 (.own id 0) v=some v')(hρ:ρ id=some (.hdr (.slice none 0 0)))
  (h:RepH w ρ O v cs):RepH w ρ O v' cs:=by
 obtain⟨c1,c2,c3,e0,e1,e2,e3,_⟩:=HV.getAt_spec hg hs h;obtain⟨d1,d2,d3,f0,f1,f2,f3,_⟩:=HV.setAt_spec (x:= .own id 0) rfl hv hs h;have:c1=d1∧c2++c3=d2++d3:=by
  have:=e0.symm.trans f0;rw[List.append_assoc,List.append_assoc]at this;exact List.append_inj this (by omega)
 obtain⟨rfl,h23⟩:=this;have h23:=List.append_inj h23 (by omega);obtain⟨rfl,rfl⟩:=h23;rw[e0];refine f3 c2 ?_;simp only[RepH,RepC]at e3⊢;refine⟨_,e3,rfl,fun hd hh=>?_⟩;grind
theorem nC {code:Code}(t off e sz:Nat){v':HV}(hg:HV.getAt off 1 false (fr t)=some (.c .nils))(hs:(fr t).sto=true)(hv:HV.setAt off 1 (.own nx 0) (fr t)=some v')(ha:v'.isAgg=(fr t).isAgg)
  (h:Hw P n k code Q (upd fr t v') (upd ob nx (some (.row e sz []))) (nx+1)):Hw P n k code Q fr ob nx:=by
 intro c a w hn hk hz hA;refine h c a w hn hk hz ?_;obtain⟨ρ,hA⟩:=hA;have hA':=hA.emptyRow (M':=(· <nx+1)) (id:=nx) (e:=e) (sz:=sz) (by omega) (fun i hi=>by omega) (by omega);refine⟨_,hA'.s,fun t' ht'=>?_,fun t'=>?_,hA'.mo,hA'.m0,hA'.base,hA'.moves,hA'.defers,hA'.size,hA'.xlt⟩
 ·
  by_cases e':t'=t
  ·
   subst e';rw[aP];have hj:fr t'≠ .junk:=by intro e';rw[e']at hs;simp[HV.sto]at hs
   have hf:=hA'.f t' hj;have hr:=vP hg hs hv (aP _ _ _) hf.1;exact⟨hr,by rw[ha];exact hf.2⟩
  · rw[aY _ _ e']at ht'⊢;exact hA'.f t' ht'
 ·
  by_cases e':t'=t
  ·
   subst e';rw[aP];have hj:fr t'≠ .junk:=by intro e';rw[e']at hs;simp[HV.sto]at hs
   obtain⟨d1,d2,d3,f0,f1,f2,f3,f4,f5⟩:=HV.setAt_spec (x:= .own nx 0) rfl hv hs (hA'.f t' hj).1;exact f5 _ (by simp[HV.men]) (hA'.mf t')
  · rw[aY _ _ e'];exact hA'.mf t'
theorem uK {code:Code}(id off e sz:Nat){T:TypeId}{v v':HV}(hb:ob id=some (.box T v))(hg:HV.getAt off 1 false v=some (.c .nils))(hs:v.sto=true)(hv:HV.setAt off 1 (.own nx 0) v=some v')
  (h:Hw P n k code Q fr (upd (upd ob nx (some (.row e sz []))) id (some (.box T v'))) (nx+1)):Hw P n k code Q fr ob nx:=by
 intro c a w hn hk hz hA;refine h c a w hn hk hz ?_;obtain⟨ρ,hA⟩:=hA;have hid:id<nx:=(hA.mo id _ hb).1;have hA':=hA.emptyRow (M':=(· <nx+1)) (id:=nx) (e:=e) (sz:=sz) (by omega) (fun i hi=>by omega) (by omega);have hb':upd ob nx (some (.row e sz [])) id=some (.box T v):=by rw[aY _ _ (by omega)];exact hb
 obtain⟨b,cs,e1,e2,e3⟩:=hA'.s.objs id _ hb';refine⟨_,⟨fun i o ho=>?_,fun i hi=>?_,hA'.s.apart,hA'.s.xb⟩,hA'.f,hA'.mf,fun i o ho=>?_,hA'.m0,hA'.base,hA'.moves,hA'.defers,hA'.size,hA'.xlt⟩
 ·
  by_cases e':i=id
  · subst e';rw[aP]at ho;cases ho;exact⟨b,cs,e1,e2,vP hg hs hv (aP _ _ _) e3⟩
  · rw[aY _ _ e']at ho;exact hA'.s.objs i o ho
 ·
  by_cases e':i=id
  · simp_all
  · rw[aY _ _ e']at hi;exact hA'.s.none i hi
 ·
  by_cases e':i=id
  · subst e';rw[aP]at ho;cases ho;obtain⟨d1,d2,d3,f0,f1,f2,f3,f4,f5⟩:=HV.setAt_spec (x:= .own nx 0) rfl hv hs e3;exact⟨(hA'.mo i _ hb').1,f5 _ (by simp[HV.men]) (hA'.mo i _ hb').2⟩
  · rw[aY _ _ e']at ho;exact hA'.mo i o ho
theorem aW4 {code:Code}(id:Nat){o o':HO}(hb:ob id=some o)(hv: ∀w ρ O,RepO w ρ O id o→RepO w ρ O id o')(hm: ∀M,o.men M→o'.men M)(h:Hw P n k code Q fr (upd ob id (some o')) nx):Hw P n k code Q fr ob nx:=by
 intro c a w hn hk hz hA;refine h c a w hn hk hz ?_;obtain⟨ρ,hA⟩:=hA;refine⟨ρ,⟨fun i o2 ho=>?_,fun i hi=>?_,hA.s.apart,hA.s.xb⟩,hA.f,hA.mf,fun i o2 ho=>?_,hA.m0,hA.base,hA.moves,hA.defers,hA.size,hA.xlt⟩
 ·
  by_cases e:i=id
  · subst e;rw[aP]at ho;cases ho;exact hv _ _ _ (hA.s.objs i _ hb)
  · rw[aY _ _ e]at ho;exact hA.s.objs i o2 ho
 ·
  by_cases e:i=id
  · simp_all
  · rw[aY _ _ e]at hi;exact hA.s.none i hi
 ·
  by_cases e:i=id
  · subst e;rw[aP]at ho;cases ho;exact⟨(hA.mo i _ hb).1,hm _ (hA.mo i _ hb).2⟩
  · rw[aY _ _ e]at ho;exact hA.mo i o2 ho
theorem bU9 {code:Code}(id:Nat){e:TypeId}{sz:Nat}{l:List CV}(hb:ob id=some (.row e sz l))(h:Hw P n k code Q fr (upd ob id (some (.hrow e sz (l.map .c)))) nx):Hw P n k code Q fr ob nx:=by
 refine aW4 (o':= .hrow e sz (l.map .c)) id hb (fun w ρ O hr=>?_) (fun M _=>(HV.menL_c:HV.menL M (l.map .c))) h;obtain⟨hd,xs,h1,h2,h3,h4⟩:=hr;refine⟨hd,xs,h1,pV.2 h2,fun v hv=>?_,by grind⟩;obtain⟨u,hu,rfl⟩:=List.mem_map.1 hv;exact⟨h3 u hu,rfl⟩
theorem aJ1 : ∀{l:List HV} {l':List CV},HV.toCL l=some l'→l'.length=l.length
 |[],l',h=>by grind[HV.toCL,Option.some.injEq]
 |v::vs,l',h=>by
  simp only[HV.toCL]at h;split at h
  · rename_i a b h1 h2;cases h;simp[aJ1 h2]
  grind
theorem aJ2 : ∀{l:List HV} {l':List CV} {sz:Nat},HV.toCL l=some l'→(∀v∈l,v.cells=sz∧v.sto=true)→ ∀u∈l',u.cells=sz
 |[],l',sz,h,_=>by grind[HV.toCL,Option.some.injEq]
 |v::vs,l',sz,h,hc=>by
  simp only[HV.toCL]at h;split at h
  ·
   rename_i a b h1 h2;cases h;intro u hu;rcases List.mem_cons.1 hu with rfl|hu
   · rw[HV.toC_cells h1];grind
   · exact aJ2 h2 (fun x hx=>hc x (by grind)) u hu
  grind
theorem aW5 {code:Code}(id:Nat){e:TypeId}{sz:Nat}{l:List HV}(l':List CV)(hb:ob id=some (.hrow e sz l))(hl:HV.toCL l=some l')(h:Hw P n k code Q fr (upd ob id (some (.row e sz l'))) nx):Hw P n k code Q fr ob nx:=by
 refine aW4 (o':= .row e sz l') id hb (fun w ρ O hr=>?_) (fun M _=>trivial) h;obtain⟨hd,xs,h1,h2,h3,h4⟩:=hr;exact⟨hd,xs,h1,HV.toCL_spec hl h2,aJ2 hl h3,by grind[aJ1]⟩
def bL (ob:Ob)(id:Nat):Ob:=fun i=>if i=id then none else ob i
theorem bV0 (ob:Ob)(id i:Nat):bL ob id i=if i=id then none else ob i:=rfl
theorem yS {code:Code}(t id:Nat){T:TypeId}{v:CV}(ht:fr t= .ptr id 0)(hb:ob id=some (.box T (.c v)))
  (h:Hw P n k code Q (upd fr t (.c (.rp v))) (bL ob id) nx):Hw P n k code Q fr ob nx:=by
 intro c a w hn hk hz hA;refine h c a w hn hk hz ?_;obtain⟨ρ,h⟩:=hA
 let ρ2:Env:=fun i=>if i=id then none else ρ i
 have hρ2: ∀i L,ρ2 i=some L→ρ i=some L:=fun i L hL=>by grind
 have hown: ∀b,Own ρ2 b→Own ρ b:=fun b ⟨i,L,h1,h2⟩=>⟨i,L,hρ2 i L h1,h2⟩;have hst:Stay w (Owned ρ c.X) w (Owned ρ2 c.X):=Stay.same (fun b _ hb=>hb.imp (fun x=>x) (hown b));have hmv: ∀M:Nat→Prop,Moves M ρ ρ2:=fun M i L _ hL=>⟨L,hρ2 i L hL,.inl rfl⟩;obtain⟨b,cs,e1,e2,e3⟩:=h.s.objs id _ hb;obtain⟨b',e1',he⟩:=jI (x:= .tmp t) h ht (by rw[hb];rfl);rw[e1]at e1';cases e1';have hnb: ¬Owned ρ2 c.X b:=by
  rintro(hx|⟨i,L,h1,h2⟩)
  · exact h.s.xb id _ b e1 rfl hx
  · have:=h.s.apart i id L _ b (hρ2 i L h1) e1 h2 rfl;grind
 refine⟨ρ2,⟨fun i o ho=>?_,fun i hi=>?_,fun i i' L L' b h1 h2 h3 h4=>h.s.apart i i' L L' b (hρ2 _ _ h1) (hρ2 _ _ h2) h3 h4,fun i L b h1 h2=>h.s.xb i L b (hρ2 _ _ h1) h2⟩,fun t' ht'=>?_,fun t'=>?_,fun i o ho=>?_,h.m0,?_,?_,h.defers,h.size,h.xlt⟩
 ·
  simp only[bL]at ho;split at ho
  · grind
  · rename_i hne;exact RepO.stay hst (hmv _) (h.mo i o ho).2 (by grind) (fun _ _ _ _=>rfl) (h.s.objs i o ho)
 ·
  simp only[bL]at hi;simp only[ρ2];split
  · rfl
  · rename_i hne;rw[if_neg hne]at hi;exact h.s.none i hi
 ·
  by_cases e:t'=t
  · subst e;rw[aP];have he':a.tmps.getD t' undef= .pointer (some ⟨b,0,none⟩):=he;rw[he'];refine cW ?_ rfl rfl;simp only[RepC];simp only[RepH]at e3;refine⟨⟨b,0,none⟩,cs,rfl,e3.stay hst,fun j u hj=>?_,fun _=>hnb⟩;have hlt:j<cs.length:=(List.getElem?_eq_some_iff.1 hj).1;rw[eA,cell_of_row w b _ _ _ _ e2];simpa using hj
  · rw[aY _ _ e]at ht'⊢;exact⟨RepH.stay hst (hmv _) (h.mf t') (h.f t' ht').1,(h.f t' ht').2⟩
 ·
  by_cases e:t'=t
  · grind[aP,HV.men]
  · rw[aY _ _ e];exact h.mf t'
 ·
  simp only[bL]at ho;split at ho
  · grind
  · exact h.mo i o ho
 · exact h.base.trans ⟨fun _ _ _=>rfl,fun b hb=> .inl (hown b hb),Nat.le_refl _,rfl,rfl,rfl⟩
 · exact Moves.trans (fun _ h=>h) h.moves (hmv _)
end
def lS (ops:Array Oper)(p:Nat):Bool:=match ops[p]? with|some o=>bP o.op|none=>true
def effAt (ops:Array Oper)(p:Nat):Bool:=match ops[p]? with|some o=>isEff o.op|none=>false
def ids4 (nx p:Nat):List Nat:=[nx+4*p,nx+4*p+1,nx+4*p+2,nx+4*p+3]
def getF (C:jK)(p:Nat):List Nat:=C.flatMap fun q=>if q.1=p then q.2 else []
abbrev nD :=List (Nat×List Nat×List Nat)
def hwalk2G (P:Program)(ops:Array Oper)(nx:Nat)(Q:Fr→Ob→Prop):nD→jK→Fr→Ob→Prop
 |[],_,fr,ob=>Q fr ob
 |(i,cr,rd)::rest,C,fr,ob=>dM P ops nx (cr.flatMap (ids4 nx)++rd.flatMap (getF C)) i (hwalk2G P ops nx Q rest (match ops[i]? with
   |some o=>if isEff o.op=true then C else(i,if hguard ops o fr=some true then touch o.op (ev fr)else [])::C
   |none=>C)) fr ob
def chk (ops:Array Oper)(wt:Nat→Nat→Bool):nD→List Nat→Bool
 |[],_=>true
 |(i,cr,rd)::rest,T=>T.all (fun p=>wt i p||((lS ops p||cr.contains p)&&(!(effAt ops i)||rd.contains p)))&&chk ops wt rest (if effAt ops i then T else i::T)
variable {ob:Ob}{fr:Fr}{av:List Nat}{nx:Nat}{ops:Array Oper}{P:Program}
theorem bJ5 {av':List Nat}{i:Nat}{K:Fr→Ob→Prop}(hav: ∀id,(ob id).isSome=true→id∈av→id∈av')(h:dM P ops nx av' i K fr ob):
  dM P ops nx av i (fun fr' ob'=>K fr' ob'∧(∀id,ob id=none→(lS ops i=true∨ ¬(nx+4*i≤id∧id<nx+4*i+4))→ob' id=none)) fr ob:=by
 unfold dM at h⊢;cases ho:ops[i]? with
 |none=>grind
 |some o=>
  rw[ho]at h;simp only at h⊢;cases hg:hguard ops o fr with
  |none=>grind
  |some b=>
   rw[hg]at h;cases b with
   |false=>grind
   |true=>
    simp only at h⊢;unfold eI at h⊢;cases hc:hcallOf o.op with
    |none=>
     rw[hc]at h;simp only at h⊢;obtain⟨v,u,hK,hform,hid,hq⟩:=vK h.2;refine⟨fun id hi=>⟨fun hin=>(h.1 id hi).1 (hav id (h.1 id hi).2 hin),(h.1 id hi).2⟩,hform ob (fun _ _=>rfl) _ ⟨hK,fun id h1 h2=>?_⟩⟩;grind[jE,lS]
    |some p=>
     obtain⟨f,xs⟩:=p;rw[hc]at h;simp only at h⊢;obtain⟨h1,nd,h⟩:=h;refine⟨h1,nd,?_⟩;have hnq:lS ops i=false:=by
      simp only[lS,ho];cases hop':o.op<;>rw[hop']at hc<;>simp only[hcallOf]at hc<;>try cases hc
      rename_i cl;grind[bP]
     have hcall: ∀g args,HCallL P av' g args ob (nx+4*i) (fun v ob'=>K (updo fr o.dst v) ob')→HCallL P av g args ob (nx+4*i) (fun v ob'=>K (updo fr o.dst v) ob'∧(∀id,ob id=none→(lS ops i=true∨ ¬(nx+4*i≤id∧id<nx+4*i+4))→ob' id=none)):=by
      rintro g args ⟨σ,largs,lob,R,h1,h2,h3,h5,h6,h7⟩;have hσ: ∀j,j<σ.length→(ob (σ.getD j 0)).isSome=true:=fun j hj=>by
       obtain⟨o',ho'⟩:=h2.all j hj;grind
      refine⟨σ,largs,lob,R,h1,h2,⟨h3.1,fun j hj=>(h3.2 j hj).imp (fun h hin=>h (hav _ (hσ j hj) hin)) (fun h=>h)⟩,h5,h6,fun r lob' hR hr=>⟨h7 r lob' hR hr,fun id e1 e2=>?_⟩⟩
      ·
       unfold bY;split
       · rename_i j hj;exfalso;rw[List.findIdx?_eq_some_iff_getElem]at hj;obtain⟨hj1,hj2,_⟩:=hj;have:=hσ j hj1;rw[List.getD_eq_getElem?_getD,List.getElem?_eq_getElem hj1,Option.getD_some]at this;simp only[beq_iff_eq]at hj2;rw[hj2,e1]at this;cases this
       ·
        rcases e2 with e2|e2
        · rw[hnq]at e2;cases e2
        · rw[if_neg e2];exact e1
     grind
theorem vQ {P:Program}{ops:Array Oper}{nx:Nat}{wt:Nat→Nat→Bool}{Q:Fr→Ob→Prop}: ∀(plan:nD) (C:jK) (fr:Fr) (ob:Ob),chk ops wt plan (C.map (·.1))=true→
  (∀p,lS ops p=true→ ∀t,t<4→ob (nx+4*p+t)=none)→hwalk2G P ops nx Q plan C fr ob→mZ P ops nx wt Q (plan.map (·.1)) C fr ob
 |[],C,fr,ob,_,_,h=>h
 |(i,cr,rd)::rest,C,fr,ob,hc,hn,h=>by
  simp only[hwalk2G,mZ,List.map_cons,chk,Bool.and_eq_true]at h hc⊢;have hav: ∀id,(ob id).isSome=true→id∈iV ops nx wt C i→id∈cr.flatMap (ids4 nx)++rd.flatMap (getF C):=by
   intro id hs hid;simp only[iV,List.mem_flatMap]at hid;obtain⟨p,hp,hid⟩:=hid;have hT:=List.all_eq_true.1 hc.1 p.1 (List.mem_map.2 ⟨p,hp,rfl⟩);split at hid
   · grind
   ·
    rename_i hw;have hw':wt i p.1=false:=by simpa using hw
    simp only[hw',Bool.false_or,Bool.and_eq_true,Bool.or_eq_true,Bool.not_eq_true']at hT;rcases List.mem_append.1 hid with hid|hid
    ·
     rcases hT.1 with hq|hq
     ·
      simp only[List.mem_cons,List.not_mem_nil,or_false]at hid;have: ∃t,t<4∧id=nx+4*p.1+t:=by
       rcases hid with e|e|e|e
       · simp_all
       · grind
       · grind
       · grind
      grind
     · refine List.mem_append_left _ (List.mem_flatMap.2 ⟨p.1,by grind,hid⟩)
    ·
     split at hid
     ·
      rename_i he;have he':effAt ops i=true:=by
       simp only[effAt];cases ho:ops[i]? with
       |none=>grind[absurd,dM]
       |some o=>grind
      rcases hT.2 with h'|h'
      · grind
      · refine List.mem_append_right _ (List.mem_flatMap.2 ⟨p.1,by grind,?_⟩);exact List.mem_flatMap.2 ⟨p,hp,by grind⟩
     grind
  refine jL (fun _ h=>h) (fun fr' ob' hK=>?_) (bJ5 hav h);refine vQ rest _ fr' ob' ?_ (fun p hq t ht=>?_) hK.1
  · grind[effAt,absurd,dM,isEff]
  · refine hK.2 _ (hn p hq t ht) ?_;by_cases e:i=p;all_goals grind
variable {Q:eF}
theorem cT {n k:Nat}{id:Nat}(hm:P.follows .mixedOrders=true)(plan:nD)(ms:List Nat)(hd:iH n ops=true)(hp:jM ops (plan.map (·.1)) (Array.replicate ops.size false)=true)(hw1:aI7 ops ms=true)
  (hw2:ms.all (fun m=>decide (m<2^ms.length))=true) (hl:plan.length=ops.size) (hc:chk ops (aD0 ms) plan []=true)
  (h:hwalk2G P ops nx (fun fr' ob'=>Q .normal fr' ob' (nx+4*ops.size)) plan [] fr ob):Hw P n k (.region id ops true) Q fr ob nx:=by
 intro c a w hn hk hz hA;have hf: ∀id,nx≤id→ob id=none:=fun id hid=>by
  obtain⟨ρ,hA'⟩:=hA;exact(hA'.nid_none (nid:=id) (by omega)).1
 exact aW3 hm (plan.map (·.1)) ms hd hp hw1 hw2 (by grind) (vQ plan [] fr ob hc (fun p _ t _=>hf _ (by omega)) h) c a w hn hk hz hA
def hwalk2 (P:Program)(ops:Array Oper)(nx:Nat)(Q:Fr→Ob→Prop):nD→jK→Fr→Ob→Prop
 |[],_,fr,ob=>Q fr ob
 |(i,cr,rd)::rest,C,fr,ob=>hopI P ops nx (cr.flatMap (ids4 nx)++rd.flatMap (getF C)) i (hwalk2 P ops nx Q rest (match ops[i]? with
   |some o=>if isEff o.op=true then C else(i,if hguard ops o fr=some true then touch o.op (ev fr)else [])::C
   |none=>C)) fr ob
theorem aJ3 {P:Program}{ops:Array Oper}{nx:Nat}{Q:Fr→Ob→Prop}: ∀{l:nD} {C:jK} {fr:Fr} {ob:Ob},hwalk2 P ops nx Q l C fr ob→hwalk2G P ops nx Q l C fr ob
 |[],_,_,_,h=>h
 |(_,_,_)::_,_,_,_,h=>vM (fun _ _=>aJ3) h
theorem bJ6 {n k:Nat}{id:Nat}(hm:P.follows .mixedOrders=true)(plan:nD)(ms:List Nat)(hd:iH n ops=true)(hp:jM ops (plan.map (·.1)) (Array.replicate ops.size false)=true)(hw1:aI7 ops ms=true)
  (hw2:ms.all (fun m=>decide (m<2^ms.length))=true) (hl:plan.length=ops.size) (hc:chk ops (aD0 ms) plan []=true)
  (h:hwalk2 P ops nx (fun fr' ob'=>Q .normal fr' ob' (nx+4*ops.size)) plan [] fr ob):Hw P n k (.region id ops true) Q fr ob nx:=
 cT hm plan ms hd hp hw1 hw2 hl hc (aJ3 h)
variable {args:List CV}{K:HV→Ob→Prop}{nid:Nat}{f:FuncId}
theorem oL {R:CV→Prop}(h:cA P f args R)(hfree:ob nid=none∧ob (nid+1)=none∧ob (nid+2)=none∧ob (nid+3)=none)(hK: ∀v,R v→K (.c v) ob):
  HCall P av f (args.map .c) ob nid K:=by
 refine⟨[],args.map .c,cQ,_,h,jF args,⟨List.nodup_nil,by simp⟩,(HV.renL_c _ _).symm,fun j o h=>by simp[cQ]at h,fun r lob' hR _=>?_⟩;obtain⟨v,rfl,hv,rfl⟩:=hR;rw[kF (fun i h1 h2=>?_)]
 · exact hK v hv
 grind
def bJ7 (P:Program)(f:FuncId)(args:List HV)(R:CV→Prop):Prop:=
 HFn P f args 0 cQ (fun r ob'=> ∃v,r= .c v∧R v∧ob'=cQ)
theorem aW6 {args:List HV}(hm:HV.menL (· <0) args):LocOk 0 args cQ:=⟨fun j h=>by omega,fun id o h=>by simp[cQ]at h,hm⟩
theorem aR2 {args:List HV}{R:CV→Prop}(h:bJ7 P f args R)(hm:HV.menL (· <0) args)(hr: ∀m,HV.renL m args=args)
  (hfree:ob nid=none∧ob (nid+1)=none∧ob (nid+2)=none∧ob (nid+3)=none) (hK: ∀v,R v→K (.c v) ob):HCall P av f args ob nid K:=by
 refine⟨[],args,cQ,_,h,aW6 hm,⟨List.nodup_nil,by simp⟩,(hr _).symm,fun j o h=>by simp[cQ]at h,fun r lob' hR _=>?_⟩;obtain⟨v,rfl,hv,rfl⟩:=hR;rw[kF (fun i h1 h2=>?_)]
 · exact hK v hv
 grind
theorem cI {α:Type}{f:α→CV}(h: ∀x,(f x).denil=f x): ∀l:List α,CV.denilL (l.map f)=l.map f
 |[]=>rfl
 |x::l=>by simp only[List.map_cons,CV.denilL,h,cI h l]
theorem denilL_str (l:List (List UInt8)):CV.denilL (l.map .str)=l.map .str:=cI (fun _=>rfl) l
theorem denilL_int (k:IntKind)(l:List Int):CV.denilL (l.map (.int k))=l.map (.int k):=cI (fun _=>rfl) l
theorem cells_mem_str {l:List (List UInt8)}:(∀v∈l.map CV.str,v.cells=1)↔True:=by simp[CV.cells]
def bC3 (P:Program)(f:FuncId)(T:TypeId)(v:CV)(args:List CV)(R:CV→CV→Prop):Prop:=
 HFn P f (.ptr 0 0::args.map .c) 1 (fob [(0,.box T (.c v))]) (fun r ob'=> ∃u v',r= .c u∧ob'=fob [(0,.box T (.c v'))]∧R u v')
theorem dN (T:TypeId)(v:CV)(args:List CV):LocOk 1 (.ptr 0 0::args.map .c) (fob [(0,.box T (.c v))]):=by
 refine⟨fun j h=>?_,fun id o h=>?_,?_⟩
 ·
  have:j=0:=by omega
  subst this;exact⟨_,rfl⟩
 ·
  by_cases e:id=0
  · subst e;simp only[fob_at,if_true,Option.some.injEq]at h;grind[HO.men,HV.men]
  grind[fob_at,fob_nil]
 grind[HV.menL,HV.men,HV.menL_c]
variable {R:CV→CV→Prop}{T:TypeId}
theorem fX {r w:HV}(cl:List Nat)(u v':CV)(h:(r.close ob cl).norm= .c u)(hb:ob 0=some (.box T w))(hw:(w.close ob cl).norm= .c v')(h0:0∉cl)(hR:R u v'):
  mK 1 r ob (fun r ob'=> ∃u v',r= .c u∧ob'=fob [(0,.box T (.c v'))]∧R u v'):=by
 refine⟨cl,id,.c u,fob [(0,.box T (.c v'))],⟨u,v',rfl,rfl,hR⟩,by rw[h];rfl,fun _ _=>rfl,fun _ _ _ _ h=>h,by simp[HV.men],fun j o ho=>?_⟩;by_cases e:j=0
 · subst e;simp only[fob_at,if_true,Option.some.injEq]at ho;subst ho;refine⟨by omega,by simp[HO.men,HV.men],h0,.box T w,hb,?_⟩;simp only[hw];rfl
 grind[fob_at,fob_nil]
theorem bJ {id:Nat}{v:CV}(h:bC3 P f T v args R)(hid:ob id=some (.box T (.c v)))(hav:id∉av)
  (hfree:ob nid=none∧ob (nid+1)=none∧ob (nid+2)=none∧ob (nid+3)=none) (hK: ∀u v',R u v'→K (.c u) (upd ob id (some (.box T (.c v'))))):
  HCall P av f (.ptr id 0::args.map .c) ob nid K:=by
 refine⟨[id],.ptr 0 0::args.map .c,_,_,h,dN T v args,⟨by simp,by grind⟩,?_,fun j o hj=>?_,fun r lob' hR _=>?_⟩
 · simp only[HV.renL,HV.ren,HV.renL_c];rfl
 ·
  by_cases e:j=0
  · subst e;simp only[fob_at,if_true,Option.some.injEq]at hj;grind[HO.ren,HV.ren]
  grind[fob_at,fob_nil]
 ·
  obtain⟨u,v',rfl,rfl,hR⟩:=hR;have e:bY ob [id] nid (fob [(0,.box T (.c v'))])=upd ob id (some (.box T (.c v'))):=by
   funext i;by_cases e:i=id
   · subst e;simp only[bY,aP,List.findIdx?_cons,beq_self_eq_true,if_true,fob_at,Option.map_some];rfl
   ·
    have e':(id==i)=false:=by simp;exact fun h=>e h.symm
    simp only[bY,List.findIdx?_cons,e',List.findIdx?_nil,Option.map_none,aY _ _ e];simp only[Bool.false_eq_true,if_false];split
    ·
     rename_i hr;have h1:[id].length+(i-nid)≠0:=by simp
     rw[fob_at,if_neg h1,fob_nil];grind
    · rfl
  rw[e];exact hK u v' hR
section
variable {P:Program}{ti:TyI}{t t2 f nid nx i:Nat}{a a' b b' x x' y y':HV}{ob ob':Ob}{K:HV→Prop}{KO:HV→Ob→Prop}{KC:CV→Prop}
@[congr] theorem cH3 (h:a=a'):hload ti a ob K=hload ti a' ob K:=by rw[h]
@[congr] theorem cG2 (h:a=a')(h2:b=b'):hstore ti a b ob KO=hstore ti a' b' ob KO:=by rw[h,h2]
@[congr] theorem bU2 (h:a=a'):hfieldAddr P t a f ob K=hfieldAddr P t a' f ob K:=by rw[h]
@[congr] theorem bU3 (h:a=a')(h2:b=b'):hindexAddr P t a b ob K=hindexAddr P t a' b' ob K:=by rw[h,h2]
@[congr] theorem cG3 {ps:List (Nat×Operand)}{e:Operand→HV}{ps':List (Nat×Operand)}(h:ps=ps'):gP ti ps e K=gP ti ps' e K:=by rw[h]
@[congr] theorem cG4 {lo lo' hi hi':Option HV}(h:a=a')(h1:lo=lo')(h2:hi=hi'):hslice P t a lo hi K=hslice P t a' lo' hi' K:=by rw[h,h1,h2]
@[congr] theorem cG5 (h:a=a')(h2:b=b'):hindex P t a b K=hindex P t a' b' K:=by rw[h,h2]
@[congr] theorem cK7 (h:a=a'):hext a i K=hext a' i K:=by rw[h]
@[congr] theorem cH4 (h:a=a'):hconv P t t2 a K=hconv P t t2 a' K:=by rw[h]
@[congr] theorem cL6 {op:UnOp}(h:a=a'):hun op a K=hun op a' K:=by rw[h]
@[congr] theorem cK8 {l l':List HV}(h:l=l'):hclo f l K=hclo f l' K:=by rw[h]
@[congr] theorem cK9 {mx:Bool}(h:a=a')(h2:b=b'):hmax mx a b K=hmax mx a' b' K:=by rw[h,h2]
@[congr] theorem cH5 (h:x=x')(h1:a=a')(h2:b=b'):hpick x a b K=hpick x' a' b' K:=by rw[h,h1,h2]
@[congr] theorem cD2 (h:a=a')(h2:b=b'):happend P t a b nid ob KO=happend P t a' b' nid ob KO:=by rw[h,h2]
@[congr] theorem cB6 (h:a=a')(h2:b=b'):happend2 P t a b nid ob KO=happend2 P t a' b' nid ob KO:=by rw[h,h2]
@[congr] theorem cD3 {lo lo' hi hi':Option HV}(h:a=a')(h1:lo=lo')(h2:hi=hi')(h3:ob=ob'):hslice2 P t a lo hi ob K=hslice2 P t a' lo' hi' ob' K:=by rw[h,h1,h2,h3]
@[congr] theorem cD4 {lo lo':Option HV}{hi hi' mx mx':HV}(h:a=a')(h1:lo=lo')(h2:hi=hi')(h3:mx=mx'):hslice3 P t a lo hi mx K=hslice3 P t a' lo' hi' mx' K:=by rw[h,h1,h2,h3]
@[congr] theorem cH6 (h:a=a')(h2:b=b')(h3:ob=ob'):hcopy P t a b ob KO=hcopy P t a' b' ob' KO:=by rw[h,h2,h3]
@[congr] theorem cG6 (h:a=a'):hclear P t a ob KO=hclear P t a' ob KO:=by rw[h]
@[congr] theorem cD5 (h:a=a')(h2:b=b'):hlookup P t a b ob K=hlookup P t a' b' ob K:=by rw[h,h2]
@[congr] theorem bU4 (h:a=a')(h2:b=b')(h3:x=x'):hmapUpdate P t a b x ob KO=hmapUpdate P t a' b' x' ob KO:=by rw[h,h2,h3]
@[congr] theorem cL0 {op:BinOp}(h:a=a')(h2:b=b'):jW P op t a b KC=jW P op t a' b' KC:=by rw[h,h2]
@[congr] theorem cL1 {op:BinOp}{k:IntKind}{m m' n n':Int}(h:m=m')(h2:n=n'):hint op k m n KC=hint op k m' n' KC:=by rw[h,h2]
@[congr] theorem cG7 {op:BinOp}{k:IntKind}{m m' n n':Int}(h:m=m')(h2:n=n'):hshift op k m n KC=hshift op k m' n' KC:=by rw[h,h2]
@[congr] theorem cL2 {op:BinOp}{m m' n n':List UInt8}(h:m=m')(h2:n=n'):hstr op m n KC=hstr op m' n' KC:=by rw[h,h2]
@[congr] theorem cH7 {ops:Array Oper}{G:Fr→Ob→Prop}{l l':List Nat}{fr fr':Fr}(h:l=l')(h1:fr=fr')(h2:ob=ob'):hlexG P ops nx G l fr ob=hlexG P ops nx G l' fr' ob':=by rw[h,h1,h2]
@[congr] theorem cD6 {ops:Array Oper}{G:Fr→Ob→Prop}{l:nD}{C C':jK}{fr fr':Fr}(h:C=C')(h1:fr=fr')(h2:ob=ob'):hwalk2G P ops nx G l C fr ob=hwalk2G P ops nx G l C' fr' ob':=by rw[h,h1,h2]
@[congr] theorem cH8 {av av':List Nat}{l l':List HV}{n n':Nat}(h1:av=av')(h2:l=l')(h3:ob=ob')(h4:n=n'):HCall P av f l ob n KO=HCall P av' f l' ob' n' KO:=by rw[h1,h2,h3,h4]
theorem updo_at (fr:Fr)(d:Nat)(v:HV)(t:Nat):updo fr (some d) v t=if t=d then v else fr t:=rfl
theorem updo_none (fr:Fr)(v:HV):updo fr none v=fr:=rfl
theorem hbin_int {op:BinOp}{k k':IntKind}{m n:Int}:jW P op t (.c (.int k m)) (.c (.int k' n)) KC=if isShift op then hshift op k m n KC else k=k'∧hint op k m n KC:=rfl
theorem hbin_str {op:BinOp}{m n:List UInt8}:jW P op t (.c (.str m)) (.c (.str n)) KC=hstr op m n KC:=rfl
theorem hbin_bool {op:BinOp}{m n:Bool}:jW P op t (.c (.bool m)) (.c (.bool n)) KC=hlift (aO P t) fun ti=>ti.d= .bool∧match op with
  | .eql=>KC (.bool (m==n))
  | .neq=>KC (.bool (!(m==n)))
  |_=>False:=rfl
end
end Go.Hl
namespace Go.Pl
open Go Go.Hl
abbrev aH :=List UInt8
abbrev Dig :={l:List UInt8//l.length=32}
def dgl (d:Dig):List CV:=d.1.map fun b=> .int .u8 b.toNat
def dg (d:Dig):CV:= .agg (dgl d)
def zdg :Dig:=⟨List.replicate 32 0,by simp⟩
def zd :CV:=dg zdg
def dgi (k:IntKind)(n:Int):CV:= .agg (.int k n::List.replicate 31 (.int .u8 0))
theorem tJ : ∀{α:Type} (l:List α) (k:IntKind) (f:α→Int),CV.cellsL (l.map fun b=> .int k (f b))=l.length
 |_,[],_,_=>rfl
 |_,x::l,k,f=>by simp only[List.map_cons,CV.cellsL,CV.cells,tJ l,List.length_cons];omega
theorem dg_cells (d:Dig):(dg d).cells=32:=by simp only[dg,dgl,CV.cells,tJ,d.2]
theorem dg_isAgg (d:Dig):(dg d).isAgg=true:=rfl
theorem tK : ∀{α:Type} (l:List α) (k:IntKind) (f:α→Int),CV.denilL (l.map fun b=> .int k (f b))=l.map fun b=> .int k (f b)
 |_,[],_,_=>rfl
 |_,x::l,k,f=>by simp only[List.map_cons,CV.denilL,CV.denil,tK l]
theorem dg_denil (d:Dig):(dg d).denil=dg d:=by simp only[dg,dgl,CV.denil,tK]
theorem dg_getAt (d:Dig):CV.getAt 0 32 true (dg d)=some (dg d):=by
 have:=dg_cells d;simp_all[dg,CV.cells,CV.getAt,and_self,if_true]
theorem dg_setAt (d:Dig)(x:HV):CV.setAt 0 32 x (dg d)=some x:=by
 have:=dg_cells d;simp_all[dg,CV.cells,CV.setAt,and_self,if_true]
def aR3 (ti:TyI)(v:HV)(K:HV→Prop):Prop:=gP ti [(0,.tmp 0)] (fun _=>v) K
def hbuildDig (ti:TyI)(v:HV)(K:HV→Prop):Prop:=
 match v with
 | .c (.int k n)=>K (.c (dgi k n))
 |v=>aR3 ti v K
@[congr] theorem bV1 {ti:TyI}{v v':HV}{K:HV→Prop}(h:v=v'):hbuildDig ti v K=hbuildDig ti v' K:=by rw[h]
theorem hbuild_dig {bytes:Nat}{t:TypeId}{e:Operand→HV}{x:Operand}{K:HV→Prop}:gP ⟨32,bytes,.array 32 t,zd⟩ [(0,x)] e K=hbuildDig ⟨32,bytes,.array 32 t,zd⟩ (e x) K:=by
 have key:gP ⟨32,bytes,.array 32 t,zd⟩ [(0,x)] e K=gP ⟨32,bytes,.array 32 t,zd⟩ [(0,.tmp 0)] (fun _=>e x) K:=rfl;rw[key];unfold hbuildDig;split
 ·
  rename_i k n h;rw[h];have:hfill (fun _=>HV.c (.int k n)) [(0,.tmp 0)] ((dgl zdg).map .c)=some (.c (.int k n)::(List.replicate 31 (CV.int .u8 0)).map .c):=by
   simp only[hfill];rfl
  simp only[gP,zd,dg,this,hlift_some];rfl
 · rfl
theorem hbuild_agg {s bytes:Nat}{d:TyD}{zs:List CV}{ps:List (Nat×Operand)}{e:Operand→HV}{K:HV→Prop}:gP ⟨s,bytes,d,.agg zs⟩ ps e K=hlift (hfill e ps (zs.map .c)) fun hs=>K (HV.norm (.agg hs)):=rfl
theorem yT : ∀(l m:List UInt8),CV.eqvL (l.map fun b=> .int .u8 b.toNat) (m.map fun b=> .int .u8 b.toNat)=(l==m)
 |[],[]=>rfl
 |[],_::_=>rfl
 |_::_,[]=>rfl
 |a::l,b::m=>by
  simp only[List.map_cons,CV.eqvL,CV.eqv,yT l m,List.cons_beq_cons];congr 1;rw[Bool.eq_iff_iff];simp only[beq_iff_eq];constructor
  · grind[UInt8.toNat_inj]
  grind
theorem cD7 (a b:Dig):CV.eqv (dg a) (dg b)=(a==b):=by simp_all[dg,dgl,CV.eqv,yT,Bool.eq_iff_iff,beq_iff_eq,Subtype.ext_iff]
variable {z:CV}{e:TypeId}{n:Nat}{P:Program}
theorem aR4 {s b:Nat}(he:aO P e=some ⟨s,b,.int .u8,z⟩)(l:List UInt8):CV.ofTyA P (n+1) e (l.map fun b=> .int .u8 b.toNat)=true:=by
 induction l with
 |nil=>simp only[List.map_nil,CV.ofTyA]
 |cons x l ih=>
  rw[List.map_cons,CV.ofTyA,ih,Bool.and_true];unfold CV.ofTy;rw[he];rfl
theorem aW7 {t:TypeId}{z':CV}{s b s' b':Nat}(ht:aO P t=some ⟨s,b,.array 32 e,z⟩)(he:aO P e=some ⟨s',b',.int .u8,z'⟩)(hc:P.cellsOf e=1)(d:Dig):CV.ofTy P (n+2) t (dg d)=true:=by
 have h1:(dgl d).length=32:=by simp only[dgl,List.length_map,d.2]
 have h2:(dgl d).all (fun v=>v.cells==P.cellsOf e)=true:=by
  rw[hc];simp only[dgl,List.all_map,List.all_eq_true,Function.comp,CV.cells,beq_self_eq_true,implies_true]
 simp only[dg,CV.ofTy,ht,h1,h2,beq_self_eq_true,Bool.true_and];exact aR4 he d.1
theorem aW8 {t:TypeId}{z':CV}{s b s' b':Nat}(ha:aV5 P t=true)(ht:aO P t=some ⟨s,b,.array 32 e,z⟩)(he:aO P e=some ⟨s',b',.int .u8,z'⟩)(hc:P.cellsOf e=1)(x y:Dig)(K:CV→Prop):
  jW P .eql t (.c (dg x)) (.c (dg y)) K=K (.bool (x==y))∧jW P .neq t (.c (dg x)) (.c (dg y)) K=K (.bool (!(x==y))):=by
 have h1:=aW7 (n:=6) ht he hc x;have h2:=aW7 (n:=6) ht he hc y;have h3:=cD7 x y;simp_all[dg,jW,and_self,true_and]
structure Rp where
 s:Dig
 r:Dig
 o:Dig
 at_:Int
structure Rb where
 w:aH
 p:Rp
def Rp.cv (x:Rp):CV:= .agg [.agg [dg x.s,dg x.r,dg x.o],.int .i64 x.at_]
def Rb.cv (x:Rb):CV:= .agg [.str x.w,x.p.cv]
theorem Rb.denil (x:Rb):x.cv.denil=x.cv:=by simp only[Rb.cv,Rp.cv,CV.denil,CV.denilL,dg_denil]
theorem Rp.denil (x:Rp):x.cv.denil=x.cv:=by simp only[Rp.cv,CV.denil,CV.denilL,dg_denil]
theorem Rb.cells (x:Rb):x.cv.cells=98:=by simp[Rb.cv,Rp.cv,CV.cells,CV.cellsL,dg_cells]
theorem Rp.cells (x:Rp):x.cv.cells=97:=by simp[Rp.cv,CV.cells,CV.cellsL,dg_cells]
theorem Rb.getAll (x:Rb):CV.getAt 0 98 true x.cv=some x.cv:=by
 have:=Rb.cells x;simp_all[Rb.cv,CV.cells,CV.getAt,and_self,if_true]
theorem Rp.getAll (p:Rp):CV.getAt 0 97 true p.cv=some p.cv:=by
 have:=Rp.cells p;simp_all[Rp.cv,CV.cells,CV.getAt,and_self,if_true]
theorem Rb.isAgg (x:Rb):x.cv.isAgg=true:=rfl
theorem Rp.isAgg (x:Rp):x.cv.isAgg=true:=rfl
def cN1 (some:List Rb)(x:Rb):Bool:=some.all fun y=>!(y.w==x.w)||decide (y.p.at_≤x.p.at_)
structure Jd where
 a:List aH
 d:List aH
 f:List aH
def ns (l:List aH):CV:=if l=[]then .nils else .slc (l.map .str)
abbrev W32 :=BitVec 32
def w32 (x:W32):CV:= .int .u32 (x.toNat:Int)
def ws (l:List W32):CV:= .agg (l.map w32)
def u8 (x:UInt8):CV:= .int .u8 (x.toNat:Int)
def us (l:List UInt8):CV:= .agg (l.map u8)
def itN {α:Type}(f:Nat→α→α):Nat→α→α
 |0,s=>s
 |n+1,s=>f n (itN f n s)
def gw (l:List W32)(i:Nat):W32:=l.getD i 0
def gb (l:List UInt8)(i:Nat):UInt8:=l.getD i 0
def xS (x:W32)(n:Nat):W32:=(x>>>n)|||(x<<<(32-n))
def bw (x:UInt8):W32:=BitVec.ofNat 32 x.toNat
def be (b:List UInt8)(i:Nat):W32:=((bw (gb b (4*i))<<<24|||bw (gb b (4*i+1))<<<16)|||bw (gb b (4*i+2))<<<8)|||bw (gb b (4*i+3))
def sg0 (x:W32):W32:=(xS x 7^^^xS x 18)^^^(x>>>3)
def sg1 (x:W32):W32:=(xS x 17^^^xS x 19)^^^(x>>>10)
def wA (b:List UInt8)(n:Nat):List W32:=itN (fun i w=>w.set i (be b i)) n (List.replicate 64 0)
def wB (w:List W32)(n:Nat):List W32:=itN (fun i w=>w.set (i+16) (((gw w i+sg0 (gw w (i+1)))+gw w (i+9))+sg1 (gw w (i+14)))) n w
def cD8 (b:List UInt8):List W32:=wB (wA b 16) 48
def cH9 :List W32:=[
 0x428a2f98,0x71374491,0xb5c0fbcf,0xe9b5dba5,0x3956c25b,0x59f111f1,0x923f82a4,0xab1c5ed5,
 0xd807aa98,0x12835b01,0x243185be,0x550c7dc3,0x72be5d74,0x80deb1fe,0x9bdc06a7,0xc19bf174,
 0xe49b69c1,0xefbe4786,0x0fc19dc6,0x240ca1cc,0x2de92c6f,0x4a7484aa,0x5cb0a9dc,0x76f988da,
 0x983e5152,0xa831c66d,0xb00327c8,0xbf597fc7,0xc6e00bf3,0xd5a79147,0x06ca6351,0x14292967,
 0x27b70a85,0x2e1b2138,0x4d2c6dfc,0x53380d13,0x650a7354,0x766a0abb,0x81c2c92e,0x92722c85,
 0xa2bfe8a1,0xa81a664b,0xc24b8b70,0xc76c51a3,0xd192e819,0xd6990624,0xf40e3585,0x106aa070,
 0x19a4c116,0x1e376c08,0x2748774c,0x34b0bcb5,0x391c0cb3,0x4ed8aa4a,0x5b9cca4f,0x682e6ff3,
 0x748f82ee,0x78a5636f,0x84c87814,0x8cc70208,0x90befffa,0xa4506ceb,0xbef9a3f7,0xc67178f2]
structure St where
 (a b c d e f g h:W32)
def St.l (s:St):List W32:=[s.a,s.b,s.c,s.d,s.e,s.f,s.g,s.h]
def t1 (s:St)(k w:W32):W32:=(((s.h+((xS s.e 6^^^xS s.e 11)^^^xS s.e 25))+((s.e&&&s.f)^^^(~~~s.e&&&s.g)))+k)+w
def t2 (s:St):W32:=((xS s.a 2^^^xS s.a 13)^^^xS s.a 22)+(((s.a&&&s.b)^^^(s.a&&&s.c))^^^(s.b&&&s.c))
def rnd (w:List W32)(i:Nat)(s:St):St:=⟨t1 s (gw cH9 i) (gw w i)+t2 s,s.a,s.b,s.c,s.d+t1 s (gw cH9 i) (gw w i),s.e,s.f,s.g⟩
def cI0 (s r:St):St:=⟨s.a+r.a,s.b+r.b,s.c+r.c,s.d+r.d,s.e+r.e,s.f+r.f,s.g+r.g,s.h+r.h⟩
def comp (s:St)(p:List UInt8):St:=cI0 s (itN (rnd (cD8 p)) 64 s)
def blk (p:List UInt8)(n:Nat)(s:St):St:=itN (fun i s=>comp s ((p.drop (64*i)).take 64)) n s
def zs (n:Nat):Nat:=(119-n%64)%64
section
variable {α:Type}{f:α→CV}
theorem vR (hc: ∀x,(f x).cells=1): ∀l:List α,CV.cellsL (l.map f)=l.length
 |[]=>rfl
 |x::l=>by simp only[List.map_cons,CV.cellsL,hc,vR hc l,List.length_cons];omega
end
theorem us_cells (l:List UInt8):(us l).cells=l.length:=vR (fun _=>rfl) l
def wz (n:Nat):List W32:=List.replicate n 0
def uz (n:Nat):List UInt8:=List.replicate n 0
end Go.Pl
namespace Go.Hl
open Go
def gd (ops:Array Oper)(o:Oper):Option (Option (Nat×Bool)):=
 match o.guard with
 |none=>some none
 |some (j,want)=>match(ops[j]?).bind (·.dst)with
  |some d=>some (some (d,want))
  |none=>none
def hgd (g:Option (Nat×Bool))(fr:Fr):Option Bool:=
 match g with
 |none=>some true
 |some (d,want)=>match fr d with
  | .c (.bool b)=>some (b==want)
  | .tup _=>some false
  |_=>none
def hop1 (P:Program)(nid:Nat)(av:List Nat)(g:Option (Nat×Bool))(o:Op)(d:Option Nat)(K:Fr→Ob→Prop)(fr:Fr)(ob:Ob):Prop:=
 match hgd g fr with
 |some true=>hstep P av nid o (ev fr) ob fun v ob'=>K (updo fr d v) ob'
 |some false=>K (updo fr d (.tup [])) ob
 |none=>False
section
variable {P:Program}{ops:Array Oper}{nx i:Nat}{o:Oper}{g:Option (Nat×Bool)}{Q:Fr→Ob→Prop}{fr:Fr}{ob:Ob}
theorem eW (hg:gd ops o=some g):hguard ops o fr=hgd g fr:=by grind[gd,hguard,hgd,bind]
theorem oM {av:List Nat}{K:Fr→Ob→Prop}(ho:ops[i]? =some o)(hg:gd ops o=some g)(h:hop1 P (nx+4*i) av g o.op o.dst K fr ob):hopI P ops nx av i K fr ob:=by grind[hop1,hopI,eW]
theorem bE {l:List Nat}(ho:ops[i]? =some o)(hg:gd ops o=some g)(h: ∀K:Fr→Ob→Prop,(∀fr ob,hlex P ops nx Q l fr ob→K fr ob)→hop1 P (nx+4*i) [] g o.op o.dst K fr ob):hlex P ops nx Q (i::l) fr ob:=by grind[hlex,oM]
theorem cE {cr rd:List Nat}{l:nD}{C:jK}(ho:ops[i]? =some o)(hg:gd ops o=some g)
  (h: ∀K:Fr→Ob→Prop,(∀fr' ob',hwalk2 P ops nx Q l (if isEff o.op=true then C else(i,if hgd g fr=some true then touch o.op (ev fr)else [])::C) fr' ob'→K fr' ob')→
   hop1 P (nx+4*i) (cr.flatMap (ids4 nx)++rd.flatMap (getF C)) g o.op o.dst K fr ob):hwalk2 P ops nx Q ((i,cr,rd)::l) C fr ob:=by grind[hwalk2,oM,eW]
theorem bV {id n sz:Nat}{el:TypeId}{l:List CV}{ob:Ob}{K:HV→Ob→Prop}(hn:n=l.length)(h:K (.c (.slc l)) (upd ob id (some .dead))):aQ5 id ob K (.own id n) (upd ob id (some (.row el sz l))):=
 ⟨n,el,sz,l,rfl,rfl,hn,h⟩
def eG (P:Program)(nid:Nat)(av:List Nat)(g:Option (Nat×Bool))(o:Op)(d:Option Nat)(id:Nat)(K:Fr→Ob→Prop)(fr:Fr)(ob:Ob):Prop:=
 match hgd g fr with
 |some true=>(hcallOf o=none∧fS nid o (ev fr)=some id)∧(∀i∈touch o (ev fr),i∉av∧(ob i).isSome=true)∧hop P nid o (ev fr) ob (aQ5 id ob fun v ob'=>K (updo fr d v) ob')
 |some false=>K (updo fr d (.tup [])) ob
 |none=>False
theorem tL {av:List Nat}{K:Fr→Ob→Prop}{id:Nat}(ho:ops[i]? =some o)(hg:gd ops o=some g)(h:eG P (nx+4*i) av g o.op o.dst id K fr ob):dM P ops nx av i K fr ob:=by
 unfold eG at h;unfold dM;rw[ho];simp only[eW hg];cases hb:hgd g fr with
 |none=>grind
 |some b=>
  rw[hb]at h;cases b with
  |false=>exact h
  |true=>
   obtain⟨⟨h1,h2⟩,h3,h4⟩:=h;simp only;unfold eI;rw[h1];exact⟨h3,.inr (.inl ⟨id,h2,h4⟩)⟩
def hop1H (P:Program)(nid:Nat)(av:List Nat)(g:Option (Nat×Bool))(o:Op)(d:Option Nat)(K:Fr→Ob→Prop)(fr:Fr)(ob:Ob):Prop:=
 match hgd g fr with
 |some true=>hcallOf o=none∧(∀i∈touch o (ev fr),i∉av∧(ob i).isSome=true)∧hopH P nid o (ev fr) ob fun v ob'=>K (updo fr d v) ob'
 |some false=>K (updo fr d (.tup [])) ob
 |none=>False
theorem tM {av:List Nat}{K:Fr→Ob→Prop}(ho:ops[i]? =some o)(hg:gd ops o=some g)(h:hop1H P (nx+4*i) av g o.op o.dst K fr ob):dM P ops nx av i K fr ob:=by
 unfold hop1H at h;unfold dM;rw[ho];simp only[eW hg];cases hb:hgd g fr with
 |none=>grind
 |some b=>
  rw[hb]at h;cases b with
  |false=>exact h
  |true=>
   obtain⟨h1,h3,h4⟩:=h;simp only;unfold eI;rw[h1];exact⟨h3,.inr (.inr h4)⟩
def hop1N (P:Program)(nid:Nat)(av:List Nat)(g:Option (Nat×Bool))(o:Op)(d:Option Nat)(K:Fr→Ob→Prop)(fr:Fr)(ob:Ob):Prop:=
 match hgd g fr with
 |some true=>match hcallOf o with
  |some (f,xs)=>(∀x∈xs,ev fr x≠ .junk)∧match ev fr f with
   | .c (.fn g)=>HCall P av g (xs.map fun x=>ev fr x) ob nid fun v ob'=>K (updo fr d v) ob'
   |_=>False
  |none=>False
 |some false=>K (updo fr d (.tup [])) ob
 |none=>False
theorem aJ4 {av:List Nat}{K:Fr→Ob→Prop}(ho:ops[i]? =some o)(hg:gd ops o=some g)(h:hop1N P (nx+4*i) av g o.op o.dst K fr ob):dM P ops nx av i K fr ob:=by
 unfold hop1N at h;unfold dM;rw[ho];simp only[eW hg];cases hb:hgd g fr with
 |none=>grind
 |some b=>
  rw[hb]at h;cases b with
  |false=>exact h
  |true=>
   simp only at h⊢;unfold eI;cases hc:hcallOf o.op with
   |none=>grind
   |some p=>
    rw[hc]at h;simp only at h⊢;obtain⟨h1,h2⟩:=h;refine⟨h1,true,?_⟩;split at h2
    · rename_i g hg;rw[hg];exact h2.L
    grind
def hop1L (P:Program)(nid:Nat)(av:List Nat)(g:Option (Nat×Bool))(o:Op)(d:Option Nat)(K:Fr→Ob→Prop)(fr:Fr)(ob:Ob):Prop:=
 match hgd g fr with
 |some true=>match hcallOf o with
  |some (f,xs)=>(∀x∈xs,ev fr x≠ .junk)∧match ev fr f with
   | .c (.fn g)=>HCallL P av g (xs.map fun x=>(ev fr x).den) ob nid fun v ob'=>K (updo fr d v) ob'
   |_=>False
  |none=>False
 |some false=>K (updo fr d (.tup [])) ob
 |none=>False
theorem aJ5 {av:List Nat}{K:Fr→Ob→Prop}(ho:ops[i]? =some o)(hg:gd ops o=some g)(h:hop1L P (nx+4*i) av g o.op o.dst K fr ob):dM P ops nx av i K fr ob:=by
 unfold hop1L at h;unfold dM;rw[ho];simp only[eW hg];cases hb:hgd g fr with
 |none=>grind
 |some b=>
  rw[hb]at h;cases b with
  |false=>exact h
  |true=>
   simp only at h⊢;unfold eI;cases hc:hcallOf o.op with
   |none=>grind
   |some p=>
    rw[hc]at h;simp only at h⊢;obtain⟨h1,h2⟩:=h;refine⟨h1,false,?_⟩;split at h2
    · rename_i g hg;rw[hg];exact h2
    grind
theorem oZ {cr rd:List Nat}{l:nD}{C:jK}(ho:ops[i]? =some o)(hg:gd ops o=some g)
  (h: ∀K:Fr→Ob→Prop,(∀fr' ob',hwalk2G P ops nx Q l (if isEff o.op=true then C else(i,if hgd g fr=some true then touch o.op (ev fr)else [])::C) fr' ob'→K fr' ob')→
   hop1L P (nx+4*i) (cr.flatMap (ids4 nx)++rd.flatMap (getF C)) g o.op o.dst K fr ob):hwalk2G P ops nx Q ((i,cr,rd)::l) C fr ob:=by grind[hwalk2G,aJ5,eW]
theorem tN {l:List Nat}(ho:ops[i]? =some o)(hg:gd ops o=some g)(h: ∀K:Fr→Ob→Prop,(∀fr ob,hlexG P ops nx Q l fr ob→K fr ob)→hop1N P (nx+4*i) [] g o.op o.dst K fr ob):hlexG P ops nx Q (i::l) fr ob:=by grind[hlexG,aJ4]
theorem aU {l:List Nat}(ho:ops[i]? =some o)(hg:gd ops o=some g)(h: ∀K:Fr→Ob→Prop,(∀fr ob,hlexG P ops nx Q l fr ob→K fr ob)→hop1H P (nx+4*i) [] g o.op o.dst K fr ob):hlexG P ops nx Q (i::l) fr ob:=by grind[hlexG,tM]
theorem cC {cr rd:List Nat}{l:nD}{C:jK}(ho:ops[i]? =some o)(hg:gd ops o=some g)
  (h: ∀K:Fr→Ob→Prop,(∀fr' ob',hwalk2G P ops nx Q l (if isEff o.op=true then C else(i,if hgd g fr=some true then touch o.op (ev fr)else [])::C) fr' ob'→K fr' ob')→
   hop1H P (nx+4*i) (cr.flatMap (ids4 nx)++rd.flatMap (getF C)) g o.op o.dst K fr ob):hwalk2G P ops nx Q ((i,cr,rd)::l) C fr ob:=by grind[hwalk2G,tM,eW]
theorem bM {l:List Nat}(ho:ops[i]? =some o)(hg:gd ops o=some g)(h: ∀K:Fr→Ob→Prop,(∀fr ob,hlexG P ops nx Q l fr ob→K fr ob)→hop1 P (nx+4*i) [] g o.op o.dst K fr ob):hlexG P ops nx Q (i::l) fr ob:=by
 simp only[hlexG];exact vM (fun _ _ h=>h) (oM ho hg (h _ fun _ _ h=>h))
theorem cF {l:List Nat}(id:Nat)(ho:ops[i]? =some o)(hg:gd ops o=some g)(h: ∀K:Fr→Ob→Prop,(∀fr ob,hlexG P ops nx Q l fr ob→K fr ob)→eG P (nx+4*i) [] g o.op o.dst id K fr ob):hlexG P ops nx Q (i::l) fr ob:=by
 simp only[hlexG];exact tL ho hg (h _ fun _ _ h=>h)
theorem cG {cr rd:List Nat}{l:nD}{C:jK}(ho:ops[i]? =some o)(hg:gd ops o=some g)
  (h: ∀K:Fr→Ob→Prop,(∀fr' ob',hwalk2G P ops nx Q l (if isEff o.op=true then C else(i,if hgd g fr=some true then touch o.op (ev fr)else [])::C) fr' ob'→K fr' ob')→
   hop1 P (nx+4*i) (cr.flatMap (ids4 nx)++rd.flatMap (getF C)) g o.op o.dst K fr ob):hwalk2G P ops nx Q ((i,cr,rd)::l) C fr ob:=by
 simp only[hwalk2G];refine vM (fun _ _ h=>h) (oM ho hg (h _ fun fr' ob' h=>?_));grind[eW]
theorem cP {cr rd:List Nat}{l:nD}{C:jK}(id:Nat)(ho:ops[i]? =some o)(hg:gd ops o=some g)
  (h: ∀K:Fr→Ob→Prop,(∀fr' ob',hwalk2G P ops nx Q l (if isEff o.op=true then C else(i,if hgd g fr=some true then touch o.op (ev fr)else [])::C) fr' ob'→K fr' ob')→
   eG P (nx+4*i) (cr.flatMap (ids4 nx)++rd.flatMap (getF C)) g o.op o.dst id K fr ob):hwalk2G P ops nx Q ((i,cr,rd)::l) C fr ob:=by
 simp only[hwalk2G];refine tL ho hg (h _ fun fr' ob' h=>?_);grind[eW]
end
mutual
def CV.flatv :CV→Bool
 | .bool _=>true
 | .int _ _=>true
 | .str _=>true
 | .agg l=>CV.flatvL l
 |_=>false
def CV.flatvL :List CV→Bool
 |[]=>true
 |v::l=>v.flatv&&CV.flatvL l
end
variable {nid:Nat}{ob:Ob}
theorem aD1 {lob:Ob}{σ:List Nat}(hn:σ.Nodup)(h1: ∀j,j<σ.length→ ∃o,lob j=some o∧ob (σ.getD j 0)=some (o.ren (sub σ nid)))(h2: ∀j,σ.length≤j→lob j=none)(h3: ∀i,nid≤i→i<nid+4→ob i=none):
  bY ob σ nid lob=ob:=by
 funext i;unfold bY;split
 ·
  rename_i j hj;obtain⟨hjl,hje,_⟩:=List.findIdx?_eq_some_iff_getElem.1 hj;obtain⟨o,e1,e2⟩:=h1 j hjl;have:σ.getD j 0=i:=by rw[List.getD_eq_getElem?_getD,List.getElem?_eq_getElem hjl];simpa using hje
  rw[e1,←this,e2];rfl
 ·
  split
  · rename_i h;rw[h2 _ (by omega),h3 i h.1 h.2];rfl
  · rfl
def Free4 (ob:Ob)(nid:Nat):Prop:=ob nid=none∧ob (nid+1)=none∧ob (nid+2)=none∧ob (nid+3)=none
theorem Free4.all (h:Free4 ob nid): ∀i,nid≤i→i<nid+4→ob i=none:=fun i h1 h2=>by
 have:i=nid∨i=nid+1∨i=nid+2∨i=nid+3:=by omega
 rcases this with rfl|rfl|rfl|rfl
 · exact h.1
 · exact h.2.1
 · exact h.2.2.1
 · exact h.2.2.2
def bJ8 (T:TypeId)(v:CV)(R:CV→Prop):HV→Ob→Prop:=fun r ob'=> ∃u v',r= .c u∧ob'=fob [(0,.box T (.c v'))]∧(v'=v∧u.flatv=true∧R u)
def cI1 (P:Program)(f:FuncId)(T:TypeId)(v:CV)(args:List CV)(R:CV→Prop):Prop:=HFn P f (args.map HV.c++[HV.ptr 0 0]) 1 (fob [(0,.box T (.c v))]) (bJ8 T v R)
theorem yU (T:TypeId)(v:CV)(args:List CV):LocOk 1 (args.map HV.c++[HV.ptr 0 0]) (fob [(0,.box T (.c v))]):=by
 have h:=dN T v [];exact⟨h.all,h.none,by rw[HV.menL_append];exact⟨HV.menL_c,by simp[HV.menL,HV.men]⟩⟩
theorem aR5 {r:HV}{T:TypeId}{R:CV→Prop}{w:HV}(cl:List Nat)(u v:CV)(h:(r.close ob cl).norm= .c u)(hb:ob 0=some (.box T w))(hw:(w.close ob cl).norm= .c v)(h0:0∉cl)(hu:u.flatv=true)(hR:R u):mK 1 r ob (bJ8 T v R):=
 fX cl u v h hb hw h0 ⟨rfl,hu,hR⟩
section
variable {P:Program}{av:List Nat}{f g:FuncId}{ob:Ob}{nid id id2 n:Nat}{K:HV→Ob→Prop}{T e:TypeId}{sz:Nat}{v:CV}{l:List CV}{R:CV→Prop}
theorem bJ9 {args:List CV}(h:cI1 P f T v args R)(hid:ob id=some (.box T (.c v)))(hav:id∉av)(hfree:Free4 ob nid)(hK: ∀u,R u→K (.c u) ob):HCall P av f (args.map HV.c++[HV.ptr id 0]) ob nid K:=by
 have hsub:sub [id] nid 0=id:=rfl;refine⟨[id],(args.map HV.c++[HV.ptr 0 0]:List HV),fob [(0,.box T (.c v))],bJ8 T v R,h,yU T v args,⟨by simp,by simpa using hav⟩,?_,fun j o hj=>?_,fun r lob' hR _=>?_⟩
 ·
  have: ∀l1 l2:List HV,HV.renL (sub [id] nid) (l1++l2)=HV.renL (sub [id] nid) l1++HV.renL (sub [id] nid) l2:=by
   intro l1 l2;induction l1 with
   |nil=>rfl
   |cons x l ih=>simp only[List.cons_append,HV.renL,ih]
  rw[this,HV.renL_c];simp only[HV.renL,HV.ren,hsub]
 ·
  simp only[fob_at,fob_nil]at hj;split at hj
  · rename_i e;subst e;cases hj;simpa[HO.ren,HV.ren]using hid
  · cases hj
 ·
  obtain⟨u,v',rfl,rfl,rfl,_,hR⟩:=hR;rw[aD1 (by simp) (fun j hj=>?_) (fun j hj=>?_) hfree.all]
  · exact hK u hR
  ·
   have:j=0:=by simp at hj;omega
   subst this;exact⟨_,rfl,by simpa[HO.ren,HV.ren]using hid⟩
  · simp only[List.length_cons,List.length_nil]at hj;rw[fob_at,if_neg (by omega)];rfl
end
theorem aJ6 {id:Nat}{o:HO}(hfree:Free4 ob nid):bY ob [id] nid (fob [(0,o)])=upd ob id (some (o.ren (sub [id] nid))):=by
 funext i;by_cases e:i=id
 · subst e;simp only[bY,aP,List.findIdx?_cons,beq_self_eq_true,if_true,fob_at,Option.map_some]
 ·
  have e':(id==i)=false:=by simp;exact fun h=>e h.symm
  simp only[bY,List.findIdx?_cons,e',List.findIdx?_nil,Option.map_none,aY _ _ e];simp only[Bool.false_eq_true,if_false];split
  ·
   rename_i hr;have h1:[id].length+(i-nid)≠0:=by simp
   rw[fob_at,if_neg h1,fob_nil];exact(hfree.all i hr.1 hr.2).symm
  · rfl
end Go.Hl
namespace Go.Pl
open Go Go.Hl
theorem Rp.setAll (p:Rp)(x:HV):CV.setAt 0 97 x p.cv=some x:=by
 have:=Rp.cells p;simp only[Rp.cv,CV.cells]at this;simp only[Rp.cv,CV.setAt,this,and_self,if_true]
end Go.Pl
namespace Go.Hl
open Go Go.RowKit
structure MOk (D:MD):Prop where
 nd:(D.map (·.1)).Nodup
 th: ∀p∈D,p.2.there=true
section
variable {P:Program}{av:List Nat}{f fi:FuncId}{ob:Ob}{nid id id2:Nat}{K:HV→Ob→Prop}{T e:TypeId}{sz:Nat}{D:MD}
end
end Go.Hl
namespace Go.Pl
open Go Go.Hl
section
variable {s r o:Dig}{t:Int}{l:List Rb}
end
section
variable {s r o:Dig}{t:Int}{l l':List Rb}
end
section
variable {s r o d:Dig}{t:Int}{m:List Rb}{w:aH}
end
abbrev xT :={l:List UInt8//l.length=16}
def hf (h:xT):CV:= .agg (h.1.map u8)
theorem aV (h:xT):(hf h).cells=16:=by rw[←h.2];exact us_cells h.1
theorem gS (h:xT):(hf h).denil=hf h:=by simp only[hf,CV.denil];rw[cI (f:=u8) (fun _=>rfl)]
theorem bK0 (h:xT):CV.getAt 0 16 true (hf h)=some (hf h):=by
 have:=aV h;simp_all[hf,CV.cells,CV.getAt,and_self,if_true]
theorem bK1 (h:xT)(x:HV):CV.setAt 0 16 x (hf h)=some x:=by
 have:=aV h;simp_all[hf,CV.cells,CV.setAt,and_self,if_true]
theorem denilL_dg (l:List Dig):CV.denilL (l.map dg)=l.map dg:=cI dg_denil l
theorem nE {l:List UInt8}:(∀v∈l.map u8,v.cells=1)↔True:=by simp[u8,CV.cells]
structure Pk where
 h:Int
 r:xT
def Pk.cv (x:Pk):CV:= .agg [.int .i64 x.h,hf x.r]
theorem Pk.cells (x:Pk):x.cv.cells=17:=by simp[Pk.cv,CV.cells,CV.cellsL,dg_cells,aV]
theorem Pk.denil (x:Pk):x.cv.denil=x.cv:=by simp only[Pk.cv,CV.denil,CV.denilL,dg_denil,gS,denilL_str,denilL_dg]
theorem Pk.isAgg (x:Pk):x.cv.isAgg=true:=rfl
theorem Pk.getAll (x:Pk):CV.getAt 0 17 true x.cv=some x.cv:=by
 have:=Pk.cells x;simp_all[Pk.cv,CV.cells,CV.getAt,and_self,if_true]
theorem Pk.setAll (x:Pk)(y:HV):CV.setAt 0 17 y x.cv=some y:=by
 have:=Pk.cells x;simp_all[Pk.cv,CV.cells,CV.setAt,and_self,if_true]
theorem Pk.fold (h:Int)(r:xT):CV.agg [.int .i64 h,hf r]=Pk.cv ⟨h,r⟩:=rfl
theorem Pk.get_r (x:Pk):CV.getAt 1 16 true x.cv=some (hf x.r):=by simp[Pk.cv,CV.getAt,CV.getAtL,CV.cells,CV.cellsL,dg_cells,aV,bK0]
theorem Pk.set_r (x:Pk)(y:HV):CV.setAt 1 16 y x.cv=some (.agg [.c (.int .i64 x.h),y]):=by simp[Pk.cv,CV.setAt,CV.setAtL,CV.cells,CV.cellsL,dg_cells,aV,bK1]
structure Ky where
 p:Pk
 o:aH
 rs:List aH
 fr:Int
 un:Int
def Ky.cv (x:Ky):CV:= .agg [x.p.cv,.str x.o,.slc (x.rs.map .str),.int .i64 x.fr,.int .i64 x.un]
theorem Ky.cells (x:Ky):x.cv.cells=21:=by simp[Ky.cv,CV.cells,CV.cellsL,dg_cells,aV,Pk.cells]
theorem Ky.denil (x:Ky):x.cv.denil=x.cv:=by simp only[Ky.cv,CV.denil,CV.denilL,dg_denil,gS,denilL_str,denilL_dg,Pk.denil]
theorem bC4 (l:List Ky):CV.denilL (l.map Ky.cv)=l.map Ky.cv:=cI Ky.denil l
theorem Ky.isAgg (x:Ky):x.cv.isAgg=true:=rfl
theorem Ky.getAll (x:Ky):CV.getAt 0 21 true x.cv=some x.cv:=by
 have:=Ky.cells x;simp_all[Ky.cv,CV.cells,CV.getAt,and_self,if_true]
theorem Ky.setAll (x:Ky)(y:HV):CV.setAt 0 21 y x.cv=some y:=by
 have:=Ky.cells x;simp_all[Ky.cv,CV.cells,CV.setAt,and_self,if_true]
theorem Ky.fold (p:Pk)(o:aH)(rs:List aH)(fr:Int)(un:Int):CV.agg [p.cv,.str o,.slc (rs.map .str),.int .i64 fr,.int .i64 un]=Ky.cv ⟨p,o,rs,fr,un⟩:=rfl
structure Qt where
 r:aH
 n:Int
def Qt.cv (x:Qt):CV:= .agg [.str x.r,.int .i64 x.n]
theorem Qt.cells (x:Qt):x.cv.cells=2:=by simp[Qt.cv,CV.cells,CV.cellsL,dg_cells,aV]
theorem Qt.denil (x:Qt):x.cv.denil=x.cv:=by simp only[Qt.cv,CV.denil,CV.denilL,dg_denil,gS,denilL_str,denilL_dg]
theorem bC5 (l:List Qt):CV.denilL (l.map Qt.cv)=l.map Qt.cv:=cI Qt.denil l
theorem Qt.isAgg (x:Qt):x.cv.isAgg=true:=rfl
theorem Qt.getAll (x:Qt):CV.getAt 0 2 true x.cv=some x.cv:=by
 have:=Qt.cells x;simp_all[Qt.cv,CV.cells,CV.getAt,and_self,if_true]
theorem Qt.setAll (x:Qt)(y:HV):CV.setAt 0 2 y x.cv=some y:=by
 have:=Qt.cells x;simp_all[Qt.cv,CV.cells,CV.setAt,and_self,if_true]
theorem Qt.fold (r:aH)(n:Int):CV.agg [.str r,.int .i64 n]=Qt.cv ⟨r,n⟩:=rfl
theorem Qt.get_r (x:Qt):CV.getAt 0 1 false x.cv=some (.str x.r):=by simp[Qt.cv,CV.getAt,CV.getAtL,CV.cells,CV.cellsL,dg_cells,aV]
theorem Qt.set_r (x:Qt)(y:HV):CV.setAt 0 1 y x.cv=some (.agg [y,.c (.int .i64 x.n)]):=by simp[Qt.cv,CV.setAt,CV.setAtL,CV.cells,CV.cellsL,dg_cells,aV]
theorem Qt.get_n (x:Qt):CV.getAt 1 1 false x.cv=some (.int .i64 x.n):=by simp[Qt.cv,CV.getAt,CV.getAtL,CV.cells,CV.cellsL,dg_cells,aV]
theorem Qt.set_n (x:Qt)(y:HV):CV.setAt 1 1 y x.cv=some (.agg [.c (.str x.r),y]):=by simp[Qt.cv,CV.setAt,CV.setAtL,CV.cells,CV.cellsL,dg_cells,aV]
structure Rv where
 k:Dig
 t:Int
def Rv.cv (x:Rv):CV:= .agg [dg x.k,.int .i64 x.t]
theorem Rv.cells (x:Rv):x.cv.cells=33:=by simp[Rv.cv,CV.cells,CV.cellsL,dg_cells,aV]
theorem Rv.denil (x:Rv):x.cv.denil=x.cv:=by simp only[Rv.cv,CV.denil,CV.denilL,dg_denil,gS,denilL_str,denilL_dg]
theorem bC6 (l:List Rv):CV.denilL (l.map Rv.cv)=l.map Rv.cv:=cI Rv.denil l
theorem Rv.isAgg (x:Rv):x.cv.isAgg=true:=rfl
theorem Rv.getAll (x:Rv):CV.getAt 0 33 true x.cv=some x.cv:=by
 have:=Rv.cells x;simp_all[Rv.cv,CV.cells,CV.getAt,and_self,if_true]
theorem Rv.setAll (x:Rv)(y:HV):CV.setAt 0 33 y x.cv=some y:=by
 have:=Rv.cells x;simp_all[Rv.cv,CV.cells,CV.setAt,and_self,if_true]
theorem Rv.fold (k:Dig)(t:Int):CV.agg [dg k,.int .i64 t]=Rv.cv ⟨k,t⟩:=rfl
theorem Rv.get_k (x:Rv):CV.getAt 0 32 true x.cv=some (dg x.k):=by simp[Rv.cv,CV.getAt,CV.getAtL,CV.cells,CV.cellsL,dg_cells,aV,dg_getAt]
theorem Rv.set_k (x:Rv)(y:HV):CV.setAt 0 32 y x.cv=some (.agg [y,.c (.int .i64 x.t)]):=by simp[Rv.cv,CV.setAt,CV.setAtL,CV.cells,CV.cellsL,dg_cells,aV,dg_setAt]
theorem Rv.get_t (x:Rv):CV.getAt 32 1 false x.cv=some (.int .i64 x.t):=by simp[Rv.cv,CV.getAt,CV.getAtL,CV.cells,CV.cellsL,dg_cells,aV]
theorem Rv.set_t (x:Rv)(y:HV):CV.setAt 32 1 y x.cv=some (.agg [.c (dg x.k),y]):=by simp[Rv.cv,CV.setAt,CV.setAtL,CV.cells,CV.cellsL,dg_cells,aV]
structure Rt where
 v:Int
 e:Int
 q:List Qt
 k:List Ky
 x:List Rv
def Rt.cv (x:Rt):CV:= .agg [.int .i64 x.v,.int .i64 x.e,.slc (x.q.map Qt.cv),.slc (x.k.map Ky.cv),.slc (x.x.map Rv.cv)]
theorem Rt.cells (x:Rt):x.cv.cells=5:=by simp[Rt.cv,CV.cells,CV.cellsL,dg_cells,aV]
theorem Rt.denil (x:Rt):x.cv.denil=x.cv:=by simp only[Rt.cv,CV.denil,CV.denilL,dg_denil,gS,denilL_str,denilL_dg,bC5,bC4,bC6]
theorem Rt.isAgg (x:Rt):x.cv.isAgg=true:=rfl
theorem Rt.getAll (x:Rt):CV.getAt 0 5 true x.cv=some x.cv:=by
 have:=Rt.cells x;simp_all[Rt.cv,CV.cells,CV.getAt,and_self,if_true]
theorem Rt.setAll (x:Rt)(y:HV):CV.setAt 0 5 y x.cv=some y:=by
 have:=Rt.cells x;simp_all[Rt.cv,CV.cells,CV.setAt,and_self,if_true]
theorem Rt.fold (v:Int)(e:Int)(q:List Qt)(k:List Ky)(x:List Rv):CV.agg [.int .i64 v,.int .i64 e,.slc (q.map Qt.cv),.slc (k.map Ky.cv),.slc (x.map Rv.cv)]=Rt.cv ⟨v,e,q,k,x⟩:=rfl
theorem Rt.get_v (x:Rt):CV.getAt 0 1 false x.cv=some (.int .i64 x.v):=by simp[Rt.cv,CV.getAt,CV.getAtL,CV.cells,CV.cellsL,dg_cells,aV]
theorem Rt.set_v (x:Rt)(y:HV):CV.setAt 0 1 y x.cv=some (.agg [y,.c (.int .i64 x.e),.c (.slc (x.q.map Qt.cv)),.c (.slc (x.k.map Ky.cv)),.c (.slc (x.x.map Rv.cv))]):=by simp[Rt.cv,CV.setAt,CV.setAtL,CV.cells,CV.cellsL,dg_cells,aV]
theorem Rt.get_q (x:Rt):CV.getAt 2 1 false x.cv=some (.slc (x.q.map Qt.cv)):=by simp[Rt.cv,CV.getAt,CV.getAtL,CV.cells,CV.cellsL,dg_cells,aV]
theorem Rt.set_q (x:Rt)(y:HV):CV.setAt 2 1 y x.cv=some (.agg [.c (.int .i64 x.v),.c (.int .i64 x.e),y,.c (.slc (x.k.map Ky.cv)),.c (.slc (x.x.map Rv.cv))]):=by simp[Rt.cv,CV.setAt,CV.setAtL,CV.cells,CV.cellsL,dg_cells,aV]
theorem Rt.get_k (x:Rt):CV.getAt 3 1 false x.cv=some (.slc (x.k.map Ky.cv)):=by simp[Rt.cv,CV.getAt,CV.getAtL,CV.cells,CV.cellsL,dg_cells,aV]
theorem Rt.set_k (x:Rt)(y:HV):CV.setAt 3 1 y x.cv=some (.agg [.c (.int .i64 x.v),.c (.int .i64 x.e),.c (.slc (x.q.map Qt.cv)),y,.c (.slc (x.x.map Rv.cv))]):=by simp[Rt.cv,CV.setAt,CV.setAtL,CV.cells,CV.cellsL,dg_cells,aV]
def sC :Int:=1099511627776
def al (c:UInt8):Bool:=(decide (97≤c)&&decide (c≤122))||(decide (48≤c)&&decide (c≤57))
def nc (c:UInt8):Bool:=al c||(c==46||(c==95||c==45))
def dG :aH→Bool
 |[]=>false
 |c::r=>decide ((c::r).length≤64)&&(al c&&r.all nc)
def inN (t:Int):Bool:=decide (0≤t)&&decide (t≤sC)
end Go.Pl
