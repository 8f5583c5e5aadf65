/- Plain Lean: root documents, who vouches, what is valid. By an AI agent. -/
import Derived.Sort.KeysCollected
import Derived.Test.YthedbjfipmkpiaaGreatDoorHlS
set_option linter.unusedSimpArgs false
set_option linter.unusedVariables false
set_option linter.defProp false
namespace Go.Hl
open Go
section
variable {P:Program}{n k:Nat}{Q:eI}{fr:Fr}{ob:Ob}{nx:Nat}
def HO.close (ob:Ob)(cl:List Nat):HO→HO
 | .box t v=> .box t (v.close ob cl).norm
 | .row e sz l=> .row e sz l
 | .mp e sz D=> .mp e sz D
 | .dead=> .dead
 | .tab T=> .tab T
 | .hrow e sz l=> .hrow e sz (HV.closeL ob cl l)
 | .raw es k=> .raw es k
 | .it m s q l=> .it m s q l
def clF (ob:Ob)(cl:List Nat)(fr:Fr):Fr:=fun t=>((fr t).close ob cl).norm
def clO (ob:Ob)(cl:List Nat):Ob:=fun id=>if cl.contains id=true then none else(ob id).map (HO.close ob cl)
theorem dC8 (cl:List Nat)(t:Nat):clF ob cl fr t=((fr t).close ob cl).norm:=rfl
theorem dC9 (cl:List Nat)(id:Nat):clO ob cl id=if cl.contains id=true then none else(ob id).map (HO.close ob cl):=rfl
mutual
theorem HV.close_men {cl:List Nat}{M:Nat→Prop}: ∀{v:HV},v.men M→(v.close ob cl).men M
 | .junk,h=>h
 | .c _,_=>by simp[HV.close,HV.men]
 | .agg l,h=>by simp only[HV.close,HV.men]at h⊢;exact HV.closeL_men h
 | .own id n,h=>by
  simp only[HV.close];split
  ·
   split
   ·
    split
    · simp[HV.men]
    · exact h
   · exact h
  · exact h
 | .ptr ..,h=>h
 | .eptr ..,h=>h
 | .osl id n lo sz hi,h=>by
  simp only[HV.close];split
  ·
   split
   ·
    split
    · simp[HV.men]
    · exact h
   · exact h
  · exact h
 | .mapr ..,h=>h
 | .mrow ..,h=>h
 | .clo ..,h=>h
 | .opq _,h=>h
 | .tup l,h=>by simp only[HV.close,HV.men]at h⊢;exact HV.closeL_men h
theorem HV.closeL_men {cl:List Nat}{M:Nat→Prop}: ∀{l:List HV},HV.menL M l→HV.menL M (HV.closeL ob cl l)
 |[],h=>by simp[HV.closeL,HV.menL]
 |v::l,h=>by simp only[HV.closeL,HV.menL]at h⊢;exact⟨HV.norm_men (HV.close_men h.1),HV.closeL_men h.2⟩
end
theorem HV.close_junk {cl:List Nat}{v:HV}(h:(v.close ob cl).norm≠ .junk):v≠ .junk:=by
 intro e;subst e;exact h rfl
theorem bW {code:Code}(cl:List Nat)(h:Hw P n k code Q (clF ob cl fr) (clO ob cl) nx):Hw P n k code Q fr ob nx:=by
 intro c a w hn hk hz hA;refine h c a w hn hk hz ?_;obtain⟨ρ,h⟩:=hA
 let ρ2:Env:=fun id=>if cl.contains id=true then none else ρ id
 have J: ∀id L,ρ2 id=some L→ρ id=some L:=fun id L hL=>by grind
 have ad: ∀id∈cl,ρ2 id=none:=fun id hid=>by grind
 have aa: ∀b,Own ρ2 b→Own ρ b:=fun b ⟨id,L,h1,h2⟩=>⟨id,L,J id L h1,h2⟩;have U:Stay w (Owned ρ c.X) w (Owned ρ2 c.X):=Stay.same (fun b _ hb=>hb.imp id (aa b));refine⟨ρ2,⟨fun id o ho=>?_,fun id hid=>?_,fun id id' L L' b h1 h2 h3 h4=>h.s.apart id id' L L' b (J _ _ h1) (J _ _ h2) h3 h4,fun id L b h1 h2=>h.s.xb id L b (J _ _ h1) h2⟩,fun t ht=>?_,fun t=>HV.norm_men (HV.close_men (h.mf t)),fun id o ho=>?_,h.m0,?_,?_,h.defers,h.size,h.xlt⟩
 ·
  simp only[clO]at ho;split at ho
  · grind
  ·
   rename_i hc;obtain⟨o',ab,rfl⟩:=C9.1 ho;have hid:ρ2 id=ρ id:=by simp only[ρ2,hc];rfl
   have I:=h.s.objs id o' ab;cases o' with
   |box t v=>
    obtain⟨b,cs,e1,e2,e3⟩:=I;exact⟨b,cs,by grind,e2,HV.norm_rep (kO h.s ad J U e3)⟩
   |row e sz l=>
    obtain⟨hd,xs,e1,e2,e3,e4⟩:=I;exact⟨hd,xs,by grind,e2.stay U,e3,e4⟩
   |mp e sz D=>
    obtain⟨b,hf,e1,e2⟩:=I;exact⟨b,hf,by grind,e2.stay U rfl (fun _ _ _ _ _=>rfl)⟩
   |dead=>exact hid.trans I
   |tab T=>exact⟨hid.trans I.1,nL U I.2⟩
   |hrow e sz l=>
    obtain⟨hd,xs,e1,e2,e3,e4⟩:=I;exact⟨hd,xs,by grind,oM h.s ad J U e2,sU l e3,by grind[nD]⟩
   |raw es clock=>
    obtain⟨b,e1,e2⟩:=I;exact⟨b,by grind,e2⟩
   |it m since seen last=>
    obtain⟨b,x,e1,e2,e3⟩:=I;exact⟨b,x,by grind,e2,fun bm hf h=>e3 bm hf (J _ _ h)⟩
 ·
  simp only[clO]at hid;simp only[ρ2];split
  · rfl
  · rename_i hc;rw[A7 hc,V8]at hid;exact h.s.none id hid
 · have:=h.f t (HV.close_junk ht);exact⟨HV.norm_rep (kO h.s ad J U this.1),by rw[clF,HV.norm_agg,HV.close_agg];exact this.2⟩
 ·
  simp only[clO]at ho;split at ho
  · grind
  ·
   obtain⟨o',ab,rfl⟩:=C9.1 ho;obtain⟨m1,m2⟩:=h.mo id o' ab;refine⟨m1,?_⟩;cases o' with
   |box t v=>exact HV.norm_men (HV.close_men m2)
   |row e sz l=>trivial
   |mp e sz D=>trivial
   |dead=>trivial
   |tab _=>trivial
   |hrow e sz l=>exact HV.closeL_men m2
   |raw _ _=>trivial
   |it _ _ _ _=>exact m2
 · exact h.base.trans ⟨fun _ _ _=>rfl,fun b hb=> .inl (aa b hb),E3 _,rfl,rfl,rfl⟩
 · exact Moves.trans (fun _ h=>h) h.moves (fun id L _ hL=>⟨L,J id L hL,.inl rfl⟩)
theorem ownsRow_nil {w:World}{e sz:Nat}:w.ownsRow 0 e sz (.slice none 0 0) 0 []:=by
 refine⟨by simp,.inl ⟨rfl,rfl⟩⟩
theorem RepA'.emptyRow {c:Ctx}{M M':Nat→Prop}{a:Act}{w:World}{ρ:Env}(h:RepA' c M fr ob a w ρ){id e sz:Nat}(hn: ¬M id)(hM: ∀i,M i→M' i)(ae:M' id):
  RepA' c M' fr (upd ob id (some (.row e sz []))) a w (upd ρ id (some (.hdr (.slice none 0 0)))):=by
 obtain⟨af,hρ⟩:=h.nid_none hn;have aa: ∀b,Own (upd ρ id (some (.hdr (.slice none 0 0)))) b→Own ρ b:=by
  rintro b ⟨i,L,I,U⟩;by_cases e:i=id
  · subst e;rw[aR]at I;cases I;cases U
  · rw[bE _ _ e]at I;exact⟨i,L,I,U⟩
 have ad:Stay w (Owned ρ c.X) w (Owned (upd ρ id (some (.hdr (.slice none 0 0)))) c.X):=Stay.same (fun b _ hb=>hb.imp (fun x=>x) (aa b));have ab:Moves M ρ (upd ρ id (some (.hdr (.slice none 0 0)))):=Moves.upd_new hn;refine⟨⟨fun i o J=>?_,fun i hi=>?_,fun i i' L L' b I U h3 h4=>?_,fun i L b I U=>?_⟩,fun t ht=>⟨RepH.stay ad ab (h.mf t) (h.f t ht).1,(h.f t ht).2⟩,fun t=>HV.men_mono hM (h.mf t),fun i o J=>?_,fun i hi=>hM i (h.m0 i hi),?_,?_,h.defers,h.size,h.xlt⟩
 ·
  by_cases e':i=id
  · subst e';rw[aR]at J;cases J;exact⟨.slice none 0 0,[],aR _ _ _,by simp[RepL],by simp,ownsRow_nil⟩
  · rw[bE _ _ e']at J;exact RepO.stay ad ab (h.mo i o J).2 (bE _ _ e') (fun _ _ _ _=>rfl) (h.s.objs i o J)
 ·
  by_cases e':i=id
  · simp_all
  · rw[bE _ _ e']at hi⊢;exact h.s.none i hi
 ·
  by_cases e1:i=id
  · subst e1;rw[aR]at I;cases I;cases h3
  ·
   by_cases e2:i'=id
   · subst e2;rw[aR]at U;cases U;cases h4
   · rw[bE _ _ e1]at I;rw[bE _ _ e2]at U;exact h.s.apart i i' L L' b I U h3 h4
 ·
  by_cases e1:i=id
  · subst e1;rw[aR]at I;cases I;cases U
  · rw[bE _ _ e1]at I;exact h.s.xb i L b I U
 ·
  by_cases e':i=id
  · subst e';rw[aR]at J;cases J;exact⟨ae,trivial⟩
  · rw[bE _ _ e']at J;exact⟨hM _ (h.mo i o J).1,HO.men_mono hM (h.mo i o J).2⟩
 · exact h.base.trans ⟨fun _ _ _=>rfl,fun b hb=> .inl (aa b hb),E3 _,rfl,rfl,rfl⟩
 · exact Moves.trans h.m0 h.moves ab
theorem aB8 {w:World}{ρ:Env}{O:Nat→Prop}{v v':HV}{off id:Nat}{cs:List Value}(hg:HV.getAt off 1 false v=some (.c .nils))(hs:v.sto=true)(hv:HV.setAt off 1 (.own id 0) v=some v')(hρ:ρ id=some (.hdr (.slice none 0 0)))
  (h:RepH w ρ O v cs):RepH w ρ O v' cs:=by
 obtain⟨c1,c2,c3,U,e1,e2,J,_⟩:=HV.getAt_spec hg hs h;obtain⟨d1,d2,d3,f0,f1,f2,f3,_⟩:=HV.setAt_spec (x:= .own id 0) rfl hv hs h;have:c1=d1∧c2++c3=d2++d3:=by
  have:=U.symm.trans f0;rw[H5,H5]at this;exact List.append_inj this (by omega)
 obtain⟨rfl,I⟩:=this;have I:=List.append_inj I (by omega);obtain⟨rfl,rfl⟩:=I;rw[U];refine f3 c2 ?_;simp only[RepH,RepC]at J⊢;refine⟨_,J,rfl,fun hd hh=>?_⟩;grind
theorem eH {code:Code}(t off e sz:Nat){v':HV}(hg:HV.getAt off 1 false (fr t)=some (.c .nils))(hs:(fr t).sto=true)(hv:HV.setAt off 1 (.own nx 0) (fr t)=some v')(ha:v'.isAgg=(fr t).isAgg)
  (h:Hw P n k code Q (upd fr t v') (upd ob nx (some (.row e sz []))) (nx+1)):Hw P n k code Q fr ob nx:=by
 intro c a w hn hk hz U;refine h c a w hn hk hz ?_;obtain⟨ρ,U⟩:=U;have I:=U.emptyRow (M':=(· <nx+1)) (id:=nx) (e:=e) (sz:=sz) (by omega) (fun i hi=>by omega) (by omega);refine⟨_,I.s,fun t' J=>?_,fun t'=>?_,I.mo,I.m0,I.base,I.moves,I.defers,I.size,I.xlt⟩
 ·
  by_cases e':t'=t
  ·
   subst e';rw[aR];have hj:fr t'≠ .junk:=by intro e';rw[e']at hs;simp[HV.sto]at hs
   have hf:=I.f t' hj;have hr:=aB8 hg hs hv (aR _ _ _) hf.1;exact⟨hr,by rw[ha];exact hf.2⟩
  · rw[bE _ _ e']at J⊢;exact I.f t' J
 ·
  by_cases e':t'=t
  ·
   subst e';rw[aR];have hj:fr t'≠ .junk:=by intro e';rw[e']at hs;simp[HV.sto]at hs
   obtain⟨d1,d2,d3,f0,f1,f2,f3,f4,f5⟩:=HV.setAt_spec (x:= .own nx 0) rfl hv hs (I.f t' hj).1;exact f5 _ (by simp[HV.men]) (I.mf t')
  · rw[bE _ _ e'];exact I.mf t'
theorem dV {code:Code}(id off e sz:Nat){T:TypeId}{v v':HV}(hb:ob id=some (.box T v))(hg:HV.getAt off 1 false v=some (.c .nils))(hs:v.sto=true)(hv:HV.setAt off 1 (.own nx 0) v=some v')
  (h:Hw P n k code Q fr (upd (upd ob nx (some (.row e sz []))) id (some (.box T v'))) (nx+1)):Hw P n k code Q fr ob nx:=by
 intro c a w hn hk hz hA;refine h c a w hn hk hz ?_;obtain⟨ρ,hA⟩:=hA;have hid:id<nx:=(hA.mo id _ hb).1;have I:=hA.emptyRow (M':=(· <nx+1)) (id:=nx) (e:=e) (sz:=sz) (by omega) (fun i hi=>by omega) (by omega);have U:upd ob nx (some (.row e sz [])) id=some (.box T v):=by rw[bE _ _ (by omega)];exact hb
 obtain⟨b,cs,e1,e2,e3⟩:=I.s.objs id _ U;refine⟨_,⟨fun i o J=>?_,fun i hi=>?_,I.s.apart,I.s.xb⟩,I.f,I.mf,fun i o J=>?_,I.m0,I.base,I.moves,I.defers,I.size,I.xlt⟩
 ·
  by_cases e':i=id
  · subst e';rw[aR]at J;cases J;exact⟨b,cs,e1,e2,aB8 hg hs hv (aR _ _ _) e3⟩
  · rw[bE _ _ e']at J;exact I.s.objs i o J
 ·
  by_cases e':i=id
  · simp_all
  · rw[bE _ _ e']at hi;exact I.s.none i hi
 ·
  by_cases e':i=id
  · subst e';rw[aR]at J;cases J;obtain⟨d1,d2,d3,f0,f1,f2,f3,f4,f5⟩:=HV.setAt_spec (x:= .own nx 0) rfl hv hs e3;exact⟨(I.mo i _ U).1,f5 _ (by simp[HV.men]) (I.mo i _ U).2⟩
  · rw[bE _ _ e']at J;exact I.mo i o J
theorem bO1 {code:Code}(id:Nat){o o':HO}(hb:ob id=some o)(hv: ∀w ρ O,RepO w ρ O id o→RepO w ρ O id o')(hm: ∀M,o.men M→o'.men M)(h:Hw P n k code Q fr (upd ob id (some o')) nx):Hw P n k code Q fr ob nx:=by
 intro c a w hn hk hz I;refine h c a w hn hk hz ?_;obtain⟨ρ,I⟩:=I;refine⟨ρ,⟨fun i U J=>?_,fun i hi=>?_,I.s.apart,I.s.xb⟩,I.f,I.mf,fun i U J=>?_,I.m0,I.base,I.moves,I.defers,I.size,I.xlt⟩
 ·
  by_cases e:i=id
  · subst e;rw[aR]at J;cases J;exact hv _ _ _ (I.s.objs i _ hb)
  · rw[bE _ _ e]at J;exact I.s.objs i U J
 ·
  by_cases e:i=id
  · simp_all
  · rw[bE _ _ e]at hi;exact I.s.none i hi
 ·
  by_cases e:i=id
  · subst e;rw[aR]at J;cases J;exact⟨(I.mo i _ hb).1,hm _ (I.mo i _ hb).2⟩
  · rw[bE _ _ e]at J;exact I.mo i U J
theorem aS1 {code:Code}(id:Nat){e:TypeId}{sz:Nat}{l:List CV}(hb:ob id=some (.row e sz l))(h:Hw P n k code Q fr (upd ob id (some (.hrow e sz (l.map .c)))) nx):Hw P n k code Q fr ob nx:=by
 refine bO1 (o':= .hrow e sz (l.map .c)) id hb (fun w ρ O J=>?_) (fun M _=>(HV.menL_c:HV.menL M (l.map .c))) h;obtain⟨U,xs,h1,h2,h3,h4⟩:=J;refine⟨U,xs,h1,tV.2 h2,fun v I=>?_,by grind⟩;obtain⟨u,hu,rfl⟩:=H0.1 I;exact⟨h3 u hu,rfl⟩
theorem aY4 : ∀{l:List HV} {I:List CV},HV.toCL l=some I→I.length=l.length
 |[],I,h=>by grind[HV.toCL,Option.some.injEq]
 |v::vs,I,h=>by
  simp only[HV.toCL]at h;split at h
  · rename_i a b U J;cases h;simp[aY4 J]
  grind
theorem aY5 : ∀{l:List HV} {I:List CV} {sz:Nat},HV.toCL l=some I→(∀v∈l,v.cells=sz∧v.sto=true)→ ∀u∈I,u.cells=sz
 |[],I,sz,h,_=>by grind[HV.toCL,Option.some.injEq]
 |v::vs,I,sz,h,hc=>by
  simp only[HV.toCL]at h;split at h
  ·
   rename_i a b J U;cases h;intro u hu;rcases E0.1 hu with rfl|hu
   · rw[HV.toC_cells J];grind
   · exact aY5 U (fun x hx=>hc x (by grind)) u hu
  grind
theorem mU {code:Code}(id:Nat){e:TypeId}{sz:Nat}{l:List HV}(I:List CV)(hb:ob id=some (.hrow e sz l))(hl:HV.toCL l=some I)(h:Hw P n k code Q fr (upd ob id (some (.row e sz I))) nx):Hw P n k code Q fr ob nx:=by
 refine bO1 (o':= .row e sz I) id hb (fun w ρ O J=>?_) (fun M _=>trivial) h;obtain⟨U,xs,h1,h2,h3,h4⟩:=J;exact⟨U,xs,h1,HV.toCL_spec hl h2,aY5 hl h3,by grind[aY4]⟩
def aB9 (ob:Ob)(id:Nat):Ob:=fun i=>if i=id then none else ob i
theorem cS6 (ob:Ob)(id i:Nat):aB9 ob id i=if i=id then none else ob i:=rfl
theorem bU8 {code:Code}(t id:Nat){T:TypeId}{v:CV}(ht:fr t= .ptr id 0)(hb:ob id=some (.box T (.c v)))
  (h:Hw P n k code Q (upd fr t (.c (.rp v))) (aB9 ob id) nx):Hw P n k code Q fr ob nx:=by
 intro c a w hn hk hz hA;refine h c a w hn hk hz ?_;obtain⟨ρ,h⟩:=hA
 let ρ2:Env:=fun i=>if i=id then none else ρ i
 have I: ∀i L,ρ2 i=some L→ρ i=some L:=fun i L hL=>by grind
 have J: ∀b,Own ρ2 b→Own ρ b:=fun b ⟨i,L,h1,h2⟩=>⟨i,L,I i L h1,h2⟩;have aa:Stay w (Owned ρ c.X) w (Owned ρ2 c.X):=Stay.same (fun b _ hb=>hb.imp (fun x=>x) (J b));have ab: ∀M:Nat→Prop,Moves M ρ ρ2:=fun M i L _ hL=>⟨L,I i L hL,.inl rfl⟩;obtain⟨b,cs,e1,e2,e3⟩:=h.s.objs id _ hb;obtain⟨b',af,he⟩:=lR (x:= .tmp t) h ht (by rw[hb];rfl);rw[e1]at af;cases af;have ag: ¬Owned ρ2 c.X b:=by
  rintro(hx|⟨i,L,h1,h2⟩)
  · exact h.s.xb id _ b e1 rfl hx
  · have:=h.s.apart i id L _ b (I i L h1) e1 h2 rfl;grind
 refine⟨ρ2,⟨fun i o U=>?_,fun i hi=>?_,fun i i' L L' b h1 h2 h3 h4=>h.s.apart i i' L L' b (I _ _ h1) (I _ _ h2) h3 h4,fun i L b h1 h2=>h.s.xb i L b (I _ _ h1) h2⟩,fun t' ad=>?_,fun t'=>?_,fun i o U=>?_,h.m0,?_,?_,h.defers,h.size,h.xlt⟩
 ·
  simp only[aB9]at U;split at U
  · grind
  · rename_i ae;exact RepO.stay aa (ab _) (h.mo i o U).2 (by grind) (fun _ _ _ _=>rfl) (h.s.objs i o U)
 ·
  simp only[aB9]at hi;simp only[ρ2];split
  · rfl
  · rename_i ae;rw[A7 ae]at hi;exact h.s.none i hi
 ·
  by_cases e:t'=t
  · subst e;rw[aR];have ah:a.tmps.getD t' undef= .pointer (some ⟨b,0,none⟩):=he;rw[ah];refine bQ ?_ rfl rfl;simp only[RepC];simp only[RepH]at e3;refine⟨⟨b,0,none⟩,cs,rfl,e3.stay aa,fun j u hj=>?_,fun _=>ag⟩;have ai:j<cs.length:=(H3.1 hj).1;rw[eS,AZ w b _ _ _ _ e2];simpa using hj
  · rw[bE _ _ e]at ad⊢;exact⟨RepH.stay aa (ab _) (h.mf t') (h.f t' ad).1,(h.f t' ad).2⟩
 ·
  by_cases e:t'=t
  · grind[aR,HV.men]
  · rw[bE _ _ e];exact h.mf t'
 ·
  simp only[aB9]at U;split at U
  · grind
  · exact h.mo i o U
 · exact h.base.trans ⟨fun _ _ _=>rfl,fun b hb=> .inl (J b hb),E3 _,rfl,rfl,rfl⟩
 · exact Moves.trans (fun _ h=>h) h.moves (ab _)
end
def oP (ops:Array Oper)(p:Nat):Bool:=match ops[p]? with|some o=>bU o.op|none=>true
def effAt (ops:Array Oper)(p:Nat):Bool:=match ops[p]? with|some o=>isEff o.op|none=>false
def ids4 (nx p:Nat):List Nat:=[nx+4*p,nx+4*p+1,nx+4*p+2,nx+4*p+3]
def getF (C:lT)(p:Nat):List Nat:=C.flatMap fun q=>if q.1=p then q.2 else []
abbrev pX :=List (Nat×List Nat×List Nat)
def hwalk2G (P:Program)(ops:Array Oper)(nx:Nat)(Q:Fr→Ob→Prop):pX→lT→Fr→Ob→Prop
 |[],_,fr,ob=>Q fr ob
 |(i,cr,rd)::rest,C,fr,ob=>eE P ops nx (cr.flatMap (ids4 nx)++rd.flatMap (getF C)) i (hwalk2G P ops nx Q rest (match ops[i]? with
   |some o=>if isEff o.op=true then C else(i,if hguard ops o fr=some true then touch o.op (ev fr)else [])::C
   |none=>C)) fr ob
def chk (ops:Array Oper)(wt:Nat→Nat→Bool):pX→List Nat→Bool
 |[],_=>true
 |(i,cr,rd)::rest,T=>T.all (fun p=>wt i p||((oP ops p||cr.contains p)&&(!(effAt ops i)||rd.contains p)))&&chk ops wt rest (if effAt ops i then T else i::T)
variable {ob:Ob}{fr:Fr}{av:List Nat}{nx:Nat}{ops:Array Oper}{P:Program}
theorem cE2 {av':List Nat}{i:Nat}{K:Fr→Ob→Prop}(ab: ∀id,(ob id).isSome=true→id∈av→id∈av')(h:eE P ops nx av' i K fr ob):
  eE P ops nx av i (fun fr' ob'=>K fr' ob'∧(∀id,ob id=none→(oP ops i=true∨ ¬(nx+4*i≤id∧id<nx+4*i+4))→ob' id=none)) fr ob:=by
 unfold eE at h⊢;cases ho:ops[i]? with
 |none=>grind
 |some o=>
  rw[ho]at h;simp only at h⊢;cases hg:hguard ops o fr with
  |none=>grind
  |some b=>
   rw[hg]at h;cases b with
   |false=>grind
   |true=>
    simp only at h⊢;unfold fD at h⊢;cases hc:hcallOf o.op with
    |none=>
     rw[hc]at h;simp only at h⊢;obtain⟨v,u,hK,aa,hid,hq⟩:=aB4 h.2;refine⟨fun id hi=>⟨fun J=>(h.1 id hi).1 (ab id (h.1 id hi).2 J),(h.1 id hi).2⟩,aa ob (fun _ _=>rfl) _ ⟨hK,fun id h1 h2=>?_⟩⟩;grind[lK,oP]
    |some p=>
     obtain⟨f,xs⟩:=p;rw[hc]at h;simp only at h⊢;obtain⟨h1,nd,h⟩:=h;refine⟨h1,nd,?_⟩;have ai:oP ops i=false:=by
      simp only[oP,ho];cases ad:o.op<;>rw[ad]at hc<;>simp only[hcallOf]at hc<;>try cases hc
      rename_i cl;grind[bU]
     have ah: ∀g args,HCallL P av' g args ob (nx+4*i) (fun v ob'=>K (updo fr o.dst v) ob')→HCallL P av g args ob (nx+4*i) (fun v ob'=>K (updo fr o.dst v) ob'∧(∀id,ob id=none→(oP ops i=true∨ ¬(nx+4*i≤id∧id<nx+4*i+4))→ob' id=none)):=by
      rintro g args ⟨σ,I,lob,R,h1,h2,h3,h5,h6,h7⟩;have hσ: ∀j,j<σ.length→(ob (σ.getD j 0)).isSome=true:=fun j U=>by
       obtain⟨o',aj⟩:=h2.all j U;grind
      refine⟨σ,I,lob,R,h1,h2,⟨h3.1,fun j U=>(h3.2 j U).imp (fun h J=>h (ab _ (hσ j U) J)) (fun h=>h)⟩,h5,h6,fun r ag hR hr=>⟨h7 r ag hR hr,fun id e1 e2=>?_⟩⟩
      ·
       unfold bY;split
       · rename_i j U;exfalso;rw[O0]at U;obtain⟨af,ae,_⟩:=U;have:=hσ j af;rw[B4,A9 af,E9]at this;simp only[I6]at ae;rw[ae,e1]at this;cases this
       ·
        rcases e2 with e2|e2
        · rw[ai]at e2;cases e2
        · rw[A7 e2];exact e1
     grind
theorem aC0 {P:Program}{ops:Array Oper}{nx:Nat}{J:Nat→Nat→Bool}{Q:Fr→Ob→Prop}: ∀(I:pX) (C:lT) (fr:Fr) (ob:Ob),chk ops J I (C.map (·.1))=true→
  (∀p,oP ops p=true→ ∀t,t<4→ob (nx+4*p+t)=none)→hwalk2G P ops nx Q I C fr ob→pU P ops nx J Q (I.map (·.1)) C fr ob
 |[],C,fr,ob,_,_,h=>h
 |(i,cr,rd)::rest,C,fr,ob,hc,hn,h=>by
  simp only[hwalk2G,pU,B8,chk,B3]at h hc⊢;have U: ∀id,(ob id).isSome=true→id∈lC ops nx J C i→id∈cr.flatMap (ids4 nx)++rd.flatMap (getF C):=by
   intro id hs hid;simp only[lC,K3]at hid;obtain⟨p,hp,hid⟩:=hid;have hT:=G5.1 hc.1 p.1 (H0.2 ⟨p,hp,rfl⟩);split at hid
   · grind
   ·
    rename_i hw;have aa:J i p.1=false:=by simpa using hw
    simp only[aa,D5,B3,N7,N1]at hT;rcases D6.1 hid with hid|hid
    ·
     rcases hT.1 with hq|hq
     ·
      simp only[E0,H7,N6]at hid;have: ∃t,t<4∧id=nx+4*p.1+t:=by
       rcases hid with e|e|e|e
       · simp_all
       · grind
       · grind
       · grind
      grind
     · refine T9 _ (K3.2 ⟨p.1,by grind,hid⟩)
    ·
     split at hid
     ·
      rename_i he;have ab:effAt ops i=true:=by
       simp only[effAt];cases ho:ops[i]? with
       |none=>grind[absurd,eE]
       |some o=>grind
      rcases hT.2 with h'|h'
      · grind
      · refine L3 _ (K3.2 ⟨p.1,by grind,?_⟩);exact K3.2 ⟨p,hp,by grind⟩
     grind
  refine lU (fun _ h=>h) (fun fr' ob' hK=>?_) (cE2 U h);refine aC0 rest _ fr' ob' ?_ (fun p hq t ht=>?_) hK.1
  · grind[effAt,absurd,eE,isEff]
  · refine hK.2 _ (hn p hq t ht) ?_;by_cases e:i=p;all_goals grind
variable {Q:eI}
theorem dT {n k:Nat}{id:Nat}(hm:P.follows .mixedOrders=true)(I:pX)(ms:List Nat)(hd:gQ n ops=true)(hp:lV ops (I.map (·.1)) (Array.replicate ops.size false)=true)(U:aY0 ops ms=true)
  (aa:ms.all (fun m=>decide (m<2^ms.length))=true) (hl:I.length=ops.size) (hc:chk ops (aS0 ms) I []=true)
  (h:hwalk2G P ops nx (fun fr' ob'=>Q .normal fr' ob' (nx+4*ops.size)) I [] fr ob):Hw P n k (.region id ops true) Q fr ob nx:=by
 intro c a w hn hk hz hA;have hf: ∀id,nx≤id→ob id=none:=fun id hid=>by
  obtain⟨ρ,J⟩:=hA;exact(J.nid_none (nid:=id) (by omega)).1
 exact bO0 hm (I.map (·.1)) ms hd hp U aa (by grind) (aC0 I [] fr ob hc (fun p _ t _=>hf _ (by omega)) h) c a w hn hk hz hA
def hwalk2 (P:Program)(ops:Array Oper)(nx:Nat)(Q:Fr→Ob→Prop):pX→lT→Fr→Ob→Prop
 |[],_,fr,ob=>Q fr ob
 |(i,cr,rd)::rest,C,fr,ob=>hopI P ops nx (cr.flatMap (ids4 nx)++rd.flatMap (getF C)) i (hwalk2 P ops nx Q rest (match ops[i]? with
   |some o=>if isEff o.op=true then C else(i,if hguard ops o fr=some true then touch o.op (ev fr)else [])::C
   |none=>C)) fr ob
theorem aY6 {P:Program}{ops:Array Oper}{nx:Nat}{Q:Fr→Ob→Prop}: ∀{l:pX} {C:lT} {fr:Fr} {ob:Ob},hwalk2 P ops nx Q l C fr ob→hwalk2G P ops nx Q l C fr ob
 |[],_,_,_,h=>h
 |(_,_,_)::_,_,_,_,h=>sY (fun _ _=>aY6) h
theorem cE3 {n k:Nat}{id:Nat}(hm:P.follows .mixedOrders=true)(I:pX)(ms:List Nat)(hd:gQ n ops=true)(hp:lV ops (I.map (·.1)) (Array.replicate ops.size false)=true)(J:aY0 ops ms=true)
  (U:ms.all (fun m=>decide (m<2^ms.length))=true) (hl:I.length=ops.size) (hc:chk ops (aS0 ms) I []=true)
  (h:hwalk2 P ops nx (fun fr' ob'=>Q .normal fr' ob' (nx+4*ops.size)) I [] fr ob):Hw P n k (.region id ops true) Q fr ob nx:=
 dT hm I ms hd hp J U hl hc (aY6 h)
variable {args:List CV}{K:HV→Ob→Prop}{nid:Nat}{f:FuncId}
theorem jR {R:CV→Prop}(h:bM P f args R)(I:ob nid=none∧ob (nid+1)=none∧ob (nid+2)=none∧ob (nid+3)=none)(U: ∀v,R v→K (.c v) ob):
  HCall P av f (args.map .c) ob nid K:=by
 refine⟨[],args.map .c,cZ,_,h,lL args,⟨N3,by simp⟩,(HV.renL_c _ _).symm,fun j o h=>by simp[cZ]at h,fun r J hR _=>?_⟩;obtain⟨v,rfl,hv,rfl⟩:=hR;rw[pW (fun i h1 h2=>?_)]
 · exact U v hv
 grind
theorem bZ {α:Type}{f:α→CV}(h: ∀x,(f x).denil=f x): ∀l:List α,CV.denilL (l.map f)=l.map f
 |[]=>rfl
 |x::l=>by simp only[B8,CV.denilL,h,bZ h l]
theorem denilL_str (l:List (List UInt8)):CV.denilL (l.map .str)=l.map .str:=bZ (fun _=>rfl) l
theorem denilL_int (k:IntKind)(l:List Int):CV.denilL (l.map (.int k))=l.map (.int k):=bZ (fun _=>rfl) l
theorem cells_mem_str {l:List (List UInt8)}:(∀v∈l.map CV.str,v.cells=1)↔True:=by simp[CV.cells]
def aI4 (P:Program)(f:FuncId)(T:TypeId)(v:CV)(args:List CV)(R:CV→CV→Prop):Prop:=
 HFn P f (.ptr 0 0::args.map .c) 1 (fob [(0,.box T (.c v))]) (fun r ob'=> ∃u v',r= .c u∧ob'=fob [(0,.box T (.c v'))]∧R u v')
theorem gU (T:TypeId)(v:CV)(args:List CV):LocOk 1 (.ptr 0 0::args.map .c) (fob [(0,.box T (.c v))]):=by
 refine⟨fun j h=>?_,fun id o h=>?_,?_⟩
 ·
  have:j=0:=by omega
  subst this;exact⟨_,rfl⟩
 ·
  by_cases e:id=0
  · subst e;simp only[fob_at,G4,E8]at h;grind[HO.men,HV.men]
  grind[fob_at,fob_nil]
 grind[HV.menL,HV.men,HV.menL_c]
variable {R:CV→CV→Prop}{T:TypeId}
theorem iZ {r w:HV}(cl:List Nat)(u I:CV)(h:(r.close ob cl).norm= .c u)(hb:ob 0=some (.box T w))(hw:(w.close ob cl).norm= .c I)(U:0∉cl)(hR:R u I):
  gR 1 r ob (fun r ob'=> ∃u I,r= .c u∧ob'=fob [(0,.box T (.c I))]∧R u I):=by
 refine⟨cl,id,.c u,fob [(0,.box T (.c I))],⟨u,I,rfl,rfl,hR⟩,by rw[h];rfl,fun _ _=>rfl,fun _ _ _ _ h=>h,by simp[HV.men],fun j o J=>?_⟩;by_cases e:j=0
 · subst e;simp only[fob_at,G4,E8]at J;subst J;refine⟨by omega,by simp[HO.men,HV.men],U,.box T w,hb,?_⟩;simp only[hw];rfl
 grind[fob_at,fob_nil]
theorem bP {id:Nat}{v:CV}(h:aI4 P f T v args R)(hid:ob id=some (.box T (.c v)))(ab:id∉av)
  (U:ob nid=none∧ob (nid+1)=none∧ob (nid+2)=none∧ob (nid+3)=none) (hK: ∀u I,R u I→K (.c u) (upd ob id (some (.box T (.c I))))):
  HCall P av f (.ptr id 0::args.map .c) ob nid K:=by
 refine⟨[id],.ptr 0 0::args.map .c,_,_,h,gU T v args,⟨by simp,by grind⟩,?_,fun j o hj=>?_,fun r aa J _=>?_⟩
 · simp only[HV.renL,HV.ren,HV.renL_c];rfl
 ·
  by_cases e:j=0
  · subst e;simp only[fob_at,G4,E8]at hj;grind[HO.ren,HV.ren]
  grind[fob_at,fob_nil]
 ·
  obtain⟨u,I,rfl,rfl,J⟩:=J;have e:bY ob [id] nid (fob [(0,.box T (.c I))])=upd ob id (some (.box T (.c I))):=by
   funext i;by_cases e:i=id
   · subst e;simp only[bY,aR,K4,J5,G4,fob_at,I2];rfl
   ·
    have e':(id==i)=false:=by simp;exact fun h=>e h.symm
    simp only[bY,K4,e',Q5,P6,bE _ _ e];simp only[G9,L8];split
    ·
     rename_i hr;have h1:[id].length+(i-nid)≠0:=by simp
     rw[fob_at,A7 h1,fob_nil];grind
    · rfl
  rw[e];exact hK u I J
section
variable {P:Program}{ti:TyI}{t t2 f nid nx i:Nat}{a a' b b' x x' y y':HV}{ob ob':Ob}{K:HV→Prop}{KO:HV→Ob→Prop}{KC:CV→Prop}
@[congr] theorem dI7 (h:a=a'):hload ti a ob K=hload ti a' ob K:=by rw[h]
@[congr] theorem dH6 (h:a=a')(I:b=b'):hstore ti a b ob KO=hstore ti a' b' ob KO:=by rw[h,I]
@[congr] theorem cR9 (h:a=a'):hfieldAddr P t a f ob K=hfieldAddr P t a' f ob K:=by rw[h]
@[congr] theorem cS0 (h:a=a')(I:b=b'):hindexAddr P t a b ob K=hindexAddr P t a' b' ob K:=by rw[h,I]
@[congr] theorem dH7 {ps:List (Nat×Operand)}{e:Operand→HV}{I:List (Nat×Operand)}(h:ps=I):iU ti ps e K=iU ti I e K:=by rw[h]
@[congr] theorem dH8 {lo I hi J:Option HV}(h:a=a')(h1:lo=I)(U:hi=J):hslice P t a lo hi K=hslice P t a' I J K:=by rw[h,h1,U]
@[congr] theorem dH9 (h:a=a')(I:b=b'):hindex P t a b K=hindex P t a' b' K:=by rw[h,I]
@[congr] theorem dM4 (h:a=a'):hext a i K=hext a' i K:=by rw[h]
@[congr] theorem dI8 (h:a=a'):hconv P t t2 a K=hconv P t t2 a' K:=by rw[h]
@[congr] theorem dN3 {op:UnOp}(h:a=a'):hun op a K=hun op a' K:=by rw[h]
@[congr] theorem dM5 {l I:List HV}(h:l=I):hclo f l K=hclo f I K:=by rw[h]
@[congr] theorem dM6 {I:Bool}(h:a=a')(J:b=b'):hmax I a b K=hmax I a' b' K:=by rw[h,J]
@[congr] theorem dI9 (h:x=x')(J:a=a')(I:b=b'):hpick x a b K=hpick x' a' b' K:=by rw[h,J,I]
@[congr] theorem dD0 (h:a=a')(I:b=b'):happend P t a b nid ob KO=happend P t a' b' nid ob KO:=by rw[h,I]
@[congr] theorem dB1 (h:a=a')(I:b=b'):happend2 P t a b nid ob KO=happend2 P t a' b' nid ob KO:=by rw[h,I]
@[congr] theorem dD1 {lo I hi J:Option HV}(h:a=a')(h1:lo=I)(U:hi=J)(h3:ob=ob'):hslice2 P t a lo hi ob K=hslice2 P t a' I J ob' K:=by rw[h,h1,U,h3]
@[congr] theorem dD2 {lo J:Option HV}{hi I mx U:HV}(h:a=a')(h1:lo=J)(h2:hi=I)(h3:mx=U):hslice3 P t a lo hi mx K=hslice3 P t a' J I U K:=by rw[h,h1,h2,h3]
@[congr] theorem dJ0 (h:a=a')(I:b=b')(J:ob=ob'):hcopy P t a b ob KO=hcopy P t a' b' ob' KO:=by rw[h,I,J]
@[congr] theorem dI0 (h:a=a'):hclear P t a ob KO=hclear P t a' ob KO:=by rw[h]
@[congr] theorem dD3 (h:a=a')(I:b=b'):hlookup P t a b ob K=hlookup P t a' b' ob K:=by rw[h,I]
@[congr] theorem cS1 (h:a=a')(I:b=b')(J:x=x'):hmapUpdate P t a b x ob KO=hmapUpdate P t a' b' x' ob KO:=by rw[h,I,J]
@[congr] theorem dM7 {op:BinOp}(h:a=a')(I:b=b'):kK P op t a b KC=kK P op t a' b' KC:=by rw[h,I]
@[congr] theorem dM8 {op:BinOp}{k:IntKind}{m m' n I:Int}(h:m=m')(J:n=I):hint op k m n KC=hint op k m' I KC:=by rw[h,J]
@[congr] theorem dI1 {op:BinOp}{k:IntKind}{m m' n I:Int}(h:m=m')(J:n=I):hshift op k m n KC=hshift op k m' I KC:=by rw[h,J]
@[congr] theorem dM9 {op:BinOp}{m m' n I:List UInt8}(h:m=m')(J:n=I):hstr op m n KC=hstr op m' I KC:=by rw[h,J]
@[congr] theorem dJ1 {ops:Array Oper}{G:Fr→Ob→Prop}{l I:List Nat}{fr fr':Fr}(h:l=I)(J:fr=fr')(U:ob=ob'):hlexG P ops nx G l fr ob=hlexG P ops nx G I fr' ob':=by rw[h,J,U]
@[congr] theorem dD4 {ops:Array Oper}{G:Fr→Ob→Prop}{l:pX}{C C':lT}{fr fr':Fr}(h:C=C')(I:fr=fr')(J:ob=ob'):hwalk2G P ops nx G l C fr ob=hwalk2G P ops nx G l C' fr' ob':=by rw[h,I,J]
@[congr] theorem dJ2 {av av':List Nat}{l I:List HV}{n J:Nat}(h1:av=av')(h2:l=I)(h3:ob=ob')(U:n=J):HCall P av f l ob n KO=HCall P av' f I ob' J KO:=by rw[h1,h2,h3,U]
theorem updo_at (fr:Fr)(d:Nat)(v:HV)(t:Nat):updo fr (some d) v t=if t=d then v else fr t:=rfl
theorem updo_none (fr:Fr)(v:HV):updo fr none v=fr:=rfl
theorem hbin_int {op:BinOp}{k k':IntKind}{m n:Int}:kK P op t (.c (.int k m)) (.c (.int k' n)) KC=if isShift op then hshift op k m n KC else k=k'∧hint op k m n KC:=rfl
theorem hbin_str {op:BinOp}{m n:List UInt8}:kK P op t (.c (.str m)) (.c (.str n)) KC=hstr op m n KC:=rfl
theorem hbin_bool {op:BinOp}{m n:Bool}:kK P op t (.c (.bool m)) (.c (.bool n)) KC=hlift (aP P t) fun ti=>ti.d= .bool∧match op with
  | .eql=>KC (.bool (m==n))
  | .neq=>KC (.bool (!(m==n)))
  |_=>False:=rfl
end
end Go.Hl
namespace Go.Pl
open Go Go.Hl
abbrev aK :=List UInt8
def uG (l:List aK)(w:aK):List aK:=
 if l.contains w then l else l.takeWhile (slt · w)++w::l.dropWhile (slt · w)
variable {i:Nat}
theorem bO2 {l:List aK}{w:aK}(U:l.contains w=false)(hi:i≤l.length)(h: ∀j (h:j<i) (h':j<l.length),slt l[j] w=true)(he: ∀h:i<l.length,slt l[i] w=false):uG l w=l.take i++w::l.drop i:=by
 have key: ∀(l:List aK) (i:Nat),i≤l.length→(∀j (h:j<i) (h':j<l.length),slt l[j] w=true)→(∀h:i<l.length,slt l[i] w=false)→l.takeWhile (slt · w)=l.take i∧l.dropWhile (slt · w)=l.drop i:=by
  intro l;induction l with
  |nil=>intro i _ _ _;simp
  |cons a l ih=>
   intro i hi h he;cases i with
   |zero=>
    have:=he (by simp);simp at this;simp[BN,BO,this]
   |succ i=>
    have I:=h 0 (by omega) (by simp);simp at I;have:=ih i (by simpa using hi) (fun j J h2=>h (j+1) (by omega) (by simpa using h2)) (fun J=>he (by simpa using J));simp[BN,BO,I,this]
 simp only[uG,U,G9,L8,(key l i hi h he).1,(key l i hi h he).2]
abbrev Dig :={l:List UInt8//l.length=32}
def dgl (d:Dig):List CV:=d.1.map fun b=> .int .u8 b.toNat
def dg (d:Dig):CV:= .agg (dgl d)
def dg1 (b:UInt8):Dig:=⟨b::List.replicate 31 0,by simp⟩
def zdg :Dig:=⟨List.replicate 32 0,by simp⟩
def zd :CV:=dg zdg
def dgi (k:IntKind)(n:Int):CV:= .agg (.int k n::List.replicate 31 (.int .u8 0))
theorem dD5 (b:UInt8):dgi .u8 b.toNat=dg (dg1 b):=rfl
theorem wU {n:Int}(h:0≤n)(h':n<256):dgi .u8 n=dg (dg1 (UInt8.ofNat n.toNat)):=by grind[dD5,UInt8.ofNat,UInt8.toNat_ofNat',Nat.mod_eq_of_lt]
theorem yI : ∀{α:Type} (l:List α) (k:IntKind) (f:α→Int),CV.cellsL (l.map fun b=> .int k (f b))=l.length
 |_,[],_,_=>rfl
 |_,x::l,k,f=>by simp only[B8,CV.cellsL,CV.cells,yI l,A8];omega
theorem dg_cells (d:Dig):(dg d).cells=32:=by simp only[dg,dgl,CV.cells,yI,d.2]
theorem dg_isAgg (d:Dig):(dg d).isAgg=true:=rfl
theorem yJ : ∀{α:Type} (l:List α) (k:IntKind) (f:α→Int),CV.denilL (l.map fun b=> .int k (f b))=l.map fun b=> .int k (f b)
 |_,[],_,_=>rfl
 |_,x::l,k,f=>by simp only[B8,CV.denilL,CV.denil,yJ l]
theorem dg_denil (d:Dig):(dg d).denil=dg d:=by simp only[dg,dgl,CV.denil,yJ]
theorem dg_getAt (d:Dig):CV.getAt 0 32 true (dg d)=some (dg d):=by
 have:=dg_cells d;simp_all[dg,CV.cells,CV.getAt,I4,G4]
theorem dg_setAt (d:Dig)(x:HV):CV.setAt 0 32 x (dg d)=some x:=by
 have:=dg_cells d;simp_all[dg,CV.cells,CV.setAt,I4,G4]
theorem bG :zd.cells=32:=dg_cells _
theorem bH :zd.isAgg=true:=rfl
theorem fX :zd.denil=zd:=dg_denil _
theorem pY :CV.getAt 0 32 true zd=some zd:=dg_getAt _
theorem dP (x:HV):CV.setAt 0 32 x zd=some x:=dg_setAt _ x
def bI2 (ti:TyI)(v:HV)(K:HV→Prop):Prop:=iU ti [(0,.tmp 0)] (fun _=>v) K
def hbuildDig (ti:TyI)(v:HV)(K:HV→Prop):Prop:=
 match v with
 | .c (.int k n)=>K (.c (dgi k n))
 |v=>bI2 ti v K
@[congr] theorem cS7 {ti:TyI}{v I:HV}{K:HV→Prop}(h:v=I):hbuildDig ti v K=hbuildDig ti I K:=by rw[h]
theorem hbuild_dig {bytes:Nat}{t:TypeId}{e:Operand→HV}{x:Operand}{K:HV→Prop}:iU ⟨32,bytes,.array 32 t,zd⟩ [(0,x)] e K=hbuildDig ⟨32,bytes,.array 32 t,zd⟩ (e x) K:=by
 have key:iU ⟨32,bytes,.array 32 t,zd⟩ [(0,x)] e K=iU ⟨32,bytes,.array 32 t,zd⟩ [(0,.tmp 0)] (fun _=>e x) K:=rfl;rw[key];unfold hbuildDig;split
 ·
  rename_i k n h;rw[h];have:hfill (fun _=>HV.c (.int k n)) [(0,.tmp 0)] ((dgl zdg).map .c)=some (.c (.int k n)::(List.replicate 31 (CV.int .u8 0)).map .c):=by
   simp only[hfill];rfl
  simp only[iU,zd,dg,this,hlift_some];rfl
 · rfl
theorem hbuild_agg {s bytes:Nat}{d:TyD}{zs:List CV}{ps:List (Nat×Operand)}{e:Operand→HV}{K:HV→Prop}:iU ⟨s,bytes,d,.agg zs⟩ ps e K=hlift (hfill e ps (zs.map .c)) fun hs=>K (HV.norm (.agg hs)):=rfl
theorem aL1 : ∀(l m:List UInt8),CV.eqvL (l.map fun b=> .int .u8 b.toNat) (m.map fun b=> .int .u8 b.toNat)=(l==m)
 |[],[]=>rfl
 |[],_::_=>rfl
 |_::_,[]=>rfl
 |a::l,b::m=>by
  simp only[B8,CV.eqvL,CV.eqv,aL1 l m,List.cons_beq_cons];congr 1;rw[K5];simp only[I6];constructor
  · grind[UInt8.toNat_inj]
  grind
theorem bI3 (a b:Dig):CV.eqv (dg a) (dg b)=(a==b):=by simp_all[dg,dgl,CV.eqv,aL1,K5,I6,AR]
variable {z:CV}{e:TypeId}{n:Nat}{P:Program}
theorem bI4 {s b:Nat}(he:aP P e=some ⟨s,b,.int .u8,z⟩)(l:List UInt8):CV.ofTyA P (n+1) e (l.map fun b=> .int .u8 b.toNat)=true:=by
 induction l with
 |nil=>simp only[F2,CV.ofTyA]
 |cons x l I=>
  rw[B8,CV.ofTyA,I,D8];unfold CV.ofTy;rw[he];rfl
theorem aS2 {t:TypeId}{I:CV}{s b s' b':Nat}(J:aP P t=some ⟨s,b,.array 32 e,z⟩)(he:aP P e=some ⟨s',b',.int .u8,I⟩)(hc:P.cellsOf e=1)(d:Dig):CV.ofTy P (n+2) t (dg d)=true:=by
 have h1:(dgl d).length=32:=by simp only[dgl,A0,d.2]
 have U:(dgl d).all (fun v=>v.cells==P.cellsOf e)=true:=by
  rw[hc];simp only[dgl,List.all_map,G5,Function.comp,CV.cells,J5,CP]
 simp only[dg,CV.ofTy,J,h1,U,J5,B6];exact bI4 he d.1
theorem zK {t:TypeId}{z':CV}{s b s' U:Nat}(ha:aJ9 P t=true)(J:aP P t=some ⟨s,b,.array 32 e,z⟩)(he:aP P e=some ⟨s',U,.int .u8,z'⟩)(I:P.cellsOf e=1)(x y:Dig)(K:CV→Prop):
  kK P .eql t (.c (dg x)) (.c (dg y)) K=K (.bool (x==y))∧kK P .neq t (.c (dg x)) (.c (dg y)) K=K (.bool (!(x==y))):=by
 have h1:=aS2 (n:=6) J he I x;have h2:=aS2 (n:=6) J he I y;have h3:=bI3 x y;simp_all[dg,kK,I4,Q9]
structure Rp where
 s:Dig
 r:Dig
 o:Dig
 at_:Int
structure Rb where
 w:aK
 p:Rp
def Rp.cv (x:Rp):CV:= .agg [.agg [dg x.s,dg x.r,dg x.o],.int .i64 x.at_]
def Rb.cv (x:Rb):CV:= .agg [.str x.w,x.p.cv]
theorem Rb.denil (x:Rb):x.cv.denil=x.cv:=by simp only[Rb.cv,Rp.cv,CV.denil,CV.denilL,dg_denil]
theorem Rp.denil (x:Rp):x.cv.denil=x.cv:=by simp only[Rp.cv,CV.denil,CV.denilL,dg_denil]
theorem Rb.cells (x:Rb):x.cv.cells=98:=by simp[Rb.cv,Rp.cv,CV.cells,CV.cellsL,dg_cells]
theorem Rp.cells (x:Rp):x.cv.cells=97:=by simp[Rp.cv,CV.cells,CV.cellsL,dg_cells]
theorem Rb.getAll (x:Rb):CV.getAt 0 98 true x.cv=some x.cv:=by
 have:=Rb.cells x;simp_all[Rb.cv,CV.cells,CV.getAt,I4,G4]
theorem Rp.getAll (p:Rp):CV.getAt 0 97 true p.cv=some p.cv:=by
 have:=Rp.cells p;simp_all[Rp.cv,CV.cells,CV.getAt,I4,G4]
theorem Rb.isAgg (x:Rb):x.cv.isAgg=true:=rfl
theorem Rp.isAgg (x:Rp):x.cv.isAgg=true:=rfl
def dO7 (some:List Rb)(x:Rb):Bool:=some.all fun y=>!(y.w==x.w)||decide (y.p.at_≤x.p.at_)
theorem all_take {α:Type}(p:α→Bool)(l:List α)(i:Nat)(h:i<l.length):(l.take (i+1)).all p=((l.take i).all p&&p l[i]):=by
 rw[A5 h,S5];simp
structure Jd where
 a:List aK
 d:List aK
 f:List aK
theorem aL2 {α:Type}(p:α→Bool): ∀l:List α,(l.takeWhile p).length+(l.dropWhile p).length=l.length
 |[]=>rfl
 |x::l=>by
  have:=aL2 p l;by_cases h:p x=true;all_goals grind[List.takeWhile_cons_of_pos,List.dropWhile_cons_of_pos,List.length_cons,List.takeWhile_cons_of_neg,List.dropWhile_cons_of_neg]
theorem cE4 (l:List aK)(w:aK):(uG l w).length≤l.length+1:=by
 have I:=aL2 (slt · w) l;unfold uG;grind
def ns (l:List aK):CV:=if l=[]then .nils else .slc (l.map .str)
abbrev W32 :=BitVec 32
def w32 (x:W32):CV:= .int .u32 (x.toNat:Int)
def ws (l:List W32):CV:= .agg (l.map w32)
def u8 (x:UInt8):CV:= .int .u8 (x.toNat:Int)
def us (l:List UInt8):CV:= .agg (l.map u8)
def itN {α:Type}(f:Nat→α→α):Nat→α→α
 |0,s=>s
 |n+1,s=>f n (itN f n s)
def gw (l:List W32)(i:Nat):W32:=l.getD i 0
def gb (l:List UInt8)(i:Nat):UInt8:=l.getD i 0
def aI5 (x:W32)(n:Nat):W32:=(x>>>n)|||(x<<<(32-n))
def bw (x:UInt8):W32:=BitVec.ofNat 32 x.toNat
def be (b:List UInt8)(i:Nat):W32:=((bw (gb b (4*i))<<<24|||bw (gb b (4*i+1))<<<16)|||bw (gb b (4*i+2))<<<8)|||bw (gb b (4*i+3))
def sg0 (x:W32):W32:=(aI5 x 7^^^aI5 x 18)^^^(x>>>3)
def sg1 (x:W32):W32:=(aI5 x 17^^^aI5 x 19)^^^(x>>>10)
def wA (b:List UInt8)(n:Nat):List W32:=itN (fun i w=>w.set i (be b i)) n (List.replicate 64 0)
def wB (w:List W32)(n:Nat):List W32:=itN (fun i w=>w.set (i+16) (((gw w i+sg0 (gw w (i+1)))+gw w (i+9))+sg1 (gw w (i+14)))) n w
def dD6 (b:List UInt8):List W32:=wB (wA b 16) 48
def dJ3 :List W32:=[
 0x428a2f98,0x71374491,0xb5c0fbcf,0xe9b5dba5,0x3956c25b,0x59f111f1,0x923f82a4,0xab1c5ed5,
 0xd807aa98,0x12835b01,0x243185be,0x550c7dc3,0x72be5d74,0x80deb1fe,0x9bdc06a7,0xc19bf174,
 0xe49b69c1,0xefbe4786,0x0fc19dc6,0x240ca1cc,0x2de92c6f,0x4a7484aa,0x5cb0a9dc,0x76f988da,
 0x983e5152,0xa831c66d,0xb00327c8,0xbf597fc7,0xc6e00bf3,0xd5a79147,0x06ca6351,0x14292967,
 0x27b70a85,0x2e1b2138,0x4d2c6dfc,0x53380d13,0x650a7354,0x766a0abb,0x81c2c92e,0x92722c85,
 0xa2bfe8a1,0xa81a664b,0xc24b8b70,0xc76c51a3,0xd192e819,0xd6990624,0xf40e3585,0x106aa070,
 0x19a4c116,0x1e376c08,0x2748774c,0x34b0bcb5,0x391c0cb3,0x4ed8aa4a,0x5b9cca4f,0x682e6ff3,
 0x748f82ee,0x78a5636f,0x84c87814,0x8cc70208,0x90befffa,0xa4506ceb,0xbef9a3f7,0xc67178f2]
structure St where
 (a b c d e f g h:W32)
def St.l (s:St):List W32:=[s.a,s.b,s.c,s.d,s.e,s.f,s.g,s.h]
def t1 (s:St)(k w:W32):W32:=(((s.h+((aI5 s.e 6^^^aI5 s.e 11)^^^aI5 s.e 25))+((s.e&&&s.f)^^^(~~~s.e&&&s.g)))+k)+w
def t2 (s:St):W32:=((aI5 s.a 2^^^aI5 s.a 13)^^^aI5 s.a 22)+(((s.a&&&s.b)^^^(s.a&&&s.c))^^^(s.b&&&s.c))
def rnd (w:List W32)(i:Nat)(s:St):St:=⟨t1 s (gw dJ3 i) (gw w i)+t2 s,s.a,s.b,s.c,s.d+t1 s (gw dJ3 i) (gw w i),s.e,s.f,s.g⟩
def dJ4 (s r:St):St:=⟨s.a+r.a,s.b+r.b,s.c+r.c,s.d+r.d,s.e+r.e,s.f+r.f,s.g+r.g,s.h+r.h⟩
def comp (s:St)(p:List UInt8):St:=dJ4 s (itN (rnd (dD6 p)) 64 s)
def blk (p:List UInt8)(n:Nat)(s:St):St:=itN (fun i s=>comp s ((p.drop (64*i)).take 64)) n s
def zs (n:Nat):Nat:=(119-n%64)%64
section
variable {α:Type}{f:α→CV}
theorem oR (I: ∀x,(f x).cells=1): ∀l:List α,CV.cellsL (l.map f)=l.length
 |[]=>rfl
 |x::l=>by simp only[B8,CV.cellsL,I,oR I l,A8];omega
theorem aC1 (I: ∀x,(f x).cells=1)(J: ∀x,CV.getAt 0 1 false (f x)=some (f x)): ∀(l:List α) (i:Nat) (h:i<l.length),CV.getAtL i 1 false (l.map f)=some (f l[i])
 |[],i,h=>by simp at h
 |x::l,0,h=>by simp only[B8,CV.getAtL,I,B1 (show 0<1 by omega),J,O3]
 |x::l,i+1,h=>by
  simp only[B8,CV.getAtL,I,A7 (show¬i+1<1 by omega),N9,O2];exact aC1 I J l i (by simpa using h)
theorem bU9 (J: ∀x,(f x).cells=1)(I: ∀x,CV.getAt 0 1 false (f x)=some (f x)){l:List α}{i:Nat}(h:i<l.length):CV.getAt i 1 false (.agg (l.map f))=some (f l[i]):=by
 simp only[CV.getAt,G9,and_false,L8];exact aC1 J I l i h
theorem sZ (I: ∀x,(f x).cells=1)(hs: ∀x y,CV.setAt 0 1 y (f x)=some y)(y:α): ∀(l:List α) (i:Nat),i<l.length→CV.setAtL i 1 (.c (f y)) (l.map f)=some (((l.set i y).map f).map .c)
 |[],i,h=>by simp at h
 |x::l,0,h=>by simp only[B8,CV.setAtL,I,B1 (show 0<1 by omega),hs,I2,V1]
 |x::l,i+1,h=>by
  simp only[B8,CV.setAtL,I,A7 (show¬i+1<1 by omega),N9,N8];rw[sZ I hs y l i (by simpa using h)];rfl
theorem bV0 (I: ∀x,(f x).cells=1)(hs: ∀x y,CV.setAt 0 1 y (f x)=some y){y:α}{l:List α}{i:Nat}(h:i<l.length)(J:l.length≠1):CV.setAt i 1 (.c (f y)) (.agg (l.map f))=some (.agg (((l.set i y).map f).map .c)):=by
 simp only[CV.setAt,oR I,J,and_false,L8];rw[sZ I hs y l i h];rfl
end
theorem aS3 : ∀l:List CV,HV.toCL (l.map .c)=some l
 |[]=>rfl
 |x::l=>by simp only[B8,HV.toCL,HV.toC,aS3 l]
theorem cS8 (l:List CV):HV.norm (.agg (l.map .c))= .c (.agg l):=by simp only[HV.norm,HV.toC,aS3,I2]
theorem us_cells (l:List UInt8):(us l).cells=l.length:=oR (fun _=>rfl) l
theorem dD7 {l:List UInt8}(h:i<l.length):CV.getAt i 1 false (us l)=some (u8 l[i]):=bU9 (fun _=>rfl) (fun _=>rfl) h
theorem dD8 {l:List UInt8}(y:UInt8)(h:i<l.length)(I:l.length≠1):CV.setAt i 1 (.c (u8 y)) (us l)=some (.agg (((l.set i y).map u8).map .c)):=bV0 (fun _=>rfl) (fun _ _=>rfl) h I
def wz (n:Nat):List W32:=List.replicate n 0
def uz (n:Nat):List UInt8:=List.replicate n 0
end Go.Pl
namespace Go.Hl
open Go
def gd (ops:Array Oper)(o:Oper):Option (Option (Nat×Bool)):=
 match o.guard with
 |none=>some none
 |some (j,want)=>match(ops[j]?).bind (·.dst)with
  |some d=>some (some (d,want))
  |none=>none
def hgd (g:Option (Nat×Bool))(fr:Fr):Option Bool:=
 match g with
 |none=>some true
 |some (d,want)=>match fr d with
  | .c (.bool b)=>some (b==want)
  | .tup _=>some false
  |_=>none
def hop1 (P:Program)(nid:Nat)(av:List Nat)(g:Option (Nat×Bool))(o:Op)(d:Option Nat)(K:Fr→Ob→Prop)(fr:Fr)(ob:Ob):Prop:=
 match hgd g fr with
 |some true=>hstep P av nid o (ev fr) ob fun v ob'=>K (updo fr d v) ob'
 |some false=>K (updo fr d (.tup [])) ob
 |none=>False
section
variable {P:Program}{ops:Array Oper}{nx i:Nat}{o:Oper}{g:Option (Nat×Bool)}{Q:Fr→Ob→Prop}{fr:Fr}{ob:Ob}
theorem gV (I:gd ops o=some g):hguard ops o fr=hgd g fr:=by grind[gd,hguard,hgd,bind]
theorem nQ {av:List Nat}{K:Fr→Ob→Prop}(J:ops[i]? =some o)(I:gd ops o=some g)(h:hop1 P (nx+4*i) av g o.op o.dst K fr ob):hopI P ops nx av i K fr ob:=by grind[hop1,hopI,gV]
theorem aX {l:List Nat}(J:ops[i]? =some o)(I:gd ops o=some g)(h: ∀K:Fr→Ob→Prop,(∀fr ob,hlex P ops nx Q l fr ob→K fr ob)→hop1 P (nx+4*i) [] g o.op o.dst K fr ob):hlex P ops nx Q (i::l) fr ob:=by grind[hlex,nQ]
theorem bL {I rd:List Nat}{l:pX}{C:lT}(J:ops[i]? =some o)(U:gd ops o=some g)
  (h: ∀K:Fr→Ob→Prop,(∀fr' ob',hwalk2 P ops nx Q l (if isEff o.op=true then C else(i,if hgd g fr=some true then touch o.op (ev fr)else [])::C) fr' ob'→K fr' ob')→
   hop1 P (nx+4*i) (I.flatMap (ids4 nx)++rd.flatMap (getF C)) g o.op o.dst K fr ob):hwalk2 P ops nx Q ((i,I,rd)::l) C fr ob:=by grind[hwalk2,nQ,gV]
theorem cO {id n sz:Nat}{I:TypeId}{l:List CV}{ob:Ob}{K:HV→Ob→Prop}(hn:n=l.length)(h:K (.c (.slc l)) (upd ob id (some .dead))):bH5 id ob K (.own id n) (upd ob id (some (.row I sz l))):=
 ⟨n,I,sz,l,rfl,rfl,hn,h⟩
def gH (P:Program)(nid:Nat)(av:List Nat)(g:Option (Nat×Bool))(o:Op)(d:Option Nat)(id:Nat)(K:Fr→Ob→Prop)(fr:Fr)(ob:Ob):Prop:=
 match hgd g fr with
 |some true=>(hcallOf o=none∧kC nid o (ev fr)=some id)∧(∀i∈touch o (ev fr),i∉av∧(ob i).isSome=true)∧hop P nid o (ev fr) ob (bH5 id ob fun v ob'=>K (updo fr d v) ob')
 |some false=>K (updo fr d (.tup [])) ob
 |none=>False
theorem yK {av:List Nat}{K:Fr→Ob→Prop}{id:Nat}(J:ops[i]? =some o)(hg:gd ops o=some g)(h:gH P (nx+4*i) av g o.op o.dst id K fr ob):eE P ops nx av i K fr ob:=by
 unfold gH at h;unfold eE;rw[J];simp only[gV hg];cases hb:hgd g fr with
 |none=>grind
 |some b=>
  rw[hb]at h;cases b with
  |false=>exact h
  |true=>
   obtain⟨⟨U,h2⟩,h3,I⟩:=h;simp only;unfold fD;rw[U];exact⟨h3,.inr (.inl ⟨id,h2,I⟩)⟩
def hop1H (P:Program)(nid:Nat)(av:List Nat)(g:Option (Nat×Bool))(o:Op)(d:Option Nat)(K:Fr→Ob→Prop)(fr:Fr)(ob:Ob):Prop:=
 match hgd g fr with
 |some true=>hcallOf o=none∧(∀i∈touch o (ev fr),i∉av∧(ob i).isSome=true)∧hopH P nid o (ev fr) ob fun v ob'=>K (updo fr d v) ob'
 |some false=>K (updo fr d (.tup [])) ob
 |none=>False
theorem yL {av:List Nat}{K:Fr→Ob→Prop}(J:ops[i]? =some o)(hg:gd ops o=some g)(h:hop1H P (nx+4*i) av g o.op o.dst K fr ob):eE P ops nx av i K fr ob:=by
 unfold hop1H at h;unfold eE;rw[J];simp only[gV hg];cases hb:hgd g fr with
 |none=>grind
 |some b=>
  rw[hb]at h;cases b with
  |false=>exact h
  |true=>
   obtain⟨U,h3,I⟩:=h;simp only;unfold fD;rw[U];exact⟨h3,.inr (.inr I)⟩
def hop1N (P:Program)(nid:Nat)(av:List Nat)(g:Option (Nat×Bool))(o:Op)(d:Option Nat)(K:Fr→Ob→Prop)(fr:Fr)(ob:Ob):Prop:=
 match hgd g fr with
 |some true=>match hcallOf o with
  |some (f,xs)=>(∀x∈xs,ev fr x≠ .junk)∧match ev fr f with
   | .c (.fn g)=>HCall P av g (xs.map fun x=>ev fr x) ob nid fun v ob'=>K (updo fr d v) ob'
   |_=>False
  |none=>False
 |some false=>K (updo fr d (.tup [])) ob
 |none=>False
theorem aY7 {av:List Nat}{K:Fr→Ob→Prop}(U:ops[i]? =some o)(I:gd ops o=some g)(h:hop1N P (nx+4*i) av g o.op o.dst K fr ob):eE P ops nx av i K fr ob:=by
 unfold hop1N at h;unfold eE;rw[U];simp only[gV I];cases hb:hgd g fr with
 |none=>grind
 |some b=>
  rw[hb]at h;cases b with
  |false=>exact h
  |true=>
   simp only at h⊢;unfold fD;cases hc:hcallOf o.op with
   |none=>grind
   |some p=>
    rw[hc]at h;simp only at h⊢;obtain⟨h1,J⟩:=h;refine⟨h1,true,?_⟩;split at J
    · rename_i g I;rw[I];exact J.L
    grind
def hop1L (P:Program)(nid:Nat)(av:List Nat)(g:Option (Nat×Bool))(o:Op)(d:Option Nat)(K:Fr→Ob→Prop)(fr:Fr)(ob:Ob):Prop:=
 match hgd g fr with
 |some true=>match hcallOf o with
  |some (f,xs)=>(∀x∈xs,ev fr x≠ .junk)∧match ev fr f with
   | .c (.fn g)=>HCallL P av g (xs.map fun x=>(ev fr x).den) ob nid fun v ob'=>K (updo fr d v) ob'
   |_=>False
  |none=>False
 |some false=>K (updo fr d (.tup [])) ob
 |none=>False
theorem aY8 {av:List Nat}{K:Fr→Ob→Prop}(U:ops[i]? =some o)(I:gd ops o=some g)(h:hop1L P (nx+4*i) av g o.op o.dst K fr ob):eE P ops nx av i K fr ob:=by
 unfold hop1L at h;unfold eE;rw[U];simp only[gV I];cases hb:hgd g fr with
 |none=>grind
 |some b=>
  rw[hb]at h;cases b with
  |false=>exact h
  |true=>
   simp only at h⊢;unfold fD;cases hc:hcallOf o.op with
   |none=>grind
   |some p=>
    rw[hc]at h;simp only at h⊢;obtain⟨h1,J⟩:=h;refine⟨h1,false,?_⟩;split at J
    · rename_i g I;rw[I];exact J
    grind
theorem sF {I rd:List Nat}{l:pX}{C:lT}(J:ops[i]? =some o)(U:gd ops o=some g)
  (h: ∀K:Fr→Ob→Prop,(∀fr' ob',hwalk2G P ops nx Q l (if isEff o.op=true then C else(i,if hgd g fr=some true then touch o.op (ev fr)else [])::C) fr' ob'→K fr' ob')→
   hop1L P (nx+4*i) (I.flatMap (ids4 nx)++rd.flatMap (getF C)) g o.op o.dst K fr ob):hwalk2G P ops nx Q ((i,I,rd)::l) C fr ob:=by grind[hwalk2G,aY8,gV]
theorem yM {l:List Nat}(J:ops[i]? =some o)(I:gd ops o=some g)(h: ∀K:Fr→Ob→Prop,(∀fr ob,hlexG P ops nx Q l fr ob→K fr ob)→hop1N P (nx+4*i) [] g o.op o.dst K fr ob):hlexG P ops nx Q (i::l) fr ob:=by grind[hlexG,aY7]
theorem aU {l:List Nat}(J:ops[i]? =some o)(I:gd ops o=some g)(h: ∀K:Fr→Ob→Prop,(∀fr ob,hlexG P ops nx Q l fr ob→K fr ob)→hop1H P (nx+4*i) [] g o.op o.dst K fr ob):hlexG P ops nx Q (i::l) fr ob:=by grind[hlexG,yL]
theorem bI {I rd:List Nat}{l:pX}{C:lT}(J:ops[i]? =some o)(U:gd ops o=some g)
  (h: ∀K:Fr→Ob→Prop,(∀fr' ob',hwalk2G P ops nx Q l (if isEff o.op=true then C else(i,if hgd g fr=some true then touch o.op (ev fr)else [])::C) fr' ob'→K fr' ob')→
   hop1H P (nx+4*i) (I.flatMap (ids4 nx)++rd.flatMap (getF C)) g o.op o.dst K fr ob):hwalk2G P ops nx Q ((i,I,rd)::l) C fr ob:=by grind[hwalk2G,yL,gV]
theorem cE {l:List Nat}(I:ops[i]? =some o)(J:gd ops o=some g)(h: ∀K:Fr→Ob→Prop,(∀fr ob,hlexG P ops nx Q l fr ob→K fr ob)→hop1 P (nx+4*i) [] g o.op o.dst K fr ob):hlexG P ops nx Q (i::l) fr ob:=by
 simp only[hlexG];exact sY (fun _ _ h=>h) (nQ I J (h _ fun _ _ h=>h))
theorem cN {l:List Nat}(id:Nat)(I:ops[i]? =some o)(J:gd ops o=some g)(h: ∀K:Fr→Ob→Prop,(∀fr ob,hlexG P ops nx Q l fr ob→K fr ob)→gH P (nx+4*i) [] g o.op o.dst id K fr ob):hlexG P ops nx Q (i::l) fr ob:=by
 simp only[hlexG];exact yK I J (h _ fun _ _ h=>h)
theorem cT {I rd:List Nat}{l:pX}{C:lT}(J:ops[i]? =some o)(U:gd ops o=some g)
  (h: ∀K:Fr→Ob→Prop,(∀fr' ob',hwalk2G P ops nx Q l (if isEff o.op=true then C else(i,if hgd g fr=some true then touch o.op (ev fr)else [])::C) fr' ob'→K fr' ob')→
   hop1 P (nx+4*i) (I.flatMap (ids4 nx)++rd.flatMap (getF C)) g o.op o.dst K fr ob):hwalk2G P ops nx Q ((i,I,rd)::l) C fr ob:=by
 simp only[hwalk2G];refine sY (fun _ _ h=>h) (nQ J U (h _ fun fr' ob' h=>?_));grind[gV]
theorem jA {I rd:List Nat}{l:pX}{C:lT}(id:Nat)(J:ops[i]? =some o)(U:gd ops o=some g)
  (h: ∀K:Fr→Ob→Prop,(∀fr' ob',hwalk2G P ops nx Q l (if isEff o.op=true then C else(i,if hgd g fr=some true then touch o.op (ev fr)else [])::C) fr' ob'→K fr' ob')→
   gH P (nx+4*i) (I.flatMap (ids4 nx)++rd.flatMap (getF C)) g o.op o.dst id K fr ob):hwalk2G P ops nx Q ((i,I,rd)::l) C fr ob:=by
 simp only[hwalk2G];refine yK J U (h _ fun fr' ob' h=>?_);grind[gV]
end
def Free4 (ob:Ob)(nid:Nat):Prop:=ob nid=none∧ob (nid+1)=none∧ob (nid+2)=none∧ob (nid+3)=none
variable {nid:Nat}{ob:Ob}
theorem Free4.all (h:Free4 ob nid): ∀i,nid≤i→i<nid+4→ob i=none:=fun i J I=>by
 have:i=nid∨i=nid+1∨i=nid+2∨i=nid+3:=by omega
 rcases this with rfl|rfl|rfl|rfl
 · exact h.1
 · exact h.2.1
 · exact h.2.2.1
 · exact h.2.2.2
theorem aC2 (e:TypeId)(sz n:Nat)(l:List CV):LocOk 1 [.own 0 n] (fob [(0,.row e sz l)]):=by
 refine⟨fun j h=>?_,fun id o h=>?_,by simp[HV.menL,HV.men]⟩
 ·
  have:j=0:=by omega
  subst this;exact⟨_,rfl⟩
 ·
  simp only[fob_at,fob_nil]at h;split at h
  · cases h;rename_i e;subst e;exact⟨by omega,trivial⟩
  · cases h
section
variable {P:Program}{av:List Nat}{f g:FuncId}{ob:Ob}{nid id id2 n:Nat}{K:HV→Ob→Prop}{T e:TypeId}{sz:Nat}{v:CV}{l:List CV}{R:CV→Prop}
end
theorem aY9 {id:Nat}{o:HO}(I:Free4 ob nid):bY ob [id] nid (fob [(0,o)])=upd ob id (some (o.ren (sub [id] nid))):=by
 funext i;by_cases e:i=id
 · subst e;simp only[bY,aR,K4,J5,G4,fob_at,I2]
 ·
  have e':(id==i)=false:=by simp;exact fun h=>e h.symm
  simp only[bY,K4,e',Q5,P6,bE _ _ e];simp only[G9,L8];split
  ·
   rename_i J;have U:[id].length+(i-nid)≠0:=by simp
   rw[fob_at,A7 U,fob_nil];exact(I.all i J.1 J.2).symm
  · rfl
end Go.Hl
namespace Go.Pl
open Go Go.Hl
theorem Rp.setAll (p:Rp)(x:HV):CV.setAt 0 97 x p.cv=some x:=by
 have:=Rp.cells p;simp only[Rp.cv,CV.cells]at this;simp only[Rp.cv,CV.setAt,this,I4,G4]
end Go.Pl
namespace Go.Hl
open Go Go.RowKit
structure MOk (D:MD):Prop where
 nd:(D.map (·.1)).Nodup
 th: ∀p∈D,p.2.there=true
section
variable {P:Program}{av:List Nat}{f fi:FuncId}{ob:Ob}{nid id id2:Nat}{K:HV→Ob→Prop}{T e:TypeId}{sz:Nat}{D:MD}
end
end Go.Hl
namespace Go.Pl
open Go Go.Hl
abbrev Asc (l:List aK):Prop:=l.Pairwise (· <·)
theorem cE5 : ∀(a b:aK),Op.bytesLess a b=true↔a<b
 |_,[]=>by simp[Op.bytesLess]
 |[],_::_=>by simp[Op.bytesLess]
 |a::x,b::y=>by
  simp only[Op.bytesLess,N7,C4,B3,I6,cE5 x y,List.cons_lt_cons_iff]
theorem zL {a b:aK}:slt a b=true↔a<b:=cE5 a b
theorem cS9 {a b:List aK}(J:Asc a)(I:Asc b)(h: ∀w,w∈a↔w∈b):a=b:=by
 have nd: ∀{l:List aK},Asc l→l.Nodup:=fun hl=>hl.imp (fun {x y} h e=>by subst e;exact List.lt_irrefl _ h);refine List.Perm.eq_of_pairwise (le:=(· <·)) (fun x y _ _ U h2=>absurd (X2 U h2) (List.lt_irrefl _)) J I ((List.perm_ext_iff_of_nodup (nd J) (nd I)).2 h)
theorem pZ {a b:aK}(h:a≤b)(I:a≠b):a<b:=by
 apply Classical.byContradiction;intro J;exact I (List.le_antisymm h (List.not_lt.1 J))
theorem cE6 {α:Type}{p:α→Bool}: ∀{l:List α} {x:α},x∈l.takeWhile p→p x=true
 |[],x,h=>by simp at h
 |a::l,x,h=>by
  by_cases I:p a=true
  ·
   rw[List.takeWhile_cons_of_pos I,E0]at h;rcases h with rfl|h
   · exact I
   · exact cE6 h
  · rw[List.takeWhile_cons_of_neg I]at h;simp at h
variable {l:List aK}
theorem cE7 {w v:aK}:v∈uG l w↔v∈l∨v=w:=by
 unfold uG;split
 ·
  rename_i h;have:w∈l:=by simpa using h
  constructor
  · exact .inl
  ·
   rintro(h|rfl)
   · exact h
   · exact this
 ·
  have:l=l.takeWhile (slt · w)++l.dropWhile (slt · w):=(W6).symm;constructor
  ·
   intro h;simp only[D6,E0]at h;rcases h with h|rfl|h
   · exact .inl (by rw[this];exact T9 _ h)
   · exact .inr rfl
   · exact .inl (by rw[this];exact L3 _ h)
  ·
   rintro(h|rfl)
   ·
    rw[this]at h;simp only[D6,E0];rcases D6.1 h with h|h
    · exact .inl h
    · exact .inr (.inr h)
   · simp
theorem cE8 (h:Asc l)(w:aK):Asc (uG l w):=by
 unfold uG;split
 · exact h
 ·
  rename_i hc;have hw:w∉l:=by simpa using hc
  have e:l=l.takeWhile (slt · w)++l.dropWhile (slt · w):=(W6).symm;have h':=h;rw[e]at h';obtain⟨p1,p2,p3⟩:=BG.1 h';have t1: ∀x∈l.takeWhile (slt · w),x<w:=fun x hx=>zL.1 (cE6 (p:=(slt · w)) hx);have t2: ∀y∈l.dropWhile (slt · w),w<y:=by
   cases U:l.dropWhile (slt · w)with
   |nil=>simp
   |cons y r=>
    rw[U]at p2 e;have I:slt y w=false:=by
     have:=List.head_dropWhile_not (slt · w) (l:=l) (by rw[U];simp);simpa[U]using this
    have aa:y∈l:=by rw[e];simp
    have J:w<y:=by
     have h1: ¬y<w:=fun h=>by rw[zL.2 h]at I;cases I
     exact pZ (List.not_lt.1 h1) (fun h=>hw (h▸aa))
    intro z hz;rcases E0.1 hz with rfl|hz
    · exact J
    · exact X2 J ((Q1.1 p2).1 z hz)
  refine BG.2 ⟨p1,Q1.2 ⟨t2,p2⟩,fun x hx y I=>?_⟩;rcases E0.1 I with rfl|I
  · exact t1 x hx
  · exact X2 (t1 x hx) (t2 y I)
section
variable {s r o:Dig}{t:Int}{l:List Rb}
end
section
variable {s r o:Dig}{t:Int}{l l':List Rb}
end
section
variable {s r o d:Dig}{t:Int}{m:List Rb}{w:aK}
end
abbrev aI6 :={l:List UInt8//l.length=16}
def hf (h:aI6):CV:= .agg (h.1.map u8)
theorem aN (h:aI6):(hf h).cells=16:=by rw[←h.2];exact us_cells h.1
theorem fK (h:aI6):(hf h).denil=hf h:=by simp only[hf,CV.denil];rw[bZ (f:=u8) (fun _=>rfl)]
theorem cE9 (h:aI6):CV.getAt 0 16 true (hf h)=some (hf h):=by
 have:=aN h;simp_all[hf,CV.cells,CV.getAt,I4,G4]
theorem cF0 (h:aI6)(x:HV):CV.setAt 0 16 x (hf h)=some x:=by
 have:=aN h;simp_all[hf,CV.cells,CV.setAt,I4,G4]
theorem denilL_dg (l:List Dig):CV.denilL (l.map dg)=l.map dg:=bZ dg_denil l
theorem cF1 (d:Dig):dg d= .agg (d.1.map u8):=rfl
theorem jB {l:List UInt8}:(∀v∈l.map u8,v.cells=1)↔True:=by simp[u8,CV.cells]
structure Pk where
 h:Int
 r:aI6
def Pk.cv (x:Pk):CV:= .agg [.int .i64 x.h,hf x.r]
theorem Pk.cells (x:Pk):x.cv.cells=17:=by simp[Pk.cv,CV.cells,CV.cellsL,dg_cells,aN]
theorem Pk.denil (x:Pk):x.cv.denil=x.cv:=by simp only[Pk.cv,CV.denil,CV.denilL,dg_denil,fK,denilL_str,denilL_dg]
theorem Pk.isAgg (x:Pk):x.cv.isAgg=true:=rfl
theorem Pk.getAll (x:Pk):CV.getAt 0 17 true x.cv=some x.cv:=by
 have:=Pk.cells x;simp_all[Pk.cv,CV.cells,CV.getAt,I4,G4]
theorem Pk.setAll (x:Pk)(y:HV):CV.setAt 0 17 y x.cv=some y:=by
 have:=Pk.cells x;simp_all[Pk.cv,CV.cells,CV.setAt,I4,G4]
theorem Pk.fold (h:Int)(r:aI6):CV.agg [.int .i64 h,hf r]=Pk.cv ⟨h,r⟩:=rfl
theorem Pk.get_h (x:Pk):CV.getAt 0 1 false x.cv=some (.int .i64 x.h):=by simp[Pk.cv,CV.getAt,CV.getAtL,CV.cells,CV.cellsL,dg_cells,aN]
theorem Pk.set_h (x:Pk)(y:HV):CV.setAt 0 1 y x.cv=some (.agg [y,.c (hf x.r)]):=by simp[Pk.cv,CV.setAt,CV.setAtL,CV.cells,CV.cellsL,dg_cells,aN]
theorem Pk.get_r (x:Pk):CV.getAt 1 16 true x.cv=some (hf x.r):=by simp[Pk.cv,CV.getAt,CV.getAtL,CV.cells,CV.cellsL,dg_cells,aN,cE9]
theorem Pk.set_r (x:Pk)(y:HV):CV.setAt 1 16 y x.cv=some (.agg [.c (.int .i64 x.h),y]):=by simp[Pk.cv,CV.setAt,CV.setAtL,CV.cells,CV.cellsL,dg_cells,aN,cF0]
structure Ky where
 p:Pk
 o:aK
 rs:List aK
 fr:Int
 un:Int
def Ky.cv (x:Ky):CV:= .agg [x.p.cv,.str x.o,.slc (x.rs.map .str),.int .i64 x.fr,.int .i64 x.un]
theorem Ky.cells (x:Ky):x.cv.cells=21:=by simp[Ky.cv,CV.cells,CV.cellsL,dg_cells,aN,Pk.cells]
theorem Ky.denil (x:Ky):x.cv.denil=x.cv:=by simp only[Ky.cv,CV.denil,CV.denilL,dg_denil,fK,denilL_str,denilL_dg,Pk.denil]
theorem bV1 (l:List Ky):CV.denilL (l.map Ky.cv)=l.map Ky.cv:=bZ Ky.denil l
theorem Ky.isAgg (x:Ky):x.cv.isAgg=true:=rfl
theorem Ky.getAll (x:Ky):CV.getAt 0 21 true x.cv=some x.cv:=by
 have:=Ky.cells x;simp_all[Ky.cv,CV.cells,CV.getAt,I4,G4]
theorem Ky.setAll (x:Ky)(y:HV):CV.setAt 0 21 y x.cv=some y:=by
 have:=Ky.cells x;simp_all[Ky.cv,CV.cells,CV.setAt,I4,G4]
theorem Ky.fold (p:Pk)(o:aK)(rs:List aK)(fr:Int)(un:Int):CV.agg [p.cv,.str o,.slc (rs.map .str),.int .i64 fr,.int .i64 un]=Ky.cv ⟨p,o,rs,fr,un⟩:=rfl
theorem Ky.get_p (x:Ky):CV.getAt 0 17 true x.cv=some (x.p.cv):=by simp[Ky.cv,CV.getAt,CV.getAtL,CV.cells,CV.cellsL,dg_cells,aN,Pk.cells,Pk.getAll]
theorem Ky.set_p (x:Ky)(y:HV):CV.setAt 0 17 y x.cv=some (.agg [y,.c (.str x.o),.c (.slc (x.rs.map .str)),.c (.int .i64 x.fr),.c (.int .i64 x.un)]):=by simp[Ky.cv,CV.setAt,CV.setAtL,CV.cells,CV.cellsL,dg_cells,aN,Pk.cells,Pk.setAll]
theorem Ky.get_o (x:Ky):CV.getAt 17 1 false x.cv=some (.str x.o):=by simp[Ky.cv,CV.getAt,CV.getAtL,CV.cells,CV.cellsL,dg_cells,aN,Pk.cells]
theorem Ky.set_o (x:Ky)(y:HV):CV.setAt 17 1 y x.cv=some (.agg [.c (x.p.cv),y,.c (.slc (x.rs.map .str)),.c (.int .i64 x.fr),.c (.int .i64 x.un)]):=by simp[Ky.cv,CV.setAt,CV.setAtL,CV.cells,CV.cellsL,dg_cells,aN,Pk.cells]
structure Qt where
 r:aK
 n:Int
def Qt.cv (x:Qt):CV:= .agg [.str x.r,.int .i64 x.n]
theorem Qt.cells (x:Qt):x.cv.cells=2:=by simp[Qt.cv,CV.cells,CV.cellsL,dg_cells,aN]
theorem Qt.denil (x:Qt):x.cv.denil=x.cv:=by simp only[Qt.cv,CV.denil,CV.denilL,dg_denil,fK,denilL_str,denilL_dg]
theorem bV2 (l:List Qt):CV.denilL (l.map Qt.cv)=l.map Qt.cv:=bZ Qt.denil l
theorem Qt.isAgg (x:Qt):x.cv.isAgg=true:=rfl
theorem Qt.getAll (x:Qt):CV.getAt 0 2 true x.cv=some x.cv:=by
 have:=Qt.cells x;simp_all[Qt.cv,CV.cells,CV.getAt,I4,G4]
theorem Qt.setAll (x:Qt)(y:HV):CV.setAt 0 2 y x.cv=some y:=by
 have:=Qt.cells x;simp_all[Qt.cv,CV.cells,CV.setAt,I4,G4]
theorem Qt.fold (r:aK)(n:Int):CV.agg [.str r,.int .i64 n]=Qt.cv ⟨r,n⟩:=rfl
theorem Qt.get_r (x:Qt):CV.getAt 0 1 false x.cv=some (.str x.r):=by simp[Qt.cv,CV.getAt,CV.getAtL,CV.cells,CV.cellsL,dg_cells,aN]
theorem Qt.set_r (x:Qt)(y:HV):CV.setAt 0 1 y x.cv=some (.agg [y,.c (.int .i64 x.n)]):=by simp[Qt.cv,CV.setAt,CV.setAtL,CV.cells,CV.cellsL,dg_cells,aN]
theorem Qt.get_n (x:Qt):CV.getAt 1 1 false x.cv=some (.int .i64 x.n):=by simp[Qt.cv,CV.getAt,CV.getAtL,CV.cells,CV.cellsL,dg_cells,aN]
theorem Qt.set_n (x:Qt)(y:HV):CV.setAt 1 1 y x.cv=some (.agg [.c (.str x.r),y]):=by simp[Qt.cv,CV.setAt,CV.setAtL,CV.cells,CV.cellsL,dg_cells,aN]
structure Rv where
 k:Dig
 t:Int
def Rv.cv (x:Rv):CV:= .agg [dg x.k,.int .i64 x.t]
theorem Rv.cells (x:Rv):x.cv.cells=33:=by simp[Rv.cv,CV.cells,CV.cellsL,dg_cells,aN]
theorem Rv.denil (x:Rv):x.cv.denil=x.cv:=by simp only[Rv.cv,CV.denil,CV.denilL,dg_denil,fK,denilL_str,denilL_dg]
theorem bV3 (l:List Rv):CV.denilL (l.map Rv.cv)=l.map Rv.cv:=bZ Rv.denil l
theorem Rv.isAgg (x:Rv):x.cv.isAgg=true:=rfl
theorem Rv.getAll (x:Rv):CV.getAt 0 33 true x.cv=some x.cv:=by
 have:=Rv.cells x;simp_all[Rv.cv,CV.cells,CV.getAt,I4,G4]
theorem Rv.setAll (x:Rv)(y:HV):CV.setAt 0 33 y x.cv=some y:=by
 have:=Rv.cells x;simp_all[Rv.cv,CV.cells,CV.setAt,I4,G4]
theorem Rv.fold (k:Dig)(t:Int):CV.agg [dg k,.int .i64 t]=Rv.cv ⟨k,t⟩:=rfl
theorem Rv.get_k (x:Rv):CV.getAt 0 32 true x.cv=some (dg x.k):=by simp[Rv.cv,CV.getAt,CV.getAtL,CV.cells,CV.cellsL,dg_cells,aN,dg_getAt]
theorem Rv.set_k (x:Rv)(y:HV):CV.setAt 0 32 y x.cv=some (.agg [y,.c (.int .i64 x.t)]):=by simp[Rv.cv,CV.setAt,CV.setAtL,CV.cells,CV.cellsL,dg_cells,aN,dg_setAt]
theorem Rv.get_t (x:Rv):CV.getAt 32 1 false x.cv=some (.int .i64 x.t):=by simp[Rv.cv,CV.getAt,CV.getAtL,CV.cells,CV.cellsL,dg_cells,aN]
theorem Rv.set_t (x:Rv)(y:HV):CV.setAt 32 1 y x.cv=some (.agg [.c (dg x.k),y]):=by simp[Rv.cv,CV.setAt,CV.setAtL,CV.cells,CV.cellsL,dg_cells,aN]
structure Rt where
 v:Int
 e:Int
 q:List Qt
 k:List Ky
 x:List Rv
def Rt.cv (x:Rt):CV:= .agg [.int .i64 x.v,.int .i64 x.e,.slc (x.q.map Qt.cv),.slc (x.k.map Ky.cv),.slc (x.x.map Rv.cv)]
theorem Rt.cells (x:Rt):x.cv.cells=5:=by simp[Rt.cv,CV.cells,CV.cellsL,dg_cells,aN]
theorem Rt.denil (x:Rt):x.cv.denil=x.cv:=by simp only[Rt.cv,CV.denil,CV.denilL,dg_denil,fK,denilL_str,denilL_dg,bV2,bV1,bV3]
theorem Rt.isAgg (x:Rt):x.cv.isAgg=true:=rfl
theorem Rt.getAll (x:Rt):CV.getAt 0 5 true x.cv=some x.cv:=by
 have:=Rt.cells x;simp_all[Rt.cv,CV.cells,CV.getAt,I4,G4]
theorem Rt.setAll (x:Rt)(y:HV):CV.setAt 0 5 y x.cv=some y:=by
 have:=Rt.cells x;simp_all[Rt.cv,CV.cells,CV.setAt,I4,G4]
theorem Rt.fold (v:Int)(e:Int)(q:List Qt)(k:List Ky)(x:List Rv):CV.agg [.int .i64 v,.int .i64 e,.slc (q.map Qt.cv),.slc (k.map Ky.cv),.slc (x.map Rv.cv)]=Rt.cv ⟨v,e,q,k,x⟩:=rfl
theorem Rt.get_v (x:Rt):CV.getAt 0 1 false x.cv=some (.int .i64 x.v):=by simp[Rt.cv,CV.getAt,CV.getAtL,CV.cells,CV.cellsL,dg_cells,aN]
theorem Rt.set_v (x:Rt)(y:HV):CV.setAt 0 1 y x.cv=some (.agg [y,.c (.int .i64 x.e),.c (.slc (x.q.map Qt.cv)),.c (.slc (x.k.map Ky.cv)),.c (.slc (x.x.map Rv.cv))]):=by simp[Rt.cv,CV.setAt,CV.setAtL,CV.cells,CV.cellsL,dg_cells,aN]
theorem Rt.get_q (x:Rt):CV.getAt 2 1 false x.cv=some (.slc (x.q.map Qt.cv)):=by simp[Rt.cv,CV.getAt,CV.getAtL,CV.cells,CV.cellsL,dg_cells,aN]
theorem Rt.set_q (x:Rt)(y:HV):CV.setAt 2 1 y x.cv=some (.agg [.c (.int .i64 x.v),.c (.int .i64 x.e),y,.c (.slc (x.k.map Ky.cv)),.c (.slc (x.x.map Rv.cv))]):=by simp[Rt.cv,CV.setAt,CV.setAtL,CV.cells,CV.cellsL,dg_cells,aN]
theorem Rt.get_k (x:Rt):CV.getAt 3 1 false x.cv=some (.slc (x.k.map Ky.cv)):=by simp[Rt.cv,CV.getAt,CV.getAtL,CV.cells,CV.cellsL,dg_cells,aN]
theorem Rt.set_k (x:Rt)(y:HV):CV.setAt 3 1 y x.cv=some (.agg [.c (.int .i64 x.v),.c (.int .i64 x.e),.c (.slc (x.q.map Qt.cv)),y,.c (.slc (x.x.map Rv.cv))]):=by simp[Rt.cv,CV.setAt,CV.setAtL,CV.cells,CV.cellsL,dg_cells,aN]
def zG :Int:=1099511627776
def al (c:UInt8):Bool:=(decide (97≤c)&&decide (c≤122))||(decide (48≤c)&&decide (c≤57))
def nc (c:UInt8):Bool:=al c||(c==46||(c==95||c==45))
def fL :aK→Bool
 |[]=>false
 |c::r=>decide ((c::r).length≤64)&&(al c&&r.all nc)
def inN (t:Int):Bool:=decide (0≤t)&&decide (t≤zG)
def dlt (a b:Dig):Bool:=slt a.1 b.1
def bV4 (l:List aK):List aK:=l.foldl uG []
end Go.Pl
