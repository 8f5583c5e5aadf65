/- Part of a proof: walks of functions of the program, by contracts, and the rules they use. By an AI agent. -/
import Derived.Test.YthedbjfipmkpiaaGreatDoorHdTe
set_option maxRecDepth 10000
set_option maxHeartbeats 16000000
set_option linter.unusedSimpArgs false
set_option linter.unusedVariables false
set_option linter.defProp false
namespace Go.Proofs.YthedbjfipmkpiaaGreatDoor
open Go Go.Hl Go.Pl
theorem bD6 (l:List Nd)(hn: ∀n∈l,n.q.t.length<2^63):bM Tryz.prog 76 [.slc (l.map Nd.cv)] (fun v=>v= .bool (eJ l)):=by
 refine FW Tryz.func76 ?_;refine R0 ?_;refine aC fun K I=>?_;refine aC fun K I=>Rg ?_;iterate 4 refine S0 ?_
 refine aH 8 rfl (fun ag=>?_) (fun ag=>?_)
 ·
  have F:=ag;iterate 4 refine SF ?_
  refine T2 (I _ _ _ ?_);clear I K;refine CT rfl ?_;refine R0 ?_;refine aE (RT Tryz.results76 ?_);exact aF [] (.bool false) rfl (by rw[mY (.inl (by simp only[C4]at ag;omega))])
 have F:=ag;iterate 4 refine SF ?_
 refine aH 12 rfl (fun ad=>?_) (fun ad=>?_)
 · simp only[ad];refine T2 (I _ _ _ ?_);clear I K;refine CT rfl ?_;refine R0 ?_;refine aE (RT Tryz.results76 ?_);exact aF [] (.bool false) rfl (by rw[mY (.inr (by simp only[C4]at ad;omega))])
 simp only[ad];refine T2 (I _ _ _ ?_);clear I K;refine CF rfl ?_;refine aG ?_;refine T0 (I _ _ _ ?_);clear I K;have ao:1≤l.length:=by simp only[B7]at ag;omega
 have ak:l.length≤60:=by simp only[B7]at ad;omega
 clear ag ad;refine R0 ?_;refine aC fun K I=>?_;refine R0 ?_;refine aL ?_;refine bB (α:={y:Nat×Int×Int//ScSt l y.1 y.2.1 y.2.2}) (fun y=>(fin [(0,.c (.slc (l.map Nd.cv))),(3,.c (.int .i64 y.1.2.1)),(4,.c (.int .i64 y.1.2.2)),(5,.c (.int .i64 y.1.1))],fob [])) 200 (fun y=>l.length-y.1.1) ⟨(0,1,0),ScSt.init l⟩ (fF) ?_;rintro⟨⟨i,m,v⟩,af⟩;simp only at af;have hi:=af.le;have aw:=af.m0;have au:=af.m1;have ar:=af.v0;have aq:=af.v1;refine aC fun K I=>?_;refine aC fun K I=>Rg ?_;iterate 4 refine S0 ?_
 refine T2 (I _ _ _ ?_);clear I K;refine aJ (b:=decide ((i:Int)<l.length)) rfl (fun hb=>?_) (fun hb=>?_)
 ·
  have J:i<l.length:=by simpa using hb
  clear hb;refine aG ?_;refine T0 (I _ _ _ ?_);clear I K;refine aC fun K I=>?_;refine aL ?_;refine aC fun K I=>?_;refine aC fun K I=>Rg ?_;have F:=aI @A1 (aI @A4 (aI J (nM J)));iterate 3 refine SF ?_
  refine aH 21 rfl (fun U=>?_) (fun U=>?_)
  ·
   have F:=aI @A1 (aI @A4 (aI J (aI (nM J) U)));iterate 15 refine SF ?_
   refine T2 (I _ _ _ ?_);clear I K;refine CT rfl ?_;refine R0 ?_;refine aE (RT Tryz.results76 ?_);exact aF [] (.bool false) rfl (by rw[af.stop J (.inl (by simpa using U))])
  have F:=aI @A1 (aI @A4 (aI J (aI (nM J) U)));iterate 4 refine SF ?_
  refine aX (g:=some (22,false)) rfl rfl fun K' ai=>T6 ?_;refine C1 (cN2 l[i] (hn _ (B5 J))) ?_;rintro u rfl;refine AX (ai _ _ ?_);clear ai K';iterate 3 refine SF ?_
  refine aH 27 rfl (fun aa=>?_) (fun aa=>?_)
  ·
   have F:=aI @A1 (aI @A4 (aI J (aI (nM J) (aI U aa))));iterate 7 refine SF ?_
   refine aH 36 rfl (fun ae=>?_) (fun ae=>?_)
   · simp only[ae];refine T2 (I _ _ _ ?_);clear I K;refine CT rfl ?_;refine R0 ?_;refine aE (RT Tryz.results76 ?_);exact aF [] (.bool false) rfl (by rw[af.stop J (.inr (by rw[aU9,aa,ae];rfl))])
   simp only[ae];refine T2 (I _ _ _ ?_);clear I K;refine CF rfl ?_;refine aG ?_;refine T0 (I _ _ _ ?_);clear I K;have aj:dK l[i]=true:=by rw[aU9,aa,ae];rfl
   have hm:m≠0:=by simpa using U
   obtain⟨c1,c2,c3,c4⟩:=fM aj;have ah:=af.next J hm aj;clear U aa ae;refine aC fun K I=>Rg ?_;iterate 9 refine S0 ?_ (e:=fun _ h_=>by simp only[sH,↓sP,sA,tyS,simprocAttr,A1,A4,J,aW J,cC (l[i].c-1) (by omega),cC (m+(l[i].c-1)) (by omega)];exact AX h_)
   refine T2 (I _ _ _ ?_);clear I K;refine aC fun K I=>Rg ?_;have F:=aI @A1 (aI @A4 (aI J (nM J)));iterate 6 refine SF ?_
   refine T2 (I _ _ _ ?_);clear I K;refine aJ (b:=_) rfl (fun hb=>?_) (fun hb=>?_)
   · refine aM (by kernel_rfl) ?_;simp only[↓sP,sA,tyS,simprocAttr,cC (v+1) (by omega)];refine AX (I _ _ _ ?_);clear I K;refine aM (by kernel_rfl) ?_;simp only[↓sP,sA,tyS,simprocAttr,cC ((i:Int)+1) (by omega)];rw[B1 (by simpa using hb)]at ah;refine⟨⟨(i+1,_,_),ah⟩,fF,?_⟩;show l.length-(i+1)<l.length-i;omega
   refine aG ?_;refine T0 (I _ _ _ ?_);clear I K;refine aM (by kernel_rfl) ?_;simp only[↓sP,sA,tyS,simprocAttr,cC ((i:Int)+1) (by omega)];rw[A7 (by simpa using hb)]at ah;refine⟨⟨(i+1,_,_),ah⟩,fF,?_⟩;show l.length-(i+1)<l.length-i;omega
  have F:=aI @A1 (aI @A4 (aI J (aI (nM J) (aI U aa))));iterate 7 refine SF ?_
  refine T2 (I _ _ _ ?_);clear I K;refine CT rfl ?_;refine R0 ?_;refine aE (RT Tryz.results76 ?_);exact aF [] (.bool false) rfl (by rw[af.stop J (.inr (by rw[aU9,aa];rfl))])
 refine aV (T3 ?_);clear I K;refine AX (I _ _ _ ?_);clear I K;have an:i=l.length:=by simp only[B7]at hb;omega
 subst an;have hf:=af.fin ao ak;clear hb;refine aC fun K I=>Rg ?_;iterate 3 refine S0 ?_
 refine aH 55 rfl (fun ab=>?_) (fun ab=>?_)
 ·
  have F:=ab;iterate 4 refine SF ?_
  refine T2 (I _ _ _ ?_);clear I K;refine aE (RT Tryz.results76 ?_);exact aF [] (.bool _) rfl (by rw[hf,ab,B6])
 have F:=ab;iterate 4 refine SF ?_
 refine T2 (I _ _ _ ?_);clear I K;refine aE (RT Tryz.results76 ?_);exact aF [] (.bool false) rfl (by rw[hf,ab,B9])
def iC (n:Nat):CV:= .int .i64 n
theorem dJ (l:List Nat):CV.denilL (l.map iC)=l.map iC:=bZ (fun _=>rfl) l
theorem cN3 (l:List Nd)(ht:IsTree l)(i:Nat)(hi:i<l.length):bM Tryz.prog 105 [.slc (l.map Nd.cv),.int .i64 i] (fun v=>v= .int .i64 (aft l i:Nat)):=by
 have hl:=ht.len;refine FW Tryz.func105 ?_;refine R0 ?_;refine aC fun K J=>?_;refine R0 ?_;refine aL ?_;refine bB (α:={y:Nat×Nat//AftSt l i y.1 y.2∧y.1≤1+60*y.2}) (fun y=>(fin [(0,.c (.slc (l.map Nd.cv))),(1,.c (.int .i64 y.1.2)),(5,.c (.int .i64 y.1.1))],fob [])) 100 (fun y=>l.length-y.1.2) ⟨(1,i),⟨S3 hi,rfl⟩,by omega⟩ (fF) ?_;rintro⟨⟨m,p⟩,I,hm⟩;simp only at I hm;have hp:=I.1;refine aC fun K J=>?_;refine R0 ?_;refine aJ (b:=decide ((0:Int)<(m:Int))) rfl (fun hb=>?_) (fun hb=>?_)
 ·
  have ae:0<m:=by simpa using hb
  have U:=I.lt ht hi ae;obtain⟨c1,c2,_,_⟩:=fM (ht.node _ (B5 U));obtain⟨m',rfl⟩: ∃m',m=m'+1:=⟨m-1,by omega⟩;have ab:=I.next U;have aa:IntKind.i64.wrap (((m'+1:Nat):Int)+(l[p].c-1))=((m'+l[p].c.toNat:Nat):Int):=by rw[cC _ (by omega)];omega
  have ad:IntKind.i64.wrap ((p:Int)+1)=((p+1:Nat):Int):=by rw[cC _ (by omega)];rfl
  clear hb;refine aG ?_;refine T0 (J _ _ _ ?_);clear J K;refine aC fun K J=>?_;refine aL ?_;refine Rg ?_;iterate 9 refine S0 ?_ (e:=fun _ h_=>by simp only[sH,↓sP,sA,tyS,simprocAttr,A1,A4,U,aW U,cC (l[p].c-1) (by omega),aa];exact AX h_)
  refine T2 (J _ _ _ ?_);clear J K;refine aM (by kernel_rfl) ?_;refine TQ ad ?_;refine⟨⟨(m'+l[p].c.toNat,p+1),ab,by simp only;omega⟩,fF,?_⟩;show l.length-(p+1)<l.length-p;omega
 refine aV (T3 ?_);clear J K;refine AX (J _ _ _ ?_);clear J K;refine R0 ?_;refine aE (RT Tryz.results105 ?_);have af:m=0:=by simpa using hb
 subst af;exact aF [] (.int .i64 p) rfl (by rw[I.fin])
theorem bD7 (l:List Nd)(hn: ∀n∈l,n.q.t.length<2^63)(i:Int):bM Tryz.prog 75 [.slc (l.map Nd.cv),.int .i64 i] (fun v=>v= .slc ((qA l i).map iC)):=by
 refine FW Tryz.func75 ?_;refine R0 ?_;refine aC fun K hK=>?_;refine aC fun K hK=>Rg ?_;refine S0 ?_;refine HS rfl rfl fun K' aa=>T5 ?_;refine C1 (bS6 l hn) ?_;rintro u rfl;refine AX (aa _ _ ?_);clear aa K';iterate 2 refine S0 ?_
 refine aH 8 rfl (fun I=>?_) (fun I=>?_)
 ·
  have F:=I;iterate 4 refine SF ?_
  refine aH 12 rfl (fun J=>?_) (fun J=>?_)
  ·
   have F:=aI I J;iterate 5 refine SF ?_
   refine T2 (hK _ _ _ ?_);clear hK K;refine CT rfl ?_;refine R0 ?_;refine aE (RT Tryz.results75 ?_);exact aF [] (.slc []) rfl (by rw[kS (.inr (.inl (by simpa using J)))];rfl)
  have F:=aI I J;iterate 5 refine SF ?_
  refine aH 18 rfl (fun U=>?_) (fun U=>?_)
  · simp only[U];refine T2 (hK _ _ _ ?_);clear hK K;refine CT rfl ?_;refine R0 ?_;refine aE (RT Tryz.results75 ?_);exact aF [] (.slc []) rfl (by rw[kS (.inr (.inr (by simpa using U)))];rfl)
  simp only[U];refine T2 (hK _ _ _ ?_);clear hK K;refine CF rfl ?_;refine aG ?_;refine T0 (hK _ _ _ ?_);clear hK K;obtain⟨j,rfl⟩: ∃j:Nat,i=j:=⟨i.toNat,by simp at J;omega⟩;have hj:j<l.length:=by simp at U;omega
  have ht:=fN I;have ae:=rT I hj;have hl:=ht.len;obtain⟨c1,c2,_,_⟩:=fM (ht.node _ (B5 hj));have af:IntKind.i64.wrap ((j:Int)+1)=((j+1:Nat):Int):=by rw[cC _ (by omega)];rfl
  clear I J U;refine R0 ?_;refine aC fun K hK=>?_;have F:=af;refine RF ?_;refine aL ?_;refine eH 5 0 3 1 rfl rfl rfl rfl ?_;refine bB (α:={k:Nat//k≤l[j].c.toNat}) (fun k=>(fin [(0,.c (.slc (l.map Nd.cv))),(1,.c (.int .i64 j)),(5,.own 72 k.1),(6,.c (.int .i64 (cF l k.1 (j+1):Nat)))],fob [(72,.row 3 1 ((dL l k.1 (j+1)).map iC))])) 200 (fun k=>l[j].c.toNat-k.1) ⟨0,by omega⟩ (fG (by simp[dL,cF])) ?_;rintro⟨k,hk⟩;have ab:=lM l k (j+1);refine aC fun K hK=>?_;refine aC fun K hK=>Rg ?_;have F:=aI @A1 (aI @A4 (aI hj (aI (nM hj) ab)));iterate 8 refine SF ?_
  refine T2 (hK _ _ _ ?_);clear hK K;refine aJ (b:=decide ((k:Int)<l[j].c)) rfl (fun hb=>?_) (fun hb=>?_)
  ·
   have ad:k<l[j].c.toNat:=by simp only[C4]at hb;omega
   have ag:=jC ht hj ad;have e:(dL l (k+1) (j+1)).map iC=(dL l k (j+1)).map iC++[CV.int .i64 (cF l k (j+1):Nat)]:=by rw[iJ,C5];rfl
   refine aG ?_;refine T0 (hK _ _ _ ?_);clear hK K;refine aC fun K hK=>?_;refine aL ?_;refine Rg ?_;have F:=ab;iterate 5 refine SF ?_
   refine T2 (hK _ _ _ ?_);clear hK K;refine Rg ?_;iterate 2 refine S0 ?_
   refine HS rfl rfl fun K' aa=>T5 ?_;refine C2 (cN3 l ht _ ag) ?_;rintro u rfl;refine AX (aa _ _ ?_);clear aa K';refine S0 ?_;refine T4 ?_;refine⟨⟨k+1,ad⟩,fG (by simp[e,ab,dB]),?_⟩;show l[j].c.toNat-(k+1)<l[j].c.toNat-k;omega
  refine aV (T3 ?_);clear hK K;refine AX (hK _ _ _ ?_);clear hK K;refine R0 ?_;refine aE (RT Tryz.results75 ?_);have ad:k=l[j].c.toNat:=by simp only[B7]at hb;omega
  subst ad;exact aF [72] (.slc ((dL l l[j].c.toNat (j+1)).map iC)) (by simp[ab,dJ]) (by rw[ae])
 have F:=I;iterate 9 refine SF ?_
 refine T2 (hK _ _ _ ?_);clear hK K;refine CT rfl ?_;refine R0 ?_;refine aE (RT Tryz.results75 ?_);exact aF [] (.slc []) rfl (by rw[kS (.inl I)];rfl)
theorem xQ (l:List Nd)(hn: ∀n∈l,n.q.t.length<2^63):bM Tryz.prog 29 [.slc (l.map Nd.cv)] (fun v=>v= .slc ((eB l).map iC)):=by
 refine FW Tryz.func29 ?_;refine R0 ?_;refine aC fun K I=>?_;refine AU ?_;refine SC (bS6 l hn) ?_;refine AU ?_;refine aJ (b:=!eJ l) rfl (fun J=>?_) (fun J=>?_)
 · refine R0 ?_;refine aE (RT Tryz.results29 ?_);exact aF [] (.slc []) rfl (by rw[yX (by simpa using J)];rfl)
 have h8:eJ l=true:=by simpa using J
 have ht:=fN h8;have aa:=mI h8;have hl:=ht.len;clear J;refine aG ?_;refine T0 (I _ _ _ ?_);clear I K;refine R0 ?_;refine aC fun K I=>?_;refine R0 ?_;refine aL ?_;refine eH 3 0 3 1 rfl rfl rfl rfl ?_;refine bB (α:={i:Nat//i≤l.length}) (fun i=>(fin [(3,.own 32 (fB 0 (l.take i.1)).length),(9,.c (.slc (l.map Nd.cv))),(10,.c (.int .i64 l.length)),(11,.c (.int .i64 i.1))],fob [(32,.row 3 1 ((fB 0 (l.take i.1)).map iC))])) 200 (fun i=>l.length-i.1) ⟨0,by omega⟩ (fG (by simp[fB])) ?_;rintro⟨i,hi⟩;have ad:(fB 0 (l.take i)).length≤i:=by rw[iO];have:=bO3 (l.take i);simp at this;omega
 refine R0 ?_;refine aC fun K I=>?_;refine aJ (b:=decide ((i:Int)<l.length)) rfl (fun J=>?_) (fun J=>?_)
 ·
  have U:i<l.length:=by simpa using J
  have e:=bI5 U;clear J;refine aG ?_;refine T0 (I _ _ _ ?_);clear I K;refine aC fun K I=>?_;refine aL ?_;refine RS ?_;have F:=aI @A1 (aI @A4 (aI U (nM U)));refine AU ?_;refine aJ (b:=_) rfl (fun J=>?_) (fun J=>?_)
  · rw[B1 (by simpa using J)]at e;refine Rg ?_;refine AU ?_;refine T2 (I _ _ _ ?_);clear I K;refine aM (by kernel_rfl) ?_;simp only[↓sP,sA,tyS,simprocAttr,cC ((i:Int)+1) (by omega)];refine⟨⟨i+1,U⟩,fG (by simp[e,iC]),?_⟩;show l.length-(i+1)<l.length-i;omega
  rw[A7 (by simpa using J)]at e;refine aG ?_;refine T0 (I _ _ _ ?_);clear I K;refine aM (by kernel_rfl) ?_;simp only[↓sP,sA,tyS,simprocAttr,cC ((i:Int)+1) (by omega)];refine⟨⟨i+1,U⟩,fG (by simp[e]),?_⟩;show l.length-(i+1)<l.length-i;omega
 refine aV (T3 ?_);clear I K;refine AX (I _ _ _ ?_);clear I K;refine R0 ?_;refine aE (RT Tryz.results29 ?_);have ab:i=l.length:=by simp only[B7]at J;omega
 subst ab;rw[C6];exact aF [32] (.slc ((fB 0 l).map iC)) (by simp[dJ]) (by rw[aa])
theorem bD8 (l:List Nd)(ht:IsTree l)(i:Nat)(hi:i<l.length)(ih: ∀j,i<j→j<l.length→bM Tryz.prog 107 [.slc (l.map Nd.cv),.int .i64 j] (fun v=>v= .int .i64 (aft l j:Nat))):
  bM Tryz.prog 107 [.slc (l.map Nd.cv),.int .i64 i] (fun v=>v= .int .i64 (aft l i:Nat)):=by
 have hl:=ht.len;obtain⟨c1,c2,_,_⟩:=fM (ht.node _ (B5 hi));have ad:IntKind.i64.wrap ((i:Int)+1)=((i+1:Nat):Int):=by rw[cC _ (by omega)];rfl
 have hc:l[i].c=((l[i].c.toNat:Nat):Int):=by omega
 refine FW Tryz.func107 ?_;refine R0 ?_;refine RS ?_;have F:=aI @A1 (aI @A4 (aI hi (nM hi)));iterate 6 refine SF ?_
 refine RE ?_;have F:=ad;refine RF ?_;refine aC fun K J=>?_;refine aL ?_;refine bB (α:={y:Nat×Nat//AftSt l i y.1 y.2∧y.1≤60∧i<y.2}) (fun y=>(fin [(0,.c (.slc (l.map Nd.cv))),(1,.c (.int .i64 y.1.2)),(5,.c (.int .i64 y.1.1))],fob [])) 100 (fun y=>y.1.1) ⟨(0+l[i].c.toNat,i+1),AftSt.next (m:=0) ⟨S3 hi,rfl⟩ hi,by simp only;omega,by simp only;omega⟩ (bA (by omega) (by simp;omega) (by simp)) ?_;rintro⟨⟨m,p⟩,I,hm,aa⟩;simp only at I hm aa;have hp:=I.1;refine aC fun K J=>?_;refine R0 ?_;refine aJ (b:=decide ((0:Int)<(m:Int))) rfl (fun hb=>?_) (fun hb=>?_)
 ·
  have ae:0<m:=by simpa using hb
  have U:=I.lt ht hi ae;obtain⟨m',rfl⟩: ∃m',m=m'+1:=⟨m-1,by omega⟩;obtain⟨a1,a2,a3⟩:=gL ht U;have ab:IntKind.i64.wrap (((m'+1:Nat):Int)-1)=((m':Nat):Int):=by rw[cC _ (by omega)];omega
  clear hb;refine aG ?_;refine T0 (J _ _ _ ?_);clear J K;refine aC fun K J=>?_;refine aL ?_;refine Rg ?_;refine AU ?_;refine SC (ih p aa U) ?_;refine S0 ?_;refine T2 (J _ _ _ ?_);clear J K;refine aM (by kernel_rfl) ?_;refine TQ ab ?_;refine⟨⟨(m',aft l p),⟨a2,bV6 I.2 a3⟩,by simp only;omega,by simp only;omega⟩,fF,?_⟩;show m'<m'+1;omega
 refine aV (T3 ?_);clear J K;refine AX (J _ _ _ ?_);clear J K;refine R0 ?_;refine aE (RT Tryz.results107 ?_);have af:m=0:=by simpa using hb
 subst af;exact aF [] (.int .i64 p) rfl (by rw[I.fin])
theorem rU (l:List Nd)(I:IsTree l): ∀(f i:Nat),i<l.length→l.length-i≤f→bM Tryz.prog 107 [.slc (l.map Nd.cv),.int .i64 i] (fun v=>v= .int .i64 (aft l i:Nat))
 |0,i,h1,h2=>by omega
 |f+1,i,h1,h2=>bD8 l I i h1 fun j U J=>rU l I f j J (by omega)
theorem aV1 (l:List Nd)(hn: ∀n∈l,n.q.t.length<2^63)(i:Int):bM Tryz.prog 78 [.slc (l.map Nd.cv),.int .i64 i] (fun v=>v= .slc ((qA l i).map iC)):=by
 refine FW Tryz.func78 ?_;refine R0 ?_;refine R0 ?_;refine aC fun K hK=>?_;refine AU ?_;refine SC (bD6 l hn) ?_;refine AU ?_;refine aH 9 rfl (fun I=>?_) (fun I=>?_)
 ·
  have F:=I;refine AU ?_;refine aH 13 rfl (fun U=>?_) (fun U=>?_)
  · have F:=aI I U;refine AU ?_;refine CT rfl ?_;refine R0 ?_;refine aE (RT Tryz.results78 ?_);exact aF [] (.slc []) rfl (by rw[kS (.inr (.inl (by simpa using U)))];rfl)
  have F:=aI I U;refine AU ?_;refine aH 19 rfl (fun J=>?_) (fun J=>?_)
  · simp only[J];refine RE ?_;refine CT rfl ?_;refine R0 ?_;refine aE (RT Tryz.results78 ?_);exact aF [] (.slc []) rfl (by rw[kS (.inr (.inr (by simpa using J)))];rfl)
  simp only[J];refine RE ?_;refine CF rfl ?_;refine aG ?_;refine T0 (hK _ _ _ ?_);clear hK K;obtain⟨j,rfl⟩: ∃j:Nat,i=j:=⟨i.toNat,by simp at U;omega⟩;have hj:j<l.length:=by simp at J;omega
  have ht:=fN I;have ad:=rT I hj;have hl:=ht.len;obtain⟨c1,c2,_,_⟩:=fM (ht.node _ (B5 hj));have ae:IntKind.i64.wrap ((j:Int)+1)=((j+1:Nat):Int):=by rw[cC _ (by omega)];rfl
  clear I U J;have F:=ae;refine RF ?_;refine aC fun K hK=>?_;refine R0 ?_;refine aL ?_;refine eH 5 0 3 1 rfl rfl rfl rfl ?_;refine bB (α:={k:Nat//k≤l[j].c.toNat}) (fun k=>(fin [(0,.c (.slc (l.map Nd.cv))),(1,.c (.int .i64 j)),(5,.own 76 k.1),(6,.c (.int .i64 (cF l k.1 (j+1):Nat))),(7,.c (.int .i64 k.1))],fob [(76,.row 3 1 ((dL l k.1 (j+1)).map iC))])) 200 (fun k=>l[j].c.toNat-k.1) ⟨0,by omega⟩ (fG (by simp[dL,cF])) ?_;rintro⟨k,hk⟩;have ab:=lM l k (j+1);refine aC fun K hK=>?_;refine RS ?_;have F:=aI @A1 (aI @A4 (aI hj (nM hj)));refine AU ?_;refine aJ (b:=decide ((k:Int)<l[j].c)) rfl (fun hb=>?_) (fun hb=>?_)
  ·
   have aa:k<l[j].c.toNat:=by simp only[C4]at hb;omega
   have af:=jC ht hj aa;have e:(dL l (k+1) (j+1)).map iC=(dL l k (j+1)).map iC++[CV.int .i64 (cF l k (j+1):Nat)]:=by rw[iJ,C5];rfl
   refine aG ?_;refine T0 (hK _ _ _ ?_);clear hK K;refine aC fun K hK=>?_;refine aL ?_;refine RS ?_;have F:=ab;refine AU ?_;refine Rg ?_;refine AU ?_;refine SC (rU l ht _ _ af (E3 _)) ?_;refine S0 ?_;refine T2 (hK _ _ _ ?_);clear hK K;refine aM (by kernel_rfl) ?_;simp only[↓sP,sA,tyS,simprocAttr,cC ((k:Int)+1) (by omega)];refine⟨⟨k+1,aa⟩,fG (by simp[e,ab,dB]),?_⟩;show l[j].c.toNat-(k+1)<l[j].c.toNat-k;omega
  refine aV (T3 ?_);clear hK K;refine AX (hK _ _ _ ?_);clear hK K;refine R0 ?_;refine aE (RT Tryz.results78 ?_);have aa:k=l[j].c.toNat:=by simp only[B7]at hb;omega
  subst aa;exact aF [76] (.slc ((dL l l[j].c.toNat (j+1)).map iC)) (by simp[ab,dJ]) (by rw[ad])
 have F:=I;refine AU ?_;refine CT rfl ?_;refine R0 ?_;refine aE (RT Tryz.results78 ?_);exact aF [] (.slc []) rfl (by rw[kS (.inl I)];rfl)
def bC (b:Bool):CV:= .bool b
theorem jY (l:List Bool):CV.denilL (l.map bC)=l.map bC:=bZ (fun _=>rfl) l
theorem bD9 (l:List Nd)(ht:IsTree l)(tr:List Bool)(au:tr.length<2^63)(i:Nat)(hi:i<l.length)(ih: ∀j,i<j→j<l.length→bM Tryz.prog 77 [.slc (l.map Nd.cv),.int .i64 j,.slc (tr.map bC)] (fun v=>v= .bool (dZ l tr j))):
  bM Tryz.prog 77 [.slc (l.map Nd.cv),.int .i64 i,.slc (tr.map bC)] (fun v=>v= .bool (dZ l tr i)):=by
 have hl:=ht.len;obtain⟨c1,c2,_,_⟩:=fM (ht.node _ (B5 hi));have ao:IntKind.i64.wrap ((i:Int)+1)=((i+1:Nat):Int):=by rw[cC _ (by omega)];rfl
 have hc:l[i].c=((l[i].c.toNat:Nat):Int):=by omega
 refine FW Tryz.func77 ?_;refine R0 ?_;refine RS ?_;have F:=aI @A1 (aI @A4 (aI hi (nM hi)));iterate 6 refine SF ?_
 refine RE ?_;refine aC fun K J=>?_;refine R0 ?_;refine aJ (b:=(l[i].k==1)) rfl (fun I=>?_) (fun I=>?_)
 ·
  refine R0 ?_;refine aC fun K J=>?_;refine R0 ?_;refine aL ?_;have ab:l[i].k=1:=by simpa using I
  clear I;refine bB (α:={j:Nat//j≤i}) (fun j=>(fin [(0,.c (.slc (l.map Nd.cv))),(1,.c (.int .i64 i)),(2,.c (.slc (tr.map bC))),(8,.c (.int .i64 (lv (l.take j.1):Nat))),(9,.c (.int .i64 j.1))],fob [])) 100 (fun j=>i-j.1) ⟨0,by omega⟩ (fG (by simp[lv])) ?_;rintro⟨j,hj⟩;have aw:=aG5 l j;refine aC fun K J=>?_;refine R0 ?_;refine aJ (b:=decide ((j:Int)<i)) rfl (fun I=>?_) (fun I=>?_)
  ·
   have U:j<i:=by simpa using I
   have ah:j<l.length:=by omega
   have e:=zT ah;have ag:IntKind.i64.wrap ((lv (l.take j):Int)+1)=((lv (l.take j)+1:Nat):Int):=by rw[cC _ (by omega)];rfl
   clear I;refine aG ?_;refine T0 (J _ _ _ ?_);clear J K;refine aC fun K J=>?_;refine aL ?_;refine RS ?_;have F:=aI @A1 (aI @A4 (aI ah (nM ah)));refine AU ?_;refine aJ (b:=_) rfl (fun I=>?_) (fun I=>?_)
   · rw[B1 (by simpa using I)]at e;refine aM (by kernel_rfl) ?_;refine TQ ag ?_;refine AX (J _ _ _ ?_);clear J K;refine aM (by kernel_rfl) ?_;simp only[↓sP,sA,tyS,simprocAttr,cC ((j:Int)+1) (by omega)];refine⟨⟨j+1,U⟩,fG (by simp[e]),?_⟩;show i-(j+1)<i-j;omega
   rw[A7 (by simpa using I),L4]at e;refine aG ?_;refine T0 (J _ _ _ ?_);clear J K;refine aM (by kernel_rfl) ?_;simp only[↓sP,sA,tyS,simprocAttr,cC ((j:Int)+1) (by omega)];refine⟨⟨j+1,U⟩,fG (by simp[e]),?_⟩;show i-(j+1)<i-j;omega
  refine aV (T3 ?_);clear J K;refine AX (J _ _ _ ?_);clear J K;by_cases ad:lv (l.take j)<tr.length
  ·
   have U:j=i:=by simp only[B7]at I;omega
   subst U;have ai:=oU (tr:=tr) hi ab;clear I;refine RS ?_;iterate 11 refine S0 ?_ (e:=fun _ h_=>by simp only[sH,↓sP,sA,tyS,simprocAttr,A1,A4,ad,aW ad,bC];exact AX h_)
   refine RE ?_;refine aE (RT Tryz.results77 ?_);exact aF [] (.bool tr[lv (l.take j)]) rfl (by rw[ai];simp[ad])
  have U:j=i:=by simp only[B7]at I;omega
  subst U;have ai:=oU (tr:=tr) hi ab;clear I;have an:decide ((lv (l.take j):Int)<tr.length)=false:=by simp;omega
  refine RS ?_;have F:=an;refine AU ?_;refine aE (RT Tryz.results77 ?_);exact aF [] (.bool false) rfl (by rw[ai];simp[B4,I5 (AM ad)])
 refine aG ?_;refine T0 (J _ _ _ ?_);clear J K;refine RS ?_;have F:=ao;iterate 4 refine SF ?_
 refine RE ?_;refine aC fun K J=>?_;refine R0 ?_;refine aL ?_;have ab:l[i].k≠1:=by simpa using I
 have ae:=yN (tr:=tr) hi ab;have aq:=uJ ht (tr:=tr) hi;obtain⟨V,hV⟩: ∃V,V=evS (lv l) tr (l.drop (i+1)):=⟨_,rfl⟩;rw[←hV]at ae aq;clear I;refine bB (α:={k:Nat//k≤l[i].c.toNat}) (fun k=>(fin [(0,.c (.slc (l.map Nd.cv))),(2,.c (.slc (tr.map bC))),(7,.ptr 20 0),(10,.c (.int .i64 (cnt (V.take k.1):Nat))),(11,.c (.int .i64 (cF l k.1 (i+1):Nat))),(12,.c (.int .i64 k.1))],fob [(20,.box 89 (.c l[i].cv))])) 200 (fun k=>l[i].c.toNat-k.1) ⟨0,by omega⟩ (fG (by simp[cnt,cF,ao])) ?_;rintro⟨k,hk⟩;have ax:cnt (V.take k)≤k:=by have:=bI7 (V.take k);simp at this;omega
 have ar:cnt (V.take k)≤60:=by omega
 refine aC fun K J=>?_;refine AU ?_;refine aJ (b:=decide ((k:Int)<l[i].c)) rfl (fun I=>?_) (fun I=>?_)
 ·
  have aa:k<l[i].c.toNat:=by simp only[C4]at I;omega
  have ak:=jC ht hi aa;have ay:=(iK ht hi k hk).2.2;have aj:=aL5 ht (tr:=tr) hi aa;rw[←hV]at aj;have af:=nJ (l:=V) (k:=k) (by omega);have ag:IntKind.i64.wrap ((cnt (V.take k):Int)+1)=((cnt (V.take k)+1:Nat):Int):=by rw[cC _ (by omega)];rfl
  clear I;refine aG ?_;refine T0 (J _ _ _ ?_);clear J K;refine aC fun K J=>?_;refine aL ?_;refine aC fun K J=>?_;refine RS ?_;have F:=@jY;refine AU ?_;refine SCF (ih _ (by omega) ak) ?_;refine RE ?_;refine aJ (b:=dZ l tr (cF l k (i+1))) rfl (fun I=>?_) (fun I=>?_)
  · rw[aj]at I;rw[B1 I]at af;refine aM (by kernel_rfl) ?_;refine TQ ag ?_;refine AX (J _ _ _ ?_);clear J K;refine Rg ?_;refine AU ?_;refine SC (rU l ht _ _ ak (E3 _)) ?_;refine S0 ?_;refine T2 (J _ _ _ ?_);clear J K;refine aM (by kernel_rfl) ?_;simp only[↓sP,sA,tyS,simprocAttr,cC ((k:Int)+1) (by omega)];refine⟨⟨k+1,aa⟩,fG (by simp[af,dB]),?_⟩;show l[i].c.toNat-(k+1)<l[i].c.toNat-k;omega
  rw[aj]at I;rw[A7 (by rw[I];simp)]at af;refine aG ?_;refine T0 (J _ _ _ ?_);clear J K;refine Rg ?_;refine AU ?_;refine SC (rU l ht _ _ ak (E3 _)) ?_;refine S0 ?_;refine T2 (J _ _ _ ?_);clear J K;refine aM (by kernel_rfl) ?_;simp only[↓sP,sA,tyS,simprocAttr,cC ((k:Int)+1) (by omega)];refine⟨⟨k+1,aa⟩,fG (by simp[af,L4,dB]),?_⟩;show l[i].c.toNat-(k+1)<l[i].c.toNat-k;omega
 refine aV (T3 ?_);clear J K;refine AX (J _ _ _ ?_);clear J K;refine aC fun K J=>?_;have aa:k=l[i].c.toNat:=by simp only[B7]at I;omega
 subst aa;have hlen:(V.take l[i].c.toNat).length=l[i].c.toNat:=by simp;omega
 clear I;refine R0 ?_;refine aL ?_;refine R0 ?_;refine aJ (b:=(l[i].k==2)) rfl (fun I=>?_) (fun I=>?_)
 ·
  refine AU ?_;refine aE (RT Tryz.results77 ?_);have h2:l[i].k=2:=by simpa using I
  exact aF [] (.bool _) rfl (by rw[ae,kL,B1 h2,hlen];congr 1;rw[K5];simp;omega)
 have h2:l[i].k≠2:=by simpa using I
 refine R0 ?_;refine aJ (b:=(l[i].k==3)) rfl (fun I=>?_) (fun I=>?_)
 ·
  refine R0 ?_;refine aE (RT Tryz.results77 ?_);have h3:l[i].k=3:=by simpa using I
  exact aF [] (.bool _) rfl (by rw[ae,kL,A7 h2,B1 h3];congr 1;rw[K5];simp;omega)
 refine aG ?_;refine T0 (J _ _ _ ?_);clear J K;refine AU ?_;refine aE (RT Tryz.results77 ?_);have h3:l[i].k≠3:=by simpa using I
 exact aF [] (.bool _) rfl (by rw[ae,kL,A7 h2,A7 h3])
theorem xR (l:List Nd)(J:IsTree l)(tr:List Bool)(I:tr.length<2^63): ∀(f i:Nat),i<l.length→l.length-i≤f→bM Tryz.prog 77 [.slc (l.map Nd.cv),.int .i64 i,.slc (tr.map bC)] (fun v=>v= .bool (dZ l tr i))
 |0,i,h1,h2=>by omega
 |f+1,i,h1,h2=>bD9 l J tr I i h1 fun j h3 U=>xR l J tr I f j U (by omega)
theorem cN4 (l:List Nd)(J:IsTree l)(tr:List Bool)(I:tr.length<2^63):bM Tryz.prog 77 [.slc (l.map Nd.cv),.int .i64 0,.slc (tr.map bC)] (fun v=>v= .bool (dZ l tr 0)):=xR l J tr I l.length 0 J.ne (E3 _)
theorem cN5 (l:List Nd)(hn: ∀n∈l,n.q.t.length<2^63)(tr:List Bool)(J:tr.length<2^63):bM Tryz.prog 39 [.slc (l.map Nd.cv),.slc (tr.map bC)] (fun v=>v= .bool (eV l tr)):=by
 refine FW Tryz.func39 ?_;refine R0 ?_;refine RS ?_;have F:=@jY;refine SF ?_;refine SCF (bD6 l hn) ?_;refine SF ?_;refine aH 6 rfl (fun I=>?_) (fun I=>?_)
 · have F:=aI @jY I;refine AU ?_;refine SCF (cN4 l (fN I) tr J) ?_;refine AU ?_;refine aE (RT Tryz.results39 ?_);exact aF [] (.bool _) rfl (by rw[eV,I];rfl)
 have F:=aI @jY I;refine AU ?_;refine aE (RT Tryz.results39 ?_);exact aF [] (.bool false) rfl (by rw[eV,I];rfl)
theorem cA1 (l:List Nd)(hl:l.length<2^40):aS8 Tryz.prog 79 [(26,.slc (l.map Nd.cv))] (bwL l):=by
 refine aM3 Tryz.func79 rfl (by kernel_rfl) (C7 rfl) rfl fun L J hS hY=>?_;have e0:mN [(26,CV.slc (l.map Nd.cv))]=fob [(0,.box 26 (.c (.slc (l.map Nd.cv))))]:=by
  funext i
  match i with
  |0=>rfl
  |i+1=>simp[mN,fob,upd]
 have e1:kE (List.range [((26:Nat),CV.slc (l.map Nd.cv))].length)=[.ptr 0 0]:=rfl;rw[e0,e1];refine iD fun K hK=>qE hS rfl (aM (by kernel_rfl) ?_);simp only[sR,simprocAttr];iterate 4 refine S0 ?_ (e:=fun _ h_=>by simp only[sH,↓sP,sA,tyS,simprocAttr,rI,cC ((l.length:Int)-1) (by omega),A0];exact AX h_)
 simp only[sE,↓reduceIte,simprocAttr,rI];refine hK _ _ _ _ _ ?_;clear hK K;refine rD ?_;refine bA4 (α:={j:Nat//j≤l.length}) hS (fun j=>(fin [(0,.opq (.func (.yield L) #[] #[])),(1,.ptr 0 0),(3,.c (.int .i64 ((l.length:Int)-1-j.1)))],fob [(0,.box 26 (.c (.slc (l.map Nd.cv))))])) (fun j=>j.1) 100 (fun j=>l.length-j.1) ⟨0,I1 _⟩ rfl (fF) rfl ?_;rintro⟨j,hj⟩;refine iD fun K hK=>?_;refine iD fun K1 I=>qE hS rfl (aM (by kernel_rfl) ?_);simp only[sR,simprocAttr];have F:=rI;refine AU ?_;simp only[sE,↓reduceIte,simprocAttr,rI];refine I _ _ _ _ _ ?_;clear I K1;refine lZ (b:=decide ((0:Int)≤(l.length:Int)-1-j)) rfl (fun hb=>?_) (fun hb=>?_)
 ·
  have ad:j<l.length:=by simp at hb;omega
  have aa:l.length-1-j<l.length:=by omega
  have ab:j<(bwL l).length:=by rw[vX];exact ad
  have hx:=cM9 ab aa;have U:(l.length:Int)-1-j=((l.length-1-j:Nat):Int):=by omega
  have ae:IntKind.i64.wrap (((l.length-1-j:Nat):Int)-1)=(l.length:Int)-1-((j:Int)+1):=by rw[cC _ (by omega)];omega
  refine qF ?_;simp only[sE,↓reduceIte,simprocAttr,rI];refine hK _ _ _ _ _ ?_;clear hK K;refine iD fun K hK=>?_;refine rD ?_;refine iD fun K1 I=>wY (l:=L) 6 hS hY rfl (by kernel_rfl) (by decide) ?_;simp only[sR,List.range',simprocAttr];have F:=aI rI (aI U (aI @A0.{0,0} (aI @A1 (aI @A4 (aI aa (nM aa))))));refine AU ?_;rw[hlex];refine⟨_,_,_,ab,rfl,rfl,rfl,rfl,rfl,?_,?_,?_⟩
  · rw[hx];simp only[U];rfl
  · simp only[sR,List.range',simprocAttr];have F:=rI;refine SF ?_;simp only[sE,↓reduceIte,simprocAttr,rI];refine I _ _ _ _ _ ?_;clear I K1;refine lZ (b:=false) rfl (fun hb=>by cases hb) (fun _=>?_);refine qF ?_;simp only[sE,↓reduceIte,simprocAttr,rI];refine hK _ _ _ _ _ ?_;clear hK K;refine qE hS rfl (aM (by kernel_rfl) ?_);simp only[sR,simprocAttr];have F:=aI rI (aI U ae);refine AU ?_;simp only[sE,↓reduceIte,simprocAttr,rI];refine⟨⟨j+1,ad⟩,fF,trivial,rfl,?_⟩;show l.length-(j+1)<l.length-j;omega
  simp only[sR,List.range',simprocAttr];have F:=rI;refine SF ?_;simp only[sE,↓reduceIte,simprocAttr,rI];refine I _ _ _ _ _ ?_;clear I K1;refine lZ (b:=true) rfl (fun _=>?_) (fun hb=>by cases hb);refine bO5 ?_;simp only[sE,↓reduceIte,simprocAttr,rI];exact⟨by simp,fun h=>by cases h⟩
 have af:j=l.length:=by simp at hb;omega
 refine bA3 ?_;simp only[sE,↓reduceIte,simprocAttr,rI];exact⟨by simp,fun _=>by rw[vX];exact af⟩
end Go.Proofs.YthedbjfipmkpiaaGreatDoor
namespace Go.Pl
open Go Go.Hl
def oF (w:List Bool)(m:Nat)(b:Bool):List Bool:=w.take m++[b]++w.drop (m+1)
variable {b:Bool}{m:Nat}{w:List Bool}
theorem oG (h:m+1≤w.length):(oF w m b).length=w.length:=by simp[oF];omega
theorem aP2 :oF w w.length b=w++[b]:=by simp[oF]
theorem aP3 (h:m≤w.length):(oF w m b).take (m+1)=w.take m++[b]:=by grind[oF,List.take_of_length_le]
def bL4 (l:List Nd)(tr:List Bool)(p:Nat)(s:List Bool×Nat):List Bool×Nat:=
 if(l.getD p nd0).k=1 then(oF s.1 s.2 (tr.getD (lv (l.take p)) false),s.2+1)
 else(oF s.1 (s.2-(l.getD p nd0).c.toNat) (kL (l.getD p nd0) ((s.1.drop (s.2-(l.getD p nd0).c.toNat)).take (l.getD p nd0).c.toNat)),s.2-(l.getD p nd0).c.toNat+1)
def cR (l:List Nd)(tr:List Bool):Nat→List Bool×Nat
 |0=>([],0)
 |i+1=>bL4 l tr (l.length-1-i) (cR l tr i)
structure EvOk (l:List Nd)(tr:List Bool)(i:Nat):Prop where
 le:i≤l.length
 m:(cR l tr i).2=(evS (lv l) tr (l.drop (l.length-i))).length
 row:(cR l tr i).1.take (cR l tr i).2=(evS (lv l) tr (l.drop (l.length-i))).reverse
 fit:(cR l tr i).2≤(cR l tr i).1.length
 small:(cR l tr i).1.length≤i
theorem EvOk.zero (l:List Nd)(tr:List Bool):EvOk l tr 0:=⟨by omega,by simp[cR,evS],by simp[cR,evS],by simp[cR],by simp[cR]⟩
theorem aJ3 (n:Nd)(l:List Bool):kL n l.reverse=kL n l:=by simp only[kL,aZ1,List.length_reverse]
variable {c:Nat}{E:List Bool}
theorem cN6 :E.reverse.take (E.length-c)=(E.drop c).reverse:=by rw[List.reverse_drop]
theorem cN7 (h:c≤E.length):E.reverse.drop (E.length-c)=(E.take c).reverse:=by rw[List.reverse_take]
variable {i:Nat}{l:List Nd}
theorem EvOk.at_ {tr:List Bool}(hi:i<l.length):l.drop (l.length-(i+1))=l[l.length-1-i]'(by omega)::l.drop (l.length-i):=by grind[List.drop_eq_getElem_cons]
variable {tr:List Bool}
theorem EvOk.leaf (h:EvOk l tr i)(hi:i<l.length)(U:(l[l.length-1-i]'(by omega)).k=1):
  EvOk l tr (i+1)∧cR l tr (i+1)=(oF (cR l tr i).1 (cR l tr i).2 (tr.getD (lv (l.take (l.length-1-i))) false),(cR l tr i).2+1):=by
 have hp:l.length-1-i<l.length:=by omega
 have hg:l.getD (l.length-1-i) nd0=l[l.length-1-i]:=by simp[hp]
 have e:cR l tr (i+1)=(oF (cR l tr i).1 (cR l tr i).2 (tr.getD (lv (l.take (l.length-1-i))) false),(cR l tr i).2+1):=by
  simp only[cR,bL4,hg,B1 U]
 have hT:=uI l (l.length-1-i);have I:=EvOk.at_ (tr:=tr) hi;rw[show l.length-(i+1)=l.length-1-i from by omega]at I;have J:evS (lv l) tr (l.drop (l.length-(i+1)))=tr.getD (lv (l.take (l.length-1-i))) false::evS (lv l) tr (l.drop (l.length-i)):=by
  rw[show l.length-(i+1)=l.length-1-i from by omega,I,evS,B1 U,←I];congr 2;omega
 refine⟨⟨hi,?_,?_,?_,?_⟩,e⟩
 · rw[e,J];simp[h.m]
 · rw[e,J];simp only[DD];rw[aP3 h.fit,h.row]
 · rw[e];have:=h.fit;simp[oF];omega
 · rw[e];have:=h.fit;have:=h.small;simp[oF];omega
theorem EvOk.inner (ht:IsTree l)(h:EvOk l tr i)(hi:i<l.length)(hk:(l[l.length-1-i]'(by omega)).k≠1):
  (l[l.length-1-i]'(by omega)).c.toNat≤(cR l tr i).2∧EvOk l tr (i+1)∧
  cR l tr (i+1)=(oF (cR l tr i).1 ((cR l tr i).2-(l[l.length-1-i]'(by omega)).c.toNat) (kL (l[l.length-1-i]'(by omega)) (((cR l tr i).1.drop ((cR l tr i).2-(l[l.length-1-i]'(by omega)).c.toNat)).take (l[l.length-1-i]'(by omega)).c.toNat)),(cR l tr i).2-(l[l.length-1-i]'(by omega)).c.toNat+1):=by
 have hp:l.length-1-i<l.length:=by omega
 have hg:l.getD (l.length-1-i) nd0=l[l.length-1-i]:=by simp[hp]
 have e:cR l tr (i+1)=(oF (cR l tr i).1 ((cR l tr i).2-(l[l.length-1-i]'(by omega)).c.toNat) (kL (l[l.length-1-i]'(by omega)) (((cR l tr i).1.drop ((cR l tr i).2-(l[l.length-1-i]'(by omega)).c.toNat)).take (l[l.length-1-i]'(by omega)).c.toNat)),(cR l tr i).2-(l[l.length-1-i]'(by omega)).c.toNat+1):=by
  simp only[cR,bL4,hg,A7 hk]
 have I:=uJ ht (tr:=tr) hp;rw[show l.length-1-i+1=l.length-i from by omega]at I;obtain⟨_,_,_,c4⟩:=fM (ht.node _ (B5 hp));have c5:=c4 hk;have c6:1≤l[l.length-1-i].c.toNat:=by omega
 have hd:=EvOk.at_ (tr:=tr) hi;have hm:=h.m;have U:=h.row;have hf:=h.fit;have hs:=h.small;have J:evS (lv l) tr (l.drop (l.length-(i+1)))=kL l[l.length-1-i] ((evS (lv l) tr (l.drop (l.length-i))).take l[l.length-1-i].c.toNat)::(evS (lv l) tr (l.drop (l.length-i))).drop l[l.length-1-i].c.toNat:=by
  rw[hd,evS,A7 hk]
 generalize evS (lv l) tr (l.drop (l.length-i))=E at hm U I J;generalize l[l.length-1-i].c.toNat=c at*;have h1:(cR l tr i).1.take ((cR l tr i).2-c)=(E.drop c).reverse:=by
  rw[←cN6,←U,R1,hm,M6 (by omega)]
 have h2:((cR l tr i).1.drop ((cR l tr i).2-c)).take c=(E.take c).reverse:=by
  rw[←cN7 I,←U,BB,hm];congr 1;omega
 refine⟨by omega,⟨hi,?_,?_,?_,?_⟩,e⟩
 · rw[e,J];simp only[A8,G8];omega
 · rw[e,J];simp only[DD];rw[aP3 (by omega),h1,h2,aJ3]
 · rw[e];simp only;rw[oG (by omega)];omega
 · rw[e];simp only;rw[oG (by omega)];omega
theorem EvOk.fin (J:IsTree l)(h:EvOk l tr l.length):(cR l tr l.length).2=1∧ ∃I:0<(cR l tr l.length).1.length,eV l tr=(cR l tr l.length).1[0]:=by
 have hl:=aS5 (T:=lv l) (tr:=tr) l 1 J.node J.skip;have hm:=h.m;have U:=h.row;have hf:=h.fit;rw[U3,G2]at hm U;rw[hl]at hm;have I:0<(cR l tr l.length).1.length:=by omega
 refine⟨hm,I,?_⟩;have aa:=bD2 J;obtain⟨x,hx⟩: ∃x,evS (lv l) tr l=[x]:=by
  match hE:evS (lv l) tr l,hl with
  |[x],_=>exact⟨x,rfl⟩
 rw[hx,hm]at U;rw[eV,aa,hx];have:(cR l tr l.length).1[0]=x:=by
  have:=congrArg (·.head?) U;simpa[List.head?_take,List.head?_eq_getElem?,I]using this
 rw[this];rfl
end Go.Pl
namespace Go.Proofs.YthedbjfipmkpiaaGreatDoor
open Go Go.Hl Go.Pl
theorem cX7 (l:List Nd):bO6 Tryz.prog 42 79 [.slc (l.map Nd.cv)] [(26,.slc (l.map Nd.cv))]:=by
 refine FW Tryz.func42 ?_;have F:=rI;refine AU ?_;refine aE ?_;simp only[eR,Tryz.results42,eF,eQ,dY,↓sP,sA,tyS,simprocAttr,rI];refine xA (gf:=79) (bs:=[(26,.slc (l.map Nd.cv))]) (ids:=[0]) rfl (by simp) (by decide) ?_ ?_
 ·
  intro j x hx
  match j,hx with
  |0,hx=>cases hx;rfl
 intro x hx;simp only[E0,H7,N6]at hx;subst hx;exact congrArg CV.slc (denilL_Nd l)
theorem bE0 (n:Nd)(L:List Bool)(lo m:Nat)(hl:L.length<2^40)(h0:0<L.length)(hlo:lo≤m)(hm:m≤L.length):
  HGe Tryz.prog 43 [.c n.cv,.osl 0 L.length lo 1 m] [.row 4 1 (L.map bC)] (fun r ag=>r= .c (.bool (kL n ((L.drop lo).take (m-lo))))∧ag=[.row 4 1 (L.map bC)]):=by
 obtain⟨V,hV⟩: ∃V,V=(L.drop lo).take (m-lo):=⟨_,rfl⟩;have an:V.length=m-lo:=by rw[hV];simp;omega
 rw[←hV];have ae:List.take (m-lo) (List.drop lo (L.map bC))=V.map bC:=by rw[hV,S6,P3]
 refine bO (args:=[.c n.cv,.osl 0 L.length lo 1 m]) Tryz.func43 rfl (by kernel_rfl) (dQ rfl (by simp[cV]) (by simp)) (C7 rfl) ?_;have e0:lst [.row 4 1 (L.map bC)]=fob [(0,.row 4 1 (L.map bC))]:=by
  funext i
  match i with
  |0=>rfl
  |i+1=>simp[lst,fob,upd]
 show Hw _ _ 1 _ _ _ (lst _) 1;rw[e0];have F:=rI;refine RF ?_;refine RF ?_;refine aC fun K J=>?_;refine R0 ?_ (e:=fun _ h_=>by simp only[↓sP,sA,tyS,simprocAttr,rI,ae,A0,h0,hlo,hm];exact AX h_);refine aL ?_;refine bB (α:={i:Nat//i≤V.length}) (fun i=>(fin [(1,.osl 0 L.length lo 1 m),(2,.ptr 1 0),(5,.c (.int .i64 (cnt (V.take i.1):Nat))),(8,.osl 0 L.length lo 1 m),(9,.c (.int .i64 V.length)),(10,.c (.int .i64 i.1))],fob [(0,.row 4 1 (L.map bC)),(1,.box 89 (.c n.cv))])) 100 (fun i=>V.length-i.1) ⟨0,by omega⟩ (fG (by simp[cnt])) ?_;rintro⟨i,hi⟩;have aj:cnt (V.take i)≤i:=by have:=bI7 (V.take i);simp at this;omega
 refine RF ?_;refine aC fun K J=>?_;refine aJ (b:=decide ((i:Int)<V.length)) rfl (fun I=>?_) (fun I=>?_)
 ·
  have U:i<V.length:=by simpa using I
  have aa:=nJ (l:=V) (k:=i) U;have af:IntKind.i64.wrap ((cnt (V.take i):Int)+1)=((cnt (V.take i)+1:Nat):Int):=by rw[cC _ (by omega)];rfl
  have ab:lo+i<L.length:=by omega
  have ad:L[lo+i]=V[i]:=by simp[hV]
  have ak:lo+i<(L.map bC).length:=by simpa using ab
  have ah:i<m-lo:=by omega
  clear I;refine aG ?_;refine TQ rI ?_;refine AX (J _ _ _ ?_);clear J K;refine aC fun K J=>?_;refine aL ?_;refine R0 ?_ (e:=fun _ h_=>by simp only[↓sP,sA,tyS,simprocAttr,rI,A0,A1,A4,h0,hm,ah,ab,aW ab,bC];exact AX h_);refine RF ?_;refine aJ (b:=L[lo+i]) rfl (fun I=>?_) (fun I=>?_)
  · rw[ad]at I;rw[B1 (by simpa[U]using I)]at aa;refine aM (by kernel_rfl) ?_;simp only[↓sP,sA,tyS,simprocAttr,rI,af];refine AX (J _ _ _ ?_);clear J K;refine aM (by kernel_rfl) ?_;simp only[↓sP,sA,tyS,simprocAttr,rI,cC ((i:Int)+1) (by omega)];refine⟨⟨i+1,U⟩,fG (by simp[aa]),?_⟩;show V.length-(i+1)<V.length-i;omega
  rw[ad]at I;rw[A7 (by simp[U,I])]at aa;refine aG ?_;refine TQ rI ?_;refine AX (J _ _ _ ?_);clear J K;refine aM (by kernel_rfl) ?_;simp only[↓sP,sA,tyS,simprocAttr,rI,cC ((i:Int)+1) (by omega)];refine⟨⟨i+1,U⟩,fG (by simp[aa]),?_⟩;show V.length-(i+1)<V.length-i;omega
 refine aV ?_;refine TQ rI ?_;clear J K;refine AX (J _ _ _ ?_);clear J K;refine aC fun K J=>?_;have ai:i=V.length:=by simp only[B7]at I;omega
 subst ai;rw[C6]at aj⊢;clear I;refine RF ?_;refine aL ?_;refine RF ?_;refine aJ (b:=(n.k==2)) rfl (fun I=>?_) (fun I=>?_)
 ·
  refine RS ?_;iterate 5 refine S0 ?_ (e:=fun _ h_=>by simp only[sH,↓sP,sA,tyS,simprocAttr,rI,ae,A0,h0,hlo,hm];exact AX h_)
  refine RE ?_;refine aE ?_;simp only[eR,Tryz.results43,eF,eQ,dY,↓sP,sA,tyS,simprocAttr,rI];have h2:n.k=2:=by simpa using I
  exact eM [] [] (.c (.bool ((cnt V:Int)==V.length))) [.row 4 1 (L.map bC)] rfl (by simp) ⟨⟨trivial,by simp,_,rfl,rfl⟩,trivial⟩ rfl N3 (by simp) (by simp) ⟨by rw[kL,B1 h2];congr 2;rw[K5];simp;omega,rfl⟩
 have h2:n.k≠2:=by simpa using I
 refine RF ?_;refine aJ (b:=(n.k==3)) rfl (fun I=>?_) (fun I=>?_)
 ·
  refine RF ?_;refine aE ?_;simp only[eR,Tryz.results43,eF,eQ,dY,↓sP,sA,tyS,simprocAttr,rI];have h3:n.k=3:=by simpa using I
  exact eM [] [] (.c (.bool (decide ((1:Int)≤cnt V)))) [.row 4 1 (L.map bC)] rfl (by simp) ⟨⟨trivial,by simp,_,rfl,rfl⟩,trivial⟩ rfl List.nodup_nil (by simp) (by simp) ⟨by rw[kL,if_neg h2,if_pos h3];congr 2;rw[K5];simp;omega,rfl⟩
 refine aG ?_;refine TQ rI ?_;refine AX (J _ _ _ ?_);clear J K;refine AU ?_;refine aE ?_;simp only[eR,Tryz.results43,eF,eQ,dY,↓sP,sA,tyS,simprocAttr,rI];have h3:n.k≠3:=by simpa using I
 exact eM [] [] (.c (.bool (decide (n.n≤cnt V)))) [.row 4 1 (L.map bC)] rfl (by simp) ⟨⟨trivial,by simp,_,rfl,rfl⟩,trivial⟩ rfl List.nodup_nil (by simp) (by simp) ⟨by rw[kL,if_neg h2,if_neg h3],rfl⟩
theorem bD (id n sz m:Nat):(cI id n sz m).sto=true:=by unfold cI;split<;>rfl
theorem aT (id n sz m:Nat):(cI id n sz m).cells=1:=by unfold cI;split<;>rfl
theorem aS (id n sz m:Nat):(cI id n sz m).toC=none:=by unfold cI;split<;>rfl
theorem aG6 (id n sz m:Nat):(cI id n sz m= .junk)=False:=by unfold cI;split<;>simp
theorem cL (id n sz:Nat):cI id n sz n= .own id n:=by unfold cI;rw[B1 rfl]
variable {m:Nat}
theorem bX {id n sz:Nat}(h:m≠n):cI id n sz m= .osl id n 0 sz m:=by unfold cI;rw[A7 h]
theorem cA {M:Nat→Prop}{id n sz:Nat}(h:M id):(cI id n sz m).men M:=by unfold cI;split<;>exact h
theorem cX8 (l:List Nd)(hn: ∀n∈l,n.q.t.length<2^63)(tr:List Bool)(bd:tr.length<2^63):bM Tryz.prog 18 [.slc (l.map Nd.cv),.slc (tr.map bC)] (fun v=>v= .bool (eV l tr)):=by
 refine FW Tryz.func18 ?_;have F:=rI;refine AU ?_;refine SCF (xQ l hn) ?_;iterate 3 refine SF ?_
 refine RE ?_;refine aC fun K hK=>?_;refine RF ?_;refine aJ (b:=(((eB l).length:Int)==0)) rfl (fun hb=>?_) (fun hb=>?_)
 ·
  refine RF ?_;refine aE ?_;simp only[eR,Tryz.results18,eF,eQ,dY,↓sP,sA,tyS,simprocAttr,rI];have af:eB l=[]:=by simpa using hb
  have ba:eJ l=false:=by
   cases h:eJ l with
   |false=>rfl
   |true=>
    have h1:=aZ0 (fN h);rw[mI h]at af;have h2:=iO l 0;rw[af]at h2;simp at h2;omega
  exact aF [] (.bool false) rfl (by rw[eV,ba];rfl)
 have az:eJ l=true:=by
  cases h:eJ l with
  |true=>rfl
  |false=>rw[yX h]at hb;simp at hb
 have ht:=fN az;have hl:=ht.len;have hlen:(eB l).length=lv l:=by rw[mI az,iO]
 rw[hlen];clear hb;refine aG ?_;refine TQ rI ?_;refine AX (hK _ _ _ ?_);clear hK K;refine RF ?_;refine aC fun K hK=>?_;refine aC fun K hK=>Rg ?_;refine S0 ?_ (e:=fun _ h_=>by simp only[sH,↓sP,sA,tyS,simprocAttr,rI,denilL_Nd,qG,kE,List.range',B8,F2];exact AX h_);refine HS rfl rfl fun K' J=>?_;simp only[sH,↓sP,sA,tyS,simprocAttr,rI,denilL_Nd,qG,kE,List.range',B8,F2];refine wZ (args:=[_]) (cX7 l) (by simp) ⟨rfl,rfl,rfl,rfl⟩ ?_;refine AX (J _ _ ?_);clear J K';simp only[sE,↓reduceIte,simprocAttr,rI];refine AX (hK _ _ _ ?_);clear hK K;refine aL ?_;refine dV 36 0 4 1 rfl rfl rfl rfl ?_;refine aM2 (ids:=[44]) (fin [(3,.ptr 0 0),(5,.ptr 20 0),(6,.ptr 36 0)]) (fun i=>fob [(0,.box 37 (.c (.slc (tr.map bC)))),(20,.box 3 (.c (.int .i64 (lv (l.take (l.length-i)):Nat)))),(36,.box 37 (cI 48 (cR l tr i).1.length 1 (cR l tr i).2)),(48,.row 4 1 ((cR l tr i).1.map bC))]) 20000 (fun i=>EvOk l tr i) (EvOk.zero l tr) (cA1 l (by omega)) rfl rfl (by decide) ?_ ?_ ?_ ?_ ?_ rfl rfl ?_ ?_
 ·
  intro j x hx
  match j,hx with
  |0,hx=>cases hx;rfl
 · exact fG (by simp[qG,cR,cL,C6])
 · intro id hid;simp only[E0,H7,N6]at hid;subst hid;rfl
 · intro x hx;obtain⟨p,_,rfl⟩:=H0.1 hx;rfl
 · intro p hp;simp only[E0,H7,N6]at hp;rcases hp with rfl|rfl<;>exact C7 rfl
 ·
  intro i hi hΦ K hK;have ay:i<l.length:=by rw[←vX l];exact hi
  have hp:l.length-1-i<l.length:=by omega
  rw[cM9 hi hp];simp only[aC9];obtain⟨w,hw⟩: ∃w,w=(cR l tr i).1:=⟨_,rfl⟩;obtain⟨m,hm⟩: ∃m,m=(cR l tr i).2:=⟨_,rfl⟩;have ao:=hΦ.fit;have aq:=hΦ.small;rw[←hw,←hm]at ao;rw[←hw]at aq;rw[←hw,←hm];refine aM (by kernel_rfl) ?_;refine TQ rI ?_;refine AX (hK _ _ _ ?_);clear hK K;refine aL ?_;refine aC fun K hK=>?_;refine RF ?_;refine aJ (b:=(l[l.length-1-i].k==1)) rfl (fun hb=>?_) (fun hb=>?_)
  ·
   have ak:l[l.length-1-i].k=1:=by simpa using hb
   obtain⟨aj,U⟩:=hΦ.leaf ay ak;rw[←hw,←hm]at U;have af:=zT hp;rw[B1 ak,show l.length-1-i+1=l.length-i from by omega]at af;have bf:=aG5 l (l.length-1-i);have an:IntKind.i64.wrap ((lv (l.take (l.length-i)):Int)-1)=((lv (l.take (l.length-1-i)):Nat):Int):=by rw[af,cC _ (by omega)];omega
   obtain⟨x,hx⟩: ∃x,x=lv (l.take (l.length-1-i)):=⟨_,rfl⟩;have ai:l.length-(i+1)=l.length-1-i:=by omega
   rw[←hx]at an U;clear hb;have F:=aI rI an;refine RF ?_;by_cases ad:x<tr.length
   ·
    by_cases I:m=w.length
    ·
     subst I;have hg:tr.getD x false=tr[x]:=by simp[ad]
     refine aC fun K hK=>dT mixed [(0,[],[]),(1,[],[]),(2,[],[]),(3,[],[]),(4,[],[]),(5,[],[]),(6,[],[]),(7,[],[]),(8,[],[]),(9,[],[]),(10,[],[]),(11,[],[]),(12,[],[]),(13,[],[])] [0,0,0,4,14,30,62,62,254,510,1022,2046,4095,8191] (by kernel_rfl) (by kernel_rfl) (by kernel_rfl) (by kernel_rfl) rfl (by kernel_rfl) ?_;iterate 14 refine WG0 ?_ (e:=fun _ h_=>by simp only[sH,↓sP,sA,tyS,simprocAttr,rI,A1,A4,ad,aW ad,bC,cL,bD,aT,aS];exact AX h_)
     simp only[sE,↓reduceIte,simprocAttr,rI];refine AX (hK _ _ _ ?_);clear hK K;refine aV ?_;refine TQ rI ?_;clear hK K;rw[hg,aP2]at U;refine⟨(show Fits 20000 _ _ (fin []) _ 20000 from bA (by omega) trivial ?_),aj⟩;rw[U,ai,←hx];simp[cL,bC]
    have hg:tr.getD x false=tr[x]:=by simp[ad]
    have aa:m+1≤w.length:=by omega
    have ae:0<w.length:=by omega
    have hrow:(oF w m tr[x]).map bC=(w.map bC).take m++[.bool tr[x]]++(w.map bC).drop (m+1):=by simp[oF,S6,P3,bC]
    refine aC fun K hK=>dT mixed [(0,[],[]),(1,[],[]),(2,[],[]),(3,[],[]),(4,[],[]),(5,[],[]),(6,[],[]),(7,[],[]),(8,[],[]),(9,[],[]),(10,[],[]),(11,[],[]),(12,[],[]),(13,[],[])] [0,0,0,4,14,30,62,62,254,510,1022,2046,4095,8191] (by kernel_rfl) (by kernel_rfl) (by kernel_rfl) (by kernel_rfl) rfl (by kernel_rfl) ?_;iterate 12 refine WG0 ?_ (e:=fun _ h_=>by simp only[sH,↓sP,sA,tyS,simprocAttr,rI,A1,A4,ad,aW ad,bC,bX I,bD,aT,aS,ae,aa];exact AX h_)
    refine bI (g:=none) rfl rfl fun K' J=>?_;simp only[sN,↓hopH.eq_def,sH,↓sP,sA,tyS,simprocAttr,rI,A1,A4,ad,aW ad,bC,bX I,bD,aT,aS,ae,aa];refine AX (J _ _ ?_);clear J K';refine WG0 ?_ (e:=fun _ h_=>by simp only[sH,↓sP,sA,tyS,simprocAttr,rI,A1,A4,ad,aW ad,bC,bX I,bD,aT,aS,ae,aa];exact AX h_);simp only[sE,↓reduceIte,simprocAttr,rI];refine AX (hK _ _ _ ?_);clear hK K;refine aV ?_;refine TQ rI ?_;clear hK K;rw[hg]at U;refine⟨(show Fits 20000 _ _ (fin []) _ 20000 from bA (by omega) trivial ?_),aj⟩;rw[U,ai,←hx];simp[oG aa,hrow,cA,aS]
   by_cases I:m=w.length
   ·
    subst I;have hg:tr.getD x false=false:=by simp[B4,I5 (AM ad)]
    have ag:decide ((x:Int)<tr.length)=false:=by simp;omega
    refine aC fun K hK=>dT mixed [(0,[],[]),(1,[],[]),(2,[],[]),(3,[],[]),(4,[],[]),(5,[],[]),(6,[],[]),(7,[],[]),(8,[],[]),(9,[],[]),(10,[],[]),(11,[],[]),(12,[],[]),(13,[],[])] [0,0,0,4,14,30,62,62,254,510,1022,2046,4095,8191] (by kernel_rfl) (by kernel_rfl) (by kernel_rfl) (by kernel_rfl) rfl (by kernel_rfl) ?_;have F:=aI rI (aI ag (aI @cL (aI @bD (aI @aT @aS))));iterate 14 refine WGF ?_
    simp only[sE,↓reduceIte,simprocAttr,rI];refine AX (hK _ _ _ ?_);clear hK K;refine aV ?_;refine TQ rI ?_;clear hK K;rw[hg,aP2]at U;refine⟨(show Fits 20000 _ _ (fin []) _ 20000 from bA (by omega) trivial ?_),aj⟩;rw[U,ai,←hx];simp[cL,bC]
   have hg:tr.getD x false=false:=by simp[B4,I5 (AM ad)]
   have ag:decide ((x:Int)<tr.length)=false:=by simp;omega
   have aa:m+1≤w.length:=by omega
   have ae:0<w.length:=by omega
   have hrow:(oF w m false).map bC=(w.map bC).take m++[.bool false]++(w.map bC).drop (m+1):=by simp[oF,S6,P3,bC]
   refine aC fun K hK=>dT mixed [(0,[],[]),(1,[],[]),(2,[],[]),(3,[],[]),(4,[],[]),(5,[],[]),(6,[],[]),(7,[],[]),(8,[],[]),(9,[],[]),(10,[],[]),(11,[],[]),(12,[],[]),(13,[],[])] [0,0,0,4,14,30,62,62,254,510,1022,2046,4095,8191] (by kernel_rfl) (by kernel_rfl) (by kernel_rfl) (by kernel_rfl) rfl (by kernel_rfl) ?_;iterate 12 refine WG0 ?_ (e:=fun _ h_=>by simp only[sH,↓sP,sA,tyS,simprocAttr,rI,ag,bX I,bD,aT,aS,ae,aa];exact AX h_)
   refine bI (g:=none) rfl rfl fun K' J=>?_;simp only[sN,↓hopH.eq_def,sH,↓sP,sA,tyS,simprocAttr,rI,ag,bX I,bD,aT,aS,ae,aa];refine AX (J _ _ ?_);clear J K';refine WG0 ?_ (e:=fun _ h_=>by simp only[sH,↓sP,sA,tyS,simprocAttr,rI,ag,bX I,bD,aT,aS,ae,aa];exact AX h_);simp only[sE,↓reduceIte,simprocAttr,rI];refine AX (hK _ _ _ ?_);clear hK K;refine aV ?_;refine TQ rI ?_;clear hK K;rw[hg]at U;refine⟨(show Fits 20000 _ _ (fin []) _ 20000 from bA (by omega) trivial ?_),aj⟩;rw[U,ai,←hx];simp[oG aa,hrow,cA,aS]
  have ak:l[l.length-1-i].k≠1:=by simpa using hb
  obtain⟨bb,aj,U⟩:=hΦ.inner ht ay ak;rw[←hw,←hm]at U;rw[←hm]at bb;obtain⟨c1,c2,c3,c4⟩:=fM (ht.node _ (B5 hp));have c5:=c4 ak;have af:=zT hp;rw[A7 ak,L4,show l.length-1-i+1=l.length-i from by omega]at af;have ai:l.length-(i+1)=l.length-1-i:=by omega
  obtain⟨f,hf⟩: ∃f,f=m-l[l.length-1-i].c.toNat:=⟨_,rfl⟩;have bc:m-f=l[l.length-1-i].c.toNat:=by omega
  rw[←hf,←bc]at U;have aw:IntKind.i64.wrap ((m:Int)-l[l.length-1-i].c)=(f:Int):=by rw[cC _ (by omega)];omega
  have ax:f+1≤w.length:=by omega
  have ab:f≤w.length:=by omega
  have ah:f≤m:=by omega
  have ae:0<w.length:=by omega
  obtain⟨h,hh⟩: ∃h,h=kL l[l.length-1-i] ((w.drop f).take (m-f)):=⟨_,rfl⟩;rw[←hh]at U;have hrow:(oF w f h).map bC=(w.map bC).take f++[.bool h]++(w.map bC).drop (f+1):=by simp[oF,S6,P3,bC]
  clear hb;refine aG ?_;refine TQ rI ?_;refine AX (hK _ _ _ ?_);clear hK K;by_cases I:m=w.length
  ·
   rw[←I]at ae ax ab;refine RS ?_;iterate 6 refine S0 ?_ (e:=fun _ h_=>by simp only[sH,↓sP,sA,tyS,simprocAttr,rI,cL,←I,A0,aw];exact AX h_)
   refine RE ?_;refine dT mixed [(0,[],[]),(1,[],[]),(2,[],[]),(3,[],[]),(4,[],[]),(5,[],[]),(6,[],[]),(7,[],[0,1,2]),(8,[],[]),(9,[],[]),(10,[],[])] [0,0,3,0,0,0,48,120,248,511,1023] (by kernel_rfl) (by kernel_rfl) (by kernel_rfl) (by kernel_rfl) rfl (by kernel_rfl) ?_;iterate 7 refine WG0 ?_ (e:=fun _ h_=>by simp only[sH,↓sP,sA,tyS,simprocAttr,rI,cL,bD,aT,aS,←I,A0,A1,H1,ab];exact AX h_)
   refine sF (g:=none) rfl rfl fun K' J=>?_;simp only[sN,↓hopH.eq_def,sH,↓sP,sA,tyS,simprocAttr,rI,cL,bD,aT,aS,←I,A0,A1,H1,ab];refine aZ5 [48] (bE0 l[l.length-1-i] w f m (by omega) (by omega) (by omega) (by omega)) (by first|rfl|(rw[←I];rfl)) ⟨rfl,trivial⟩ (by simp) ?_ ?_ ?_ ?_ ?_
   ·
    intro j hj
    match j,hj with
    |0,_=>exact .inr ⟨by decide,fun r au h=>by rw[h.2]⟩
   · exact⟨rfl,rfl,rfl,rfl⟩
   · simp[cV]
   · simp
   rintro r au ⟨rfl,rfl⟩;rw[←hh,show∀n ob,iL (sub [48] n) ob 0 [.row 4 1 (w.map bC)]=upd ob 48 (some (.row 4 1 (w.map bC)))from fun _ _=>rfl,show∀n b,HV.ren (sub [48] n) (.c b)= .c b from fun _ _=>rfl];refine AX (J _ _ ?_);clear J K';refine WG0 ?_ (e:=fun _ h_=>by simp only[sH,↓sP,sA,tyS,simprocAttr,rI,cL,bD,aT,aS,←I,A0,A1,H1,ab];exact AX h_);refine bI (g:=none) rfl rfl fun K' J=>?_;simp only[sN,↓hopH.eq_def,sH,↓sP,sA,tyS,simprocAttr,rI,cL,bD,aT,aS,←I,A0,A1,H1,ab];refine AX (J _ _ ?_);clear J K';refine WG0 ?_ (e:=fun _ h_=>by simp only[sH,↓sP,sA,tyS,simprocAttr,rI,cL,bD,aT,aS,←I,A0,A1,H1,ab];exact AX h_);simp only[sE,↓reduceIte,simprocAttr,rI];refine⟨(show Fits 20000 _ _ (fin []) _ 20000 from bA (by omega) trivial ?_),aj⟩;rw[U,ai,af];simp[oG (show f+1≤w.length by omega),hrow,cA,aS,←I]
  refine RS ?_;iterate 6 refine S0 ?_ (e:=fun _ h_=>by simp only[sH,↓sP,sA,tyS,simprocAttr,rI,bX I,A0,ae,ao,I1,E1,G8,H6,M6 ao,aw];exact AX h_)
  refine RE ?_;refine dT mixed [(0,[],[]),(1,[],[]),(2,[],[]),(3,[],[]),(4,[],[]),(5,[],[]),(6,[],[]),(7,[],[0,1,2]),(8,[],[]),(9,[],[]),(10,[],[])] [0,0,3,0,0,0,48,120,248,511,1023] (by kernel_rfl) (by kernel_rfl) (by kernel_rfl) (by kernel_rfl) rfl (by kernel_rfl) ?_;iterate 2 refine WG0 ?_ (e:=fun _ h_=>by simp only[sH,↓sP,sA,tyS,simprocAttr,rI,bD,aT,aS,bX I,A0,A1,H1,ab,ah];exact AX h_)
  refine bI (g:=none) rfl rfl fun K' J=>?_;simp only[sN,↓hopH.eq_def,sH,↓sP,sA,tyS,simprocAttr,rI,bD,aT,aS,bX I,A0,A1,H1,ab,ah];refine AX (J _ _ ?_);clear J K';iterate 3 refine WG0 ?_ (e:=fun _ h_=>by simp only[sH,↓sP,sA,tyS,simprocAttr,rI,bD,aT,aS,bX I,A0,A1,H1,ab,ah];exact AX h_)
  refine bI (g:=none) rfl rfl fun K' J=>?_;simp only[sN,↓hopH.eq_def,sH,↓sP,sA,tyS,simprocAttr,rI,bD,aT,aS,bX I,A0,A1,H1,ab,ah];refine AX (J _ _ ?_);clear J K';refine sF (g:=none) rfl rfl fun K' J=>?_;simp only[sN,↓hopH.eq_def,sH,↓sP,sA,tyS,simprocAttr,rI,bD,aT,aS,bX I,A0,A1,H1,ab,ah];refine aZ5 [48] (bE0 l[l.length-1-i] w f m (by omega) (by omega) (by omega) (by omega)) (by first|rfl|(rw[←I];rfl)) ⟨rfl,trivial⟩ (by simp) ?_ ?_ ?_ ?_ ?_
  ·
   intro j hj
   match j,hj with
   |0,_=>exact .inr ⟨by decide,fun r au h=>by rw[h.2]⟩
  · exact⟨rfl,rfl,rfl,rfl⟩
  · simp[cV]
  · simp
  rintro r au ⟨rfl,rfl⟩;rw[←hh,show∀n ob,iL (sub [48] n) ob 0 [.row 4 1 (w.map bC)]=upd ob 48 (some (.row 4 1 (w.map bC)))from fun _ _=>rfl,show∀n b,HV.ren (sub [48] n) (.c b)= .c b from fun _ _=>rfl];refine AX (J _ _ ?_);clear J K';refine WG0 ?_ (e:=fun _ h_=>by simp only[sH,↓sP,sA,tyS,simprocAttr,rI,bD,aT,aS,bX I,A0,A1,H1,ab,ah];exact AX h_);refine bI (g:=none) rfl rfl fun K' J=>?_;simp only[sN,↓hopH.eq_def,sH,↓sP,sA,tyS,simprocAttr,rI,bD,aT,aS,bX I,A0,A1,H1,ab,ah];refine AX (J _ _ ?_);clear J K';refine WG0 ?_ (e:=fun _ h_=>by simp only[sH,↓sP,sA,tyS,simprocAttr,rI,bD,aT,aS,bX I,A0,A1,H1,ab,ah];exact AX h_);simp only[sE,↓reduceIte,simprocAttr,rI];refine⟨(show Fits 20000 _ _ (fin []) _ 20000 from bA (by omega) trivial ?_),aj⟩;rw[U,ai,af];simp[oG ax,hrow,cA,aS]
 intro hΦ;simp only[sE,↓reduceIte,simprocAttr,rI];have ar:=hΦ;rw[vX]at ar;obtain⟨h1,h0,h2⟩:=ar.fin ht;rw[vX,h1];obtain⟨w,hw⟩: ∃w,w=(cR l tr l.length).1:=⟨_,rfl⟩;rw[←hw]at h0;have h3:eV l tr=w[0]:=by rw[h2];simp only[hw]
 rw[←hw];refine AX (hK _ _ _ ?_);clear hK K;by_cases an:w.length=1
 ·
  rw[an];refine RS ?_;iterate 4 refine S0 ?_ (e:=fun _ h_=>by simp only[sH,↓sP,sA,tyS,simprocAttr,rI,cL,aW h0,bC,BU];exact AX h_)
  refine RE ?_;refine aE ?_;simp only[eR,Tryz.results18,eF,eQ,dY,↓sP,sA,tyS,simprocAttr,rI];exact aF [] (.bool w[0]) rfl (by rw[h3])
 refine RS ?_;iterate 4 refine S0 ?_ (e:=fun _ h_=>by simp only[sH,↓sP,sA,tyS,simprocAttr,rI,bX (U0 an),aW h0,bC,h0];exact AX h_)
 refine RE ?_;refine aE ?_;simp only[eR,Tryz.results18,eF,eQ,dY,↓sP,sA,tyS,simprocAttr,rI];exact aF [] (.bool w[0]) rfl (by rw[h3])
theorem cN8 (S:List Sp)(hl:S.length<2^40):bM Tryz.prog 19 [.slc (S.map Sp.cv)] (fun v=>v= .slc ((cJ S).map bC)):=by
 refine FW Tryz.func19 ?_;have F:=rI;refine RF ?_;refine RF ?_;refine aC fun K I=>?_;refine RF ?_;refine aL ?_;refine eH 3 0 4 1 rfl rfl rfl rfl ?_;refine bB (α:={i:Nat//i≤S.length}) (fun i=>(fin [(3,.own 20 i.1),(6,.c (.slc (S.map Sp.cv))),(7,.c (.int .i64 S.length)),(8,.c (.int .i64 i.1))],fob [(20,.row 4 1 ((cJ (S.take i.1)).map bC))])) 100 (fun i=>S.length-i.1) ⟨0,by omega⟩ (fG (by simp[cJ])) ?_;rintro⟨i,hi⟩;have U:(cJ (S.take i)).length=i:=by simp[cJ];omega
 refine RF ?_;refine aC fun K I=>?_;refine aJ (b:=decide ((i:Int)<S.length)) rfl (fun hb=>?_) (fun hb=>?_)
 ·
  have J:i<S.length:=by simpa using hb
  have ab:cJ (S.take (i+1))=cJ (S.take i)++[S[i].h]:=by rw[A5 J];unfold cJ;rw[C5];rfl
  clear hb;refine aG ?_;refine TQ rI ?_;refine AX (I _ _ _ ?_);clear I K;refine aC fun K I=>?_;refine aL ?_;refine RS ?_;have F:=aI rI (aI @A1 (aI @A4 (aI J (nM J))));refine AU ?_;refine Rg ?_;have F:=aI rI U;refine AU ?_;simp only[sE,↓reduceIte,simprocAttr,rI];refine AX (I _ _ _ ?_);clear I K;refine aM (by kernel_rfl) ?_;simp only[↓sP,sA,tyS,simprocAttr,rI,cW i];refine⟨⟨i+1,by omega⟩,(fG (by simp[ab,bC,U])),?_⟩;show S.length-(i+1)<S.length-i;omega
 have aa:i=S.length:=by simp at hb;omega
 subst aa;refine aV ?_;refine TQ rI ?_;clear I K;refine AX (I _ _ _ ?_);clear I K;refine RF ?_;refine aE ?_;simp only[eR,Tryz.results19,eF,eQ,dY,↓sP,sA,tyS,simprocAttr,rI];have ad:(cJ S).length=S.length:=by simp[cJ]
 exact aF [20] (.slc ((cJ S).map bC)) (by simp[ad,C6]) rfl
theorem cA2 (l:List Nat)(x:Nat)(hl:l.length<2^40):bM Tryz.prog 103 [.slc (l.map iC),.int .i64 x] (fun v=> ∀k,(∀j,j<k→l[j]? ≠some x)→l[k]? =some x→v= .int .i64 (k:Nat)):=by
 refine FW Tryz.func103 ?_;have F:=rI;refine RF ?_;refine aC fun K I=>?_;refine RF ?_;refine aL ?_;refine bB (α:={i:Nat//i≤l.length∧ ∀j,j<i→l[j]? ≠some x}) (fun i=>(fin [(0,.c (.slc (l.map iC))),(1,.c (.int .i64 x)),(7,.c (.int .i64 l.length)),(8,.c (.int .i64 i.1))],fob [])) 100 (fun i=>l.length-i.1) ⟨0,by omega,fun j h=>by omega⟩ (fF) ?_;rintro⟨i,hi,aa⟩;refine RF ?_;refine aC fun K I=>?_;refine aJ (b:=decide ((i:Int)<l.length)) rfl (fun U=>?_) (fun U=>?_)
 ·
  have J:i<l.length:=by simpa using U
  clear U;refine aG ?_;refine TQ rI ?_;refine AX (I _ _ _ ?_);clear I K;refine aC fun K I=>?_;refine aL ?_;refine RF ?_;refine RS ?_;iterate 6 refine S0 ?_ (e:=fun _ h_=>by simp only[sH,↓sP,sA,tyS,simprocAttr,rI,A1,A4,J,aW J,iC];exact AX h_)
  refine RE ?_;refine aJ (b:=((x:Int)==(l[i]:Int))) rfl (fun U=>?_) (fun U=>?_)
  ·
   refine RF ?_;refine aE ?_;simp only[eR,Tryz.results103,eF,eQ,dY,↓sP,sA,tyS,simprocAttr,rI];have hx:l[i]=x:=by
    have:(x:Int)=l[i]:=by simpa using U
    omega
   exact aF [] (.int .i64 (i:Nat)) rfl (fun k h1 h2=>by
    have e1: ¬i<k:=fun h=>h1 i h (by rw[A9 J,hx]);have e2: ¬k<i:=fun h=>aa k h h2;rw[show k=i by omega])
  refine aG ?_;refine TQ rI ?_;refine AX (I _ _ _ ?_);clear I K;refine aM (by kernel_rfl) ?_;simp only[↓sP,sA,tyS,simprocAttr,rI,cW i];refine⟨⟨i+1,by omega,fun j h=>?_⟩,fF,?_⟩
  ·
   by_cases e:j=i
   ·
    subst e;have hx: ¬(x:Int)=l[j]:=by simpa using U
    rw[A9 J];intro h;cases h;exact hx rfl
   exact aa j (by omega)
  show l.length-(i+1)<l.length-i;omega
 have ab:i=l.length:=by simp at U;omega
 subst ab;refine aV ?_;refine TQ rI ?_;clear I K;refine AX (I _ _ _ ?_);clear I K;refine RF ?_;refine aE ?_;simp only[eR,Tryz.results103,eF,eQ,dY,↓sP,sA,tyS,simprocAttr,rI];exact aF [] (.int .i64 (-1)) rfl (fun k h1 h2=>by
  have:=(H3.1 h2).1;exact absurd h2 (aa k this))
theorem tP (id n sz m:Nat):(cI id n sz m).norm=cI id n sz m:=by unfold cI;split<;>rfl
theorem lP {N:Nat→Nat}(id n sz m:Nat):(cI id n sz m).ren N=cI (N id) n sz m:=by unfold cI;split<;>rfl
variable {ob:Ob}
theorem vY (m n:Nat){L:List CV}(h:ob 1=some (.row 41 4 L)):(cI 1 n 4 m).close ob []=cI 1 n 4 m:=by
 unfold cI;split<;>simp
abbrev pvb (l:List Nd)(S:List Sp)(X:HV):HV:= .agg [.c (.slc (l.map Nd.cv)),.c (.slc ((eB l).map iC)),.c (.slc (S.map Sp.cv)),X]
abbrev osP (l:List Nd)(S:List Sp)(W:List Ln)(m:Nat):List HO:=[.box 80 (pvb l S (cI 1 W.length 4 m)),.row 41 4 (W.map Ln.cv)]
def qQ (W:List Ln)(m:Nat)(x:Ln):List Ln:=W.take m++[x]++W.drop (m+1)
variable {W:List Ln}
theorem mJ (h:m≤W.length)(x:Ln):(qQ W m x).length=max W.length (m+1):=by simp[qQ];omega
theorem aP4 (W:List Ln)(x:Ln):qQ W W.length x=W++[x]:=by simp[qQ]
theorem xS (h:m≤W.length)(x:Ln):(qQ W m x).take (m+1)=W.take m++[x]:=by
 unfold qQ;rw[R5 (by simp;omega),C8 (by simp;omega)]
theorem bE1 (W:List Ln)(m:Nat)(x:Ln):(qQ W m x).map Ln.cv=List.take m (W.map Ln.cv)++[x.cv]++List.drop (m+1) (W.map Ln.cv):=by simp[qQ,S6,P3]
theorem cN9 (a b:HO):lst [a,b]=fob [(0,a),(1,b)]:=by
 funext i
 match i with
 |0=>rfl
 |1=>rfl
 |i+2=>simp[lst,fob,upd]
theorem aG7 {J:CV}{l:List Nd}{S:List Sp}{u:HV}{R:HV→List HO→Prop}(hr:u= .c J)(h0:ob 0=some (.box 80 (pvb l S (cI 1 W.length 4 m))))(U:ob 1=some (.row 41 4 (W.map Ln.cv)))(hR:R (.c J.denil) (osP l S W m)):
  gR 2 u ob (fun r ob'=> ∃I,ob'=lst I∧(2≤I.length∧I.length≤2+4)∧R r I):=by
 subst hr;refine eM [] [] (.c J.denil) (osP l S W m) (by simp) (by simp) ⟨⟨by simp[pvb,cA],by simp,_,h0,?_⟩,⟨by simp,by simp,_,U,rfl⟩,trivial⟩ rfl N3 (by simp) (by simp) hR;simp[pvb,vY m W.length U,denilL_Nd,dJ,denilL_Sp,nU,aS,tP,lP,tau]
theorem aV2 (l:List Nd)(S:List Sp)(W:List Ln)(m:Nat)(x:Ln)(hm:m≤W.length)(hW:W.length<2^40):
  HGe Tryz.prog 38 [.ptr 0 0,.c x.cv] (osP l S W m) (fun r ag=>r= .c (.int .i64 m)∧ag=osP l S (qQ W m x) (m+1)):=by
 refine bO (args:=[.ptr 0 0,.c x.cv]) Tryz.func38 rfl (by kernel_rfl) (dQ rfl (by simp[pvb,cV,cA]) (by simp)) (C7 rfl) ?_;show Hw _ _ 2 _ _ _ (lst _) 2;rw[cN9];have ad:IntKind.i64.wrap (((m+1:Nat):Int)-1)=(m:Int):=by rw[cC _ (by omega)];omega
 refine R0 ?_;by_cases U:m=W.length
 ·
  subst U;refine aC fun K hK=>dT mixed [(0,[],[]),(1,[],[]),(2,[],[]),(3,[],[]),(4,[],[]),(5,[],[]),(6,[],[]),(7,[],[0]),(8,[],[]),(9,[],[]),(10,[],[])] [0,0,2,6,14,0,32,126,255,511,1023] (by kernel_rfl) (by kernel_rfl) (by kernel_rfl) (by kernel_rfl) rfl (by kernel_rfl) ?_;iterate 11 refine WG0 ?_ (e:=fun _ h_=>by simp only[sH,↓sP,sA,tyS,simprocAttr,pvb,cL,bD,aT,aS];exact AX h_)
  refine T2 (hK _ _ _ ?_);clear hK K;refine RS ?_;have F:=aI @A3.{0} (aI @A0.{0,0} ad);refine AU ?_;refine aE (RT Tryz.results38 ?_);exact aG7 (W:=qQ W W.length x) (m:=W.length+1) rfl (by rw[aP4];simp[cL]) (by rw[aP4];simp) ⟨rfl,rfl⟩
 have J:0<W.length:=by omega
 have aa:m+1≤W.length:=by omega
 refine aC fun K hK=>dT mixed [(0,[],[]),(1,[],[]),(2,[],[]),(3,[],[]),(4,[],[]),(5,[],[]),(6,[],[]),(7,[],[0]),(8,[],[]),(9,[],[]),(10,[],[])] [0,0,2,6,14,0,32,126,255,511,1023] (by kernel_rfl) (by kernel_rfl) (by kernel_rfl) (by kernel_rfl) rfl (by kernel_rfl) ?_;iterate 7 refine WG0 ?_ (e:=fun _ h_=>by simp only[sH,↓sP,sA,tyS,simprocAttr,pvb,bX U,bD,aT,aS,A0,J,hm,aa];exact AX h_)
 refine bI (g:=none) rfl rfl fun K' af=>?_;simp only[sN,↓hopH.eq_def,sH,↓sP,sA,tyS,simprocAttr,pvb,bX U,bD,aT,aS,A0,J,hm,aa];refine AX (af _ _ ?_);clear af K';iterate 3 refine WG0 ?_ (e:=fun _ h_=>by simp only[sH,↓sP,sA,tyS,simprocAttr,pvb,bX U,bD,aT,aS,A0,J,hm,aa];exact AX h_)
 refine T2 (hK _ _ _ ?_);clear hK K;by_cases ae:m+1=W.length
 ·
  have ab:cI 1 W.length 4 (m+1)= .own 1 (m+1):=by rw[←ae];exact cL 1 (m+1) 4
  have I:(List.take m (W.map Ln.cv)++[x.cv]++List.drop (m+1) (W.map Ln.cv)).length=m+1:=by simp;omega
  refine RS ?_;have F:=aI ab (aI I ad);refine AU ?_;refine aE (RT Tryz.results38 ?_);exact aG7 (W:=qQ W m x) (m:=m+1) rfl (by rw[mJ hm,show max W.length (m+1)=W.length from by omega,ab];rfl) (by rw[bE1];rfl) ⟨rfl,rfl⟩
 have I:(List.take m (W.map Ln.cv)++[x.cv]++List.drop (m+1) (W.map Ln.cv)).length=W.length:=by simp;omega
 have ah:(List.take (m+1) (List.take m (W.map Ln.cv)++[x.cv]++List.drop (m+1) (W.map Ln.cv))).length=m+1:=by rw[E1,I];omega
 refine RS ?_;iterate 7 refine S0 ?_ (e:=fun _ h_=>by simp only[sH,↓sP,sA,tyS,simprocAttr,bX ae,I,ah,J,aa,I1,G2,H6,ad];exact AX h_)
 refine RE ?_;refine aE (RT Tryz.results38 ?_);exact aG7 (W:=qQ W m x) (m:=m+1) rfl (by rw[mJ hm,show max W.length (m+1)=W.length from by omega,bX ae];rfl) (by rw[bE1];rfl) ⟨rfl,rfl⟩
end Go.Proofs.YthedbjfipmkpiaaGreatDoor
