/- Part of a proof: walks of functions of the program, by contracts, and the rules they use. By an AI agent. -/
import Derived.Test.YtlgckianjabghaaGreatDoorPl28x
set_option maxRecDepth 10000
set_option maxHeartbeats 16000000
set_option linter.unusedSimpArgs false
set_option linter.unusedVariables false
set_option linter.defProp false
namespace Go.Proofs.YtlgckianjabghaaGreatDoor
open Go Go.Hl Go.Pl
structure Ds where
 i:Nat
 n:aH
 v:Int
 r:List Pr
 W:List Nat
 x:Option (Pr×Nat×Bool)
def Ds.ms (y:Ds):Ms:=match y.x with
 |none=>⟨y.n,y.v,y.r,[],false⟩
 |some (q,m,d)=>⟨y.n,y.v,y.r++[q],y.W.take m,d⟩
def hpN (n:aH)(v:Int)(r:List Pr)(W:List Nat):List (Nat×HO):=
 [(0,.box 29 (.c (.agg [.str [],.int .i64 0,.slc []]))),(52,.box 72 (rbx n v (.own 64 r.length) (cL 65 W.length 1 0) false)),(64,.row 48 5 (r.map Pr.cv)),(65,.row 3 1 (W.map iC))]
abbrev rl4 (r:List Pr)(q:Pr)(N:Nat):List HV:=(r.map fun x=>HV.c x.cv)++[.agg [.c (.str q.a),.c (.str q.b),.c (.str q.c),.c (.int .i64 q.g),.own N q.t.length]]
def hpS (n:aH)(v:Int)(r:List Pr)(W:List Nat)(q:Pr)(m:Nat)(d:Bool)(N:Nat):List (Nat×HO):=
 [(0,.box 29 (.c (.agg [.str [],.int .i64 0,.slc []]))),(52,.box 72 (rbx n v (.own 64 (r.length+1)) (cL 65 W.length 1 m) d)),(64,.hrow 48 5 (rl4 r q N)),(65,.row 3 1 (W.map iC)),(N,.row 56 7 (q.t.map Nd.cv))]
def Ds.hp (y:Ds):List (Nat×HO):=match y.x with
 |none=>hpN y.n y.v y.r y.W
 |some (q,m,d)=>hpS y.n y.v y.r y.W q m d 66
structure DI (ls:List (List aH))(y:Ds):Prop where
 le:y.i≤ls.length
 hr:y.r.length≤y.i
 hW:y.W.length≤y.i
 run:RunM ls y.i y.ms
 hx: ∀q m d,y.x=some (q,m,d)→0<y.i∧m≤y.W.length∧(d=true∨0<m)∧(∀j∈y.W.take m,j<q.t.length)∧q.t.length≤y.i∧ ∀z∈q.t,0≤z.c∧z.c≤(y.i:Int)
variable {nid:Nat}{W:List Nat}{r:List Pr}{v:Int}{n:aH}{ob:Ob}
theorem at2 (h0:ob 52=some (.box 72 (rbx n v (.own 64 r.length) (cL 65 W.length 1 0) false)))(h1:ob 64=some (.hrow 48 5 ((r.map Pr.cv).map .c)))(h2:ob 65=some (.row 3 1 (W.map iC))):
  aE2 ob (sub [52,64,65] nid) [52,64,65] (os2 n v r W):=by
 refine⟨?_,?_,?_,trivial⟩
 · rw[h0];simp[rbx,iW,sub]
 · rw[h1,P7];simp only[HO.ren,lY];rfl
 rw[h2];rfl
variable {d:Bool}{m:Nat}{q:Pr}
theorem at3 (h0:ob 52=some (.box 72 (rbx n v (.own 64 (r.length+1)) (cL 65 W.length 1 m) d)))(h1:ob 64=some (.hrow 48 5 (rl4 r q 66)))(h2:ob 65=some (.row 3 1 (W.map iC)))(h3:ob 66=some (.row 56 7 (q.t.map Nd.cv))):
  aE2 ob (sub [52,64,65,66] nid) [52,64,65,66] (os3 n v r q.a q.b q.c q.g q.t W m d):=by
 refine⟨?_,?_,?_,?_,trivial⟩
 · rw[h0];simp[rbx,iW,sub]
 · rw[h1];simp[lY,pL,sub]
 · rw[h2];rfl
 rw[h3];rfl
theorem up2 :jG (sub [52,64,65] nid) ob 0 (os2 n v r W)=
  upd (upd (upd ob 52 (some (.box 72 (rbx n v (.own 64 r.length) (cL 65 W.length 1 0) false)))) 64 (some (.hrow 48 5 (r.map fun x=> .c x.cv)))) 65 (some (.row 3 1 (W.map iC))):=by
 simp[jG,rbx,iW,lY,sub]
theorem up3 {M:Nat→Nat}{N:Nat}(h0:M 0=52)(h1:M 1=64)(h2:M 2=65)(h3:M 3=N):jG M ob 0 (os3 n v r q.a q.b q.c q.g q.t W m d)=
  upd (upd (upd (upd ob 52 (some (.box 72 (rbx n v (.own 64 (r.length+1)) (cL 65 W.length 1 m) d)))) 64 (some (.hrow 48 5 (rl4 r q N)))) 65 (some (.row 3 1 (W.map iC)))) N (some (.row 56 7 (q.t.map Nd.cv))):=by
 simp[jG,rbx,iW,lY,pL,h0,h1,h2,h3]
theorem bL3 {x:HV}{c:CV}(h:x.toC=some c): ∀r:List Pr,HV.toCL ((r.map fun x=>HV.c x.cv)++[x])=some (r.map Pr.cv++[c])
 |[]=>by simp[h]
 |y::r=>by simp[bL3 h r]
theorem bS9 {M:Nat→Prop}{id n sz:Nat}(h:M id):(cL id n sz m).men M:=by unfold cL;split<;>simpa using h
theorem nX (w:List aH):(lsC w).denil=lsC w:=by simp[lsC,denilL_str]
theorem bT0 (M:Nat→Nat)(v:CV):HV.ren M (.c v)= .c v:=rfl
theorem aY5 {cl:List Nat}{n:Nat}(h:cl.contains 65=false):(cL 65 n 1 m).close ob cl=cL 65 n 1 m:=by
 unfold cL;have:65∉cl:=by simpa using h
 split<;>simp[this]
theorem cN3 (b:aH)(hl:b.length<2^40):yN Tryz.prog 11 [.slc (b.map u8)] (fun u v x=>u=(dpO b).cv∧v= .int .i64 (dpL b:Nat)∧x= .int .i64 (dpE b)):=by
 have hlen:=aV3 (b:=b);have hne:=aM3 (b:=b);have hB:=cF3 b;refine FW Tryz.func11 ?_;refine R0 ?_;refine aC fun K hK=>Rg ?_;have F:=@denilL_u8;refine SF ?_;refine HS rfl rfl fun K' hK'=>T6 ?_;refine D1 (cM0 b hl) ?_;rintro u v ⟨rfl,rfl⟩;refine AX (hK' _ _ ?_);clear hK' K';refine AU ?_;refine T2 (hK _ _ _ ?_);clear hK K;refine aC fun K hK=>?_;refine R0 ?_;refine aF (b:=!(dZ b==0)) rfl (fun hb=>?_) (fun hb=>?_)
 ·
  have he:dZ b≠0:=by simpa using hb
  have e1:dpE b=dZ b:=by rw[dpE,B6 he]
  have e2:dpL b=0:=by rw[dpL,B6 he]
  have e3:dpO b=po0:=by rw[dpO,e1,A7 he]
  clear hb;refine AU ?_;refine aE (RT Tryz.results11 ?_);exact dW [] po0.cv (.int .i64 0) (.int .i64 (dZ b)) (by simp[po0,Po.cv]) (by rw[e1,e2,e3];exact⟨rfl,rfl,rfl⟩)
 refine aJ ?_;refine T0 (hK _ _ _ ?_);clear hK K;have he:dZ b=0:=by simpa using hb
 clear hb;have hno:=fun r (h:rdP (decO b)=(none,r))=>cZ6 he h;have hok:=fun p r (h:rdP (decO b)=(some p,r))=>cZ7 he h;obtain⟨ls,hls⟩: ∃ls,ls=decO b:=⟨_,rfl⟩;rw[←hls]at hno hok hlen hne hB⊢;refine R0 ?_;refine aC fun K hK=>?_;refine R0 ?_;refine aM ?_;refine pY 52 2 48 5 rfl rfl rfl rfl ?_;refine pY 52 3 3 1 rfl rfl rfl rfl ?_;refine cM [] ?_;refine bN (α:={y:Ds//DI ls y}) (fun y=>(fin [(2,.ptr 0 0),(5,.c (.slc (ls.map lsC))),(7,.ptr 52 0),(8,.c (.int .i64 y.1.i))],fob y.1.hp)) 20000 (fun y=>ls.length-y.1.i) ⟨⟨0,[],0,[],[],none⟩,⟨F9 _,F2 _,F2 _,.inl ⟨rfl,rfl⟩,fun q m d h=>by cases h⟩⟩ (by simp only[Ds.hp,hpN];exact fG (by simp[aR,rbx,bD])) ?_;rintro⟨⟨i,n,v,r,W,x⟩,hy⟩;have hy1:=hy.le;have hy2:=hy.hr;have hy3:=hy.hW;have hrun:=hy.run;have hyx:=hy.hx;simp only at hy1 hy2 hy3 hrun hyx;refine aC fun K hK=>?_;by_cases hxn:x=none
 ·
  subst hxn;simp only[Ds.hp,hpN];refine RS ?_;have F:=@A2.{0,0};refine AU ?_;refine aF (b:=decide ((i:Int)<ls.length)) rfl (fun hb=>?_) (fun hb=>?_)
  ·
   have hlt:i<ls.length:=by simpa using hb
   have hw0:0<ls[i].length:=J0.2 (hne _ (C0 hlt)).1;clear hb;refine aJ ?_;refine T0 (hK _ _ _ ?_);clear hK K;refine aC fun K hK=>?_;refine aM ?_;by_cases hi:i=0
   ·
    cases hs:cW ls[i] true zM
    ·
     subst hi;have hz:(⟨n,v,r,[],false⟩:Ms)=zM:=by
      rcases hrun with⟨_,h⟩|⟨h,_⟩
      · exact h
      exact absurd h (V3 0)
     cases hz;obtain rfl:W=[]:=U2.1 (by omega);refine sU 64 rfl ?_;refine aC fun K hK=>Rg ?_;have F:=aI @dB (aI @nX (aI @A0 (aI @A4 (aI hlt (aI @A5 (aI (nM hlt) (aI @A2.{0,0} (show(((0:Nat):Int)==0)=true from rfl))))))));refine AU ?_;refine HS rfl rfl fun K' hK'=>T6 ?_;refine eG [52,64,65] (aY2 ls[0] hw0) rfl (at2 (n:=[]) (v:=0) (r:=[]) (W:=[]) rfl rfl rfl) (by simp) (by simp) ⟨rfl,rfl,rfl,rfl⟩ (by simp[st0,rbx,dO]) (by simp[st0]) ?_;rintro u os' ⟨rfl,hos⟩;rw[hs]at hos⊢;obtain rfl:os'=os2 [] 0 [] []:=hos;rw[up2,bT0];refine AX (hK' _ _ ?_);clear hK' K';refine SF ?_;refine T2 (hK _ _ _ ?_);clear hK K;refine CT rfl ?_;refine AU ?_;refine aE (RT Tryz.results11 ?_);obtain⟨e1,e2,e3⟩:=hno _ (RunM.no0 hlt hs);exact dW [] po0.cv (.int .i64 0) (.int .i64 2) (by simp[po0,Po.cv]) (by rw[e1,e2,e3,L7,U8];exact⟨rfl,rfl,rfl⟩)
    subst hi;have hz:(⟨n,v,r,[],false⟩:Ms)=zM:=by
     rcases hrun with⟨_,h⟩|⟨h,_⟩
     · exact h
     exact absurd h (V3 0)
    cases hz;obtain rfl:W=[]:=U2.1 (by omega);refine sU 64 rfl ?_;refine aC fun K hK=>Rg ?_;have F:=aI @dB (aI @nX (aI @A0 (aI @A4 (aI hlt (aI @A5 (aI (nM hlt) (aI @A2.{0,0} (show(((0:Nat):Int)==0)=true from rfl))))))));refine AU ?_;refine HS rfl rfl fun K' hK'=>T6 ?_;refine eG [52,64,65] (aY2 ls[0] hw0) rfl (at2 (n:=[]) (v:=0) (r:=[]) (W:=[]) rfl rfl rfl) (by simp) (by simp) ⟨rfl,rfl,rfl,rfl⟩ (by simp[st0,rbx,dO]) (by simp[st0]) ?_;rintro u os' ⟨rfl,hos⟩;obtain⟨y,hs⟩: ∃y,cW ls[0] true zM=some y:=⟨_,hs⟩;rw[hs]at hos⊢;obtain⟨hyy,hos⟩:=hos;obtain rfl:os'=os2 y.n y.v [] []:=hos;rw[up2,bT0];refine AX (hK' _ _ ?_);clear hK' K';refine SF ?_;refine T2 (hK _ _ _ ?_);clear hK K;refine CF rfl ?_;refine aJ ?_;refine T0 (hK _ _ _ ?_);clear hK K;refine aK4 64 [] rfl rfl ?_;refine aL (by kernel_rfl) ?_;refine TQ (show IntKind.i64.wrap (((0:Nat):Int)+1)=((1:Nat):Int)from rfl) ?_;refine⟨⟨⟨1,y.n,y.v,[],[],none⟩,⟨hlt,F9 _,F9 _,by have h:=RunM.first hlt hs;rw[hyy]at h;exact h,fun q m d h=>by cases h⟩⟩,?_,?_⟩
    · simp only[Ds.hp,hpN];exact fG (by simp[rbx,bD,(show IntKind.i64.wrap 1=1 from rfl)])
    show ls.length-1<ls.length-0;omega
   cases hs:cW ls[i] false ⟨n,v,r,[],false⟩
   ·
    have hi0:0<i:=by omega
    refine sU 64 rfl ?_;refine aC fun K hK=>Rg ?_;have F:=aI @dB (aI @nX (aI @A0 (aI @A4 (aI hlt (aI @A5 (aI (nM hlt) (aI @A2.{0,0} (show((i:Int)==0)=false from H4 (by omega)))))))));refine AU ?_;refine HS rfl rfl fun K' hK'=>T6 ?_;refine eG [52,64,65] (aY3 ls[i] hw0 n v r W (by omega)) rfl (at2 rfl rfl rfl) (by simp) (by simp) ⟨rfl,rfl,rfl,rfl⟩ (by simp[rbx,dO,bA,bV]) (by simp) ?_;rintro u os' ⟨rfl,hos⟩;rw[hs]at hos⊢;obtain rfl:os'=os2 n v r W:=hos;rw[up2,bT0];refine AX (hK' _ _ ?_);clear hK' K';refine SF ?_;refine T2 (hK _ _ _ ?_);clear hK K;refine CT rfl ?_;refine AU ?_;refine aE (RT Tryz.results11 ?_);obtain⟨e1,e2,e3⟩:=hno _ (RunM.no hrun hi0 hlt hs);have e4:ls.length-(ls.drop i).length=i:=by rw[B8];omega
    exact dW [] po0.cv (.int .i64 i) (.int .i64 2) (by simp[po0,Po.cv]) (by rw[e1,e2,e3,e4];exact⟨rfl,rfl,rfl⟩)
   have hi0:0<i:=by omega
   refine sU 64 rfl ?_;refine aC fun K hK=>Rg ?_;have F:=aI @dB (aI @nX (aI @A0 (aI @A4 (aI hlt (aI @A5 (aI (nM hlt) (aI @A2.{0,0} (show((i:Int)==0)=false from H4 (by omega)))))))));refine AU ?_;refine HS rfl rfl fun K' hK'=>T6 ?_;refine eG [52,64,65] (aY3 ls[i] hw0 n v r W (by omega)) rfl (at2 rfl rfl rfl) (by simp) (by simp) ⟨rfl,rfl,rfl,rfl⟩ (by simp[rbx,dO,bA,bV]) (by simp) ?_;rintro u os' ⟨rfl,hos⟩;obtain⟨y,hs⟩: ∃y,cW ls[i] false ⟨n,v,r,[],false⟩=some y:=⟨_,hs⟩;rw[hs]at hos⊢;obtain⟨g,hyy,hos⟩:=hos;obtain⟨Q,hQ⟩: ∃Q:Pr,Q=⟨wd ls[i] 1,wd ls[i] 2,wd ls[i] 3,g,[]⟩:=⟨_,rfl⟩;obtain rfl:os'=os3 n v r Q.a Q.b Q.c Q.g Q.t W 0 true:=by rw[hQ];exact hos
   have hQt:Q.t=[]:=by rw[hQ]
   rw[←hQ]at hyy;clear hQ hos;rw[up3 (N:=20044) rfl rfl rfl rfl,bT0];refine AX (hK' _ _ ?_);clear hK' K';refine SF ?_;refine T2 (hK _ _ _ ?_);clear hK K;refine CF rfl ?_;refine aJ ?_;refine T0 (hK _ _ _ ?_);clear hK K;refine cC9 20044 66 20100 [(2,.ptr 0 0),(5,.c (.slc (ls.map lsC))),(7,.ptr 52 0),(8,.c (.int .i64 i))] (hpS n v r W Q 0 true 20044) (by simp) (by simp[hpS,bV,rbx,bA]) (by omega) (by omega) (by omega) (by omega) (by omega) (by omega) (by omega) (by simp) (by simp[hpS,bV,rbx,bS9]) (bB (fr2:=fin [(2,.ptr 0 0),(5,.c (.slc (ls.map lsC))),(7,.ptr 52 0),(8,.c (.int .i64 i))]) (ob2:=fob (hpS n v r W Q 0 true 66)) (nx2:=20200) (by simp only[hpS];exact fG (by simp[mvF,mvO,mvN,pL,lY,bV,rbx,bA,iW])) ?_);simp only[hpS];refine aL (by kernel_rfl) ?_;refine TQ (show IntKind.i64.wrap ((i:Int)+1)=((i+1:Nat):Int)from by rw[A8 _ (by omega)];rfl) ?_;refine⟨⟨⟨i+1,n,v,r,W,some (Q,0,true)⟩,⟨hlt,by simp only;omega,by simp only;omega,by have h:=RunM.next hrun hi0 hlt hs;rw[hyy]at h;exact h,fun q m d h=>by cases h;exact⟨by simp only;omega,F9 _,.inl rfl,by simp,by rw[hQt];simp,by rw[hQt];simp⟩⟩⟩,?_,?_⟩
   · simp only[Ds.hp,hpS];exact fG (by simp[bV,rbx,bA])
   show ls.length-(i+1)<ls.length-i;omega
  obtain rfl:i=ls.length:=by simp at hb;omega
  clear hb;refine bG (T3 ?_);clear hK K;refine AX (hK _ _ _ ?_);clear hK K;refine aC fun K hK=>?_;refine aC fun K hK=>?_;have key: ∀(b0:Bool) fr ob nx,b0=decide (ls.length=0)→Fits 0 fr ob (fin [(2,.ptr 0 0),(5,.c (.slc (ls.map lsC))),(7,.ptr 52 0),(53,.c (.bool b0))]) (fob (hpN n v r W)) 30000→K fr ob nx:=by
   rintro b0 fr ob nx rfl hf;refine hK _ _ _ (bB hf ?_);clear hf hK K;simp only[hpN];refine aF (b:=decide (ls.length=0)) rfl (fun hb=>?_) (fun hb=>?_)
   ·
    refine AU ?_;refine aE (RT Tryz.results11 ?_);have hr:rdP ls=(none,[]):=by rw[U2.1 (R6 hb)];rfl
    obtain⟨e1,e2,e3⟩:=hno _ hr;exact dW [] po0.cv (.int .i64 ls.length) (.int .i64 2) (by simp[po0,Po.cv]) (by rw[e1,e2,e3];exact⟨rfl,rfl,rfl⟩)
   refine aJ ?_;refine T0 (hK _ _ _ ?_);clear hK K;refine aC fun K hK=>?_;have hL: ¬ls.length=0:=by simpa using hb
   clear hb;have hr:rdP ls=(some ⟨n,v,r⟩,[]):=by
    have hh:=hrun.done (by omega);rw[hh,A7 (by simp[Ds.ms])];rfl
   obtain⟨e1,e2,e3⟩:=hok _ _ hr;have hsz:PoSz ⟨n,v,r⟩:=cQ2 hB (by omega) (by rw[hr]);refine cM [64] (bB (fr2:=fin [(2,.ptr 0 0),(7,.ptr 52 0)]) (ob2:=fob [(0,.box 29 (.c (.agg [.str [],.int .i64 0,.slc []]))),(52,.box 72 (.agg [.c (Po.cv ⟨n,v,r⟩),cL 65 W.length 1 0,.c (.bool false)])),(65,.row 3 1 (W.map iC))]) (nx2:=40000) (fG (by simp[rbx,bA,aN,lI,aY5,Po.cv,denilL_Pr])) ?_);refine RS ?_;have F:=aI @aY (aI @aS @aN);refine AU ?_;refine SCF (aH8 ⟨n,v,r⟩ hsz) ?_;refine AU ?_;refine aF (b:=!fA ⟨n,v,r⟩) rfl (fun hb=>?_) (fun hb=>?_)
   ·
    have hp:fA ⟨n,v,r⟩=false:=by simpa using hb
    rw[hp]at e1 e3;simp only[E7,J2]at e1 e3;refine AU ?_;refine aE (RT Tryz.results11 ?_);exact dW [] po0.cv (.int .i64 0) (.int .i64 1) (by simp[po0,Po.cv]) (by rw[e1,e2,e3];exact⟨rfl,rfl,rfl⟩)
   have hp:fA ⟨n,v,r⟩=true:=by simpa using hb
   rw[hp]at e1 e3;simp only[F7]at e1 e3;refine aJ ?_;refine T0 (hK _ _ _ ?_);clear hK K;refine AU ?_;refine aE (RT Tryz.results11 ?_);exact dW [] (Po.cv ⟨n,v,r⟩) (.int .i64 0) (.int .i64 0) (by simp[Po.denil]) (by rw[e1,e2,e3];exact⟨rfl,rfl,rfl⟩)
  by_cases hL:ls.length=0
  ·
   refine Rg ?_;iterate 17 refine S0 ?_ (e:=fun _ h_=>by simp only[sH,↓sP,sA,tyS,simprocAttr,rbx,aY,aS,A2,(show((ls.length:Int)==0)=true from by rw[hL];rfl)];exact AX h_)
   refine T4 ?_;exact key true _ _ _ (by simp[hL]) (by simp only[hpN];exact fG (by simp[rbx,bA,aN]))
  by_cases hW0:W.length=0
  ·
   refine Rg ?_;iterate 17 refine S0 ?_ (e:=fun _ h_=>by simp only[sH,↓sP,sA,tyS,simprocAttr,rbx,aY,aS,A2,(show((ls.length:Int)==0)=false from H4 (by omega)),hW0,bD,aN];exact AX h_)
   refine T4 ?_;exact key (decide ((0:Int)<((0:Nat):Int))) _ _ _ (by simp[hL]) (by simp only[hpN];exact fG (by simp[rbx,bA,aN,hW0,bD]))
  refine Rg ?_;iterate 17 refine S0 ?_ (e:=fun _ h_=>by simp only[sH,↓sP,sA,tyS,simprocAttr,rbx,aY,aS,A2,(show((ls.length:Int)==0)=false from H4 (by omega)),bE (show 0≠W.length from W7 hW0),aN,(show 0<W.length by omega),F9,P2,E5,D9,B8,G8,Nat.zero_min];exact AX h_)
  refine T4 ?_;exact key (decide ((0:Int)<((0:Nat):Int))) _ _ _ (by simp[hL]) (by simp only[hpN];exact fG (by simp[rbx,bA,aN,bE (show 0≠W.length from W7 hW0)]))
 obtain⟨⟨q,m,d⟩,rfl⟩:=Option.ne_none_iff_exists'.1 hxn;simp only[Ds.hp,hpS];obtain⟨hi0,hm,hdm,hjt,htl,hct⟩:=hyx q m d rfl;clear hxn;refine RS ?_;have F:=@A2.{0,0};refine AU ?_;refine aF (b:=decide ((i:Int)<ls.length)) rfl (fun hb=>?_) (fun hb=>?_)
 ·
  have hlt:i<ls.length:=by simpa using hb
  have hw0:0<ls[i].length:=J0.2 (hne _ (C0 hlt)).1;clear hb;refine aJ ?_;refine T0 (hK _ _ _ ?_);clear hK K;refine aC fun K hK=>?_;refine aM ?_;cases hs:cW ls[i] false ⟨n,v,r++[⟨q.a,q.b,q.c,q.g,q.t⟩],W.take m,d⟩
  ·
   refine aC fun K hK=>Rg ?_;have F:=aI @dB (aI @nX (aI @A0 (aI @A4 (aI hlt (aI @A5 (aI (nM hlt) (aI @A2.{0,0} (show((i:Int)==0)=false from H4 (by omega)))))))));refine AU ?_;refine HS rfl rfl fun K' hK'=>T6 ?_;refine eG [52,64,65,66] (aY4 ls[i] hw0 n v r q.a q.b q.c q.g q.t W m d i hm hdm hjt (by omega) (by omega) (by omega) (by omega) hct) rfl (at3 rfl rfl rfl rfl) (by simp) (by simp) ⟨rfl,rfl,rfl,rfl⟩ (by simp[rbx,dO,bA,bV]) (by simp) ?_;rintro u os' ⟨rfl,hos⟩;rw[hs]at hos⊢;obtain rfl:os'=os3 n v r q.a q.b q.c q.g q.t W m d:=hos;rw[up3 (N:=66) rfl rfl rfl rfl,bT0];refine AX (hK' _ _ ?_);clear hK' K';refine SF ?_;refine T2 (hK _ _ _ ?_);clear hK K;refine CT rfl ?_;refine AU ?_;refine aE (RT Tryz.results11 ?_);obtain⟨e1,e2,e3⟩:=hno _ (RunM.no hrun hi0 hlt hs);have e4:ls.length-(ls.drop i).length=i:=by rw[B8];omega
   exact dW [] po0.cv (.int .i64 i) (.int .i64 2) (by simp[po0,Po.cv]) (by rw[e1,e2,e3,e4];exact⟨rfl,rfl,rfl⟩)
  refine aC fun K hK=>Rg ?_;have F:=aI @dB (aI @nX (aI @A0 (aI @A4 (aI hlt (aI @A5 (aI (nM hlt) (aI @A2.{0,0} (show((i:Int)==0)=false from H4 (by omega)))))))));refine AU ?_;refine HS rfl rfl fun K' hK'=>T6 ?_;refine eG [52,64,65,66] (aY4 ls[i] hw0 n v r q.a q.b q.c q.g q.t W m d i hm hdm hjt (by omega) (by omega) (by omega) (by omega) hct) rfl (at3 rfl rfl rfl rfl) (by simp) (by simp) ⟨rfl,rfl,rfl,rfl⟩ (by simp[rbx,dO,bA,bV]) (by simp) ?_;rintro u os' ⟨rfl,hos⟩;obtain⟨y,hs⟩: ∃y,cW ls[i] false ⟨n,v,r++[⟨q.a,q.b,q.c,q.g,q.t⟩],W.take m,d⟩=some y:=⟨_,hs⟩;rw[hs]at hos⊢;obtain⟨t',W',m',d',hyy,hos,h1,h2,h3,h4,h5⟩:=hos;obtain⟨Q,hQ⟩: ∃Q:Pr,Q=⟨q.a,q.b,q.c,q.g,t'⟩:=⟨_,rfl⟩;obtain rfl:os'=os3 n v r Q.a Q.b Q.c Q.g Q.t W' m' d':=by rw[hQ];exact hos
  have hQt:Q.t=t':=by rw[hQ]
  rw[←hQ]at hyy;rw[←hQt]at h3 h4 h5;clear hQ hQt hos;rw[up3 (N:=66) rfl rfl rfl rfl,bT0];refine AX (hK' _ _ ?_);clear hK' K';refine SF ?_;refine T2 (hK _ _ _ ?_);clear hK K;refine CF rfl ?_;refine aJ ?_;refine T0 (hK _ _ _ ?_);clear hK K;by_cases hfin:d'=false∧m'=0
  ·
   obtain⟨rfl,rfl⟩:=hfin;refine cM [66] (aK4 64 (r.map Pr.cv++[Q.cv]) rfl (by rw[sB,qR];exact bL3 (by simp[fC,Pr.cv,denilL_Nd]) r) (bB (fr2:=fin [(2,.ptr 0 0),(5,.c (.slc (ls.map lsC))),(7,.ptr 52 0),(8,.c (.int .i64 i))]) (ob2:=fob (hpN n v (r++[Q]) W')) (nx2:=20200) (by simp only[hpN];exact fG (by simp[aR,rbx,bA,aN,lI,aY5])) ?_));simp only[hpN];refine aL (by kernel_rfl) ?_;refine TQ (show IntKind.i64.wrap ((i:Int)+1)=((i+1:Nat):Int)from by rw[A8 _ (by omega)];rfl) ?_;refine⟨⟨⟨i+1,n,v,r++[Q],W',none⟩,⟨hlt,by simp only[A3,M2];omega,by simp only;omega,by have h:=RunM.next hrun hi0 hlt hs;rw[hyy]at h;exact h,fun q m d h=>by cases h⟩⟩,?_,?_⟩
   · simp only[Ds.hp,hpN];exact fG (by simp[rbx,bA])
   show ls.length-(i+1)<ls.length-i;omega
  refine aL (by kernel_rfl) ?_;refine TQ (show IntKind.i64.wrap ((i:Int)+1)=((i+1:Nat):Int)from by rw[A8 _ (by omega)];rfl) ?_;refine⟨⟨⟨i+1,n,v,r,W',some (Q,m',d')⟩,⟨hlt,by simp only;omega,by simp only;omega,by have h:=RunM.next hrun hi0 hlt hs;rw[hyy]at h;exact h,fun q m d h=>by
   cases h;refine⟨by simp only;omega,h1,?_,h4,by simp only;omega,fun z hz=>?_⟩
   ·
    cases d' with
    |true=>exact .inl rfl
    |false=>exact .inr (BE fun e=>hfin ⟨rfl,e⟩)
   have:=h5 z hz;simp only;omega⟩⟩,?_,?_⟩
  · simp only[Ds.hp,hpS];exact fG (by simp[bV,rbx,bA])
  show ls.length-(i+1)<ls.length-i;omega
 obtain rfl:i=ls.length:=by simp at hb;omega
 clear hb;refine bG (T3 ?_);clear hK K;refine AX (hK _ _ _ ?_);clear hK K;refine aC fun K hK=>?_;refine aC fun K hK=>?_;have key: ∀(b0:Bool) fr ob nx,b0=true→Fits 0 fr ob (fin [(2,.ptr 0 0),(5,.c (.slc (ls.map lsC))),(7,.ptr 52 0),(53,.c (.bool b0))]) (fob [(0,.box 29 (.c (.agg [.str [],.int .i64 0,.slc []])))]) 30000→K fr ob nx:=by
  rintro b0 fr ob nx rfl hf;refine hK _ _ _ (bB hf ?_);clear hf hK K;refine CT rfl ?_;refine AU ?_;refine aE (RT Tryz.results11 ?_);have hr:rdP ls=(none,[]):=by
   have hh:=hrun.done (by omega);rw[hh,B6];rcases hdm with h|h
   · exact .inl h
   exact .inr (aO5 h hm)
  obtain⟨e1,e2,e3⟩:=hno _ hr;exact dW [] po0.cv (.int .i64 ls.length) (.int .i64 2) (by simp[po0,Po.cv]) (by rw[e1,e2,e3];exact⟨rfl,rfl,rfl⟩)
 by_cases hdd:d=true
 ·
  refine Rg ?_;iterate 17 refine S0 ?_ (e:=fun _ h_=>by simp only[sH,↓sP,sA,tyS,simprocAttr,rbx,aY,aS,A2,(show((ls.length:Int)==0)=false from H4 (by omega)),hdd];exact AX h_)
  refine T4 ?_;exact key true _ _ _ rfl (fG (by simp[rbx]))
 by_cases hmW:m=W.length
 ·
  have hd0:d=false:=by simpa using hdd
  have hm0:0<m:=hdm.resolve_left hdd;refine Rg ?_;iterate 17 refine S0 ?_ (e:=fun _ h_=>by simp only[sH,↓sP,sA,tyS,simprocAttr,rbx,aY,aS,A2,(show((ls.length:Int)==0)=false from H4 (by omega)),hd0,hmW,bD,aN];exact AX h_)
  refine T4 ?_;exact key (decide ((0:Int)<(W.length:Int))) _ _ _ (by simp;omega) (fG (by simp[rbx]))
 have hd0:d=false:=by simpa using hdd
 have hm0:0<m:=hdm.resolve_left hdd;refine Rg ?_;iterate 17 refine S0 ?_ (e:=fun _ h_=>by simp only[sH,↓sP,sA,tyS,simprocAttr,rbx,aY,aS,A2,(show((ls.length:Int)==0)=false from H4 (by omega)),hd0,bE hmW,aN,(show 0<W.length by omega),hm,F9,D9,B8,G8,G5 hm];exact AX h_)
 refine T4 ?_;exact key (decide ((0:Int)<(m:Int))) _ _ _ (by simp;omega) (fG (by simp[rbx]))
def rdr (ls:List (List aH))(a:Nat):CV:= .agg [.slc (ls.map lsC),.int .i64 a]
theorem aI3 (ls:List (List aH))(a k:Nat)(w:aH)(hk:1≤k):bB1 Tryz.prog 49 66 (rdr ls a) [.str w,.int .i64 k] (fun u v'=>u= .bool (isV ls a w k)∧v'=rdr ls a):=by
 refine cA Tryz.func49 rfl (by kernel_rfl) (dV _ _ _) (C4 rfl) ?_;refine R0 ?_;refine aC fun K hK=>QR ?_;iterate 11 refine S0 ?_ (e:=fun _ h_=>by simp only[sH,↓sP,sA,tyS,simprocAttr,rdr,A0];exact AX h_)
 refine aG 16 rfl (fun h1_16=>?_) (fun h1_16=>?_)
 ·
  iterate 8 refine S0 ?_ (e:=fun _ h_=>by simp only[sH,↓sP,sA,tyS,simprocAttr,rdr,A0,h1_16];exact AX h_)
  refine aW (g:=some (17,true)) rfl rfl fun K' hK'=>?_;simp only[sH,↓sP,sA,tyS,simprocAttr,rdr,A0,h1_16];have hlt:a<ls.length:=by simpa using h1_16
  simp only[↓sP,sA,tyS,simprocAttr,A0,A4,hlt,aV hlt,lsC];refine AX (hK' _ _ ?_);clear hK' K';iterate 6 refine S0 ?_ (e:=fun _ h_=>by simp only[sH,↓sP,sA,tyS,simprocAttr,rdr,A0,h1_16];exact AX h_)
  refine aG 30 rfl (fun h1_30=>?_) (fun h1_30=>?_)
  ·
   iterate 8 refine S0 ?_ (e:=fun _ h_=>by simp only[sH,↓sP,sA,tyS,simprocAttr,rdr,A0,h1_16,h1_30];exact AX h_)
   refine aW (g:=some (32,true)) rfl rfl fun K' hK'=>?_;simp only[sH,↓sP,sA,tyS,simprocAttr,rdr,A0,h1_16,h1_30];have hlt:a<ls.length:=by simpa using h1_16
   have h0:0<ls[a].length:=by simp at h1_30;omega
   simp only[↓sP,sA,tyS,simprocAttr,A0,A4,hlt,aV hlt,lsC];refine AX (hK' _ _ ?_);clear hK' K';refine S0 ?_ (e:=fun _ h_=>by simp only[sH,↓sP,sA,tyS,simprocAttr,rdr,A0,h1_16,h1_30];exact AX h_);refine aW (g:=some (32,true)) rfl rfl fun K' hK'=>?_;simp only[sH,↓sP,sA,tyS,simprocAttr,rdr,A0,h1_16,h1_30];have hlt:a<ls.length:=by simpa using h1_16
   have h0:0<ls[a].length:=by simp at h1_30;omega
   simp only[↓sP,sA,tyS,simprocAttr,Q9,h0,aV h0];refine AX (hK' _ _ ?_);clear hK' K';iterate 5 refine S0 ?_ (e:=fun _ h_=>by simp only[sH,↓sP,sA,tyS,simprocAttr,rdr,A0,h1_16,h1_30];exact AX h_)
   refine T2 (hK _ _ _ ?_);clear hK K;refine aE (RT Tryz.results49 ?_);have hlt:a<ls.length:=by simpa using h1_16
   have h30:ls[a].length=k:=by simpa[Int.ofNat_inj]using h1_30
   refine gK [] (.bool _) (rdr ls a) rfl rfl (by simp[rdr,aR]) (by simp) ⟨?_,rfl⟩;rw[kD hlt,h30];simp[wd,show 0<ls[a].length by omega]
  iterate 16 refine S0 ?_ (e:=fun _ h_=>by simp only[sH,↓sP,sA,tyS,simprocAttr,rdr,A0,h1_16,h1_30];exact AX h_)
  refine T2 (hK _ _ _ ?_);clear hK K;refine aE (RT Tryz.results49 ?_);have hlt:a<ls.length:=by simpa using h1_16
  have h30: ¬ls[a].length=k:=by simpa[Int.ofNat_inj]using h1_30
  refine gK [] (.bool false) (rdr ls a) rfl rfl (by simp[rdr,aR]) (by simp) ⟨?_,rfl⟩;rw[kD hlt];simp[h30]
 iterate 31 refine S0 ?_ (e:=fun _ h_=>by simp only[sH,↓sP,sA,tyS,simprocAttr,rdr,A0,h1_16];exact AX h_)
 refine T2 (hK _ _ _ ?_);clear hK K;refine aE (RT Tryz.results49 ?_);have hlt: ¬a<ls.length:=by simpa using h1_16
 refine gK [] (.bool false) (rdr ls a) rfl rfl (by simp[rdr,aR]) (by simp) ⟨?_,rfl⟩;rw[aN3 hlt]
theorem nE (ls:List (List aH))(a j:Nat)(ha:a<ls.length)(hj:j<ls[a].length):wG Tryz.prog 50 66 (rdr ls a) [.int .i64 j] (fun u x v'=>u= .int .i64 ((bP (wd ls[a] j)).getD 0)∧x= .bool (bP (wd ls[a] j)).isSome∧v'=rdr ls a):=by
 refine cA Tryz.func50 rfl (by kernel_rfl) (dV _ _ _) (C4 rfl) ?_;refine R0 ?_;refine aC fun K hK=>DW [(0,[],[]),(1,[],[]),(2,[],[]),(3,[],[]),(4,[],[]),(5,[],[]),(6,[],[]),(7,[],[]),(8,[],[]),(9,[],[]),(10,[],[]),(11,[],[]),(12,[],[]),(13,[],[]),(14,[],[]),(15,[],[]),(16,[],[]),(17,[],[])] [0,1,3,7,0,16,48,112,255,511,0,2047,4095,8191,16383,16383,65535,131071] ?_;iterate 13 refine W0 ?_ (e:=fun _ h_=>by simp only[sH,↓sP,sA,tyS,simprocAttr,rdr,A0,A4,ha,aV ha,lsC,hj,aV hj];exact AX h_)
 refine cT (g:=none) rfl rfl fun K' hK'=>?_;simp only[sH,↓sP,sA,tyS,simprocAttr,rdr,A0,A4,ha,aV ha,lsC,hj,aV hj];refine D1 (cL9 ls[a][j]) ?_;rintro u v ⟨rfl,rfl⟩;refine AX (hK' _ _ ?_);clear hK' K';iterate 4 refine W0 ?_ (e:=fun _ h_=>by simp only[sH,↓sP,sA,tyS,simprocAttr,rdr,A0,A4,ha,aV ha,lsC,hj,aV hj];exact AX h_)
 refine T2 (hK _ _ _ ?_);clear hK K;refine aE (RT Tryz.results50 ?_);exact cI [] (.int .i64 _) (.bool _) (rdr ls a) rfl rfl (by simp[rdr,aR,lsC]) (by simp) ⟨by simp[wd,hj],by simp[wd,hj],rfl⟩
theorem pN (ls:List (List aH))(a:Nat)(w:aH)(ha:ls.length<2^40):bB1 Tryz.prog 104 66 (rdr ls a) [.str w,.slc []] (fun u v'=>u= .bool (isV ls a w 1)∧v'=rdr ls (if isV ls a w 1 then a+1 else a)):=by
 refine cA Tryz.func104 rfl (by kernel_rfl) (dV _ _ _) (C4 rfl) ?_;refine R0 ?_;refine aC fun K hK=>?_;refine aC fun K hK=>Rg ?_;refine AU ?_;refine HS rfl rfl fun K' hK'=>T5 ?_;refine cC (args:=[_,_]) (aI3 ls a 1 w (by omega)) rfl (by simp) ⟨rfl,rfl,rfl,rfl⟩ ?_;rintro u v' ⟨rfl,rfl⟩;refine AX (hK' _ _ ?_);clear hK' K';refine S0 ?_;refine T2 (hK _ _ _ ?_);clear hK K;refine aF (b:=!isV ls a w 1) rfl (fun hb=>?_) (fun hb=>?_)
 ·
  refine R0 ?_;refine aE (RT Tryz.results104 ?_);have hv:isV ls a w 1=false:=by simpa using hb
  refine gK [] (.bool false) (rdr ls a) rfl rfl (by simp[rdr,aR]) (by simp) ⟨by rw[hv],by rw[hv];rfl⟩
 refine aJ ?_;refine T0 (hK _ _ _ ?_);clear hK K;refine aC fun K hK=>?_;have hv:isV ls a w 1=true:=by simpa using hb
 obtain⟨hl,hl1,hl2⟩:=iG hv;rw[hv];clear hb;refine R0 ?_;refine aM ?_;refine bN (α:={i:Nat//i=0}) (fun i=>(fin [(0,.ptr 0 0),(18,.c (.slc [])),(19,.c (.int .i64 0)),(20,.c (.int .i64 0))],fob [(0,.box 66 (.c (rdr ls a)))])) 100 (fun i=>0) ⟨0,rfl⟩ (fF) ?_;rintro⟨i,hi⟩;refine R0 ?_;refine aC fun K hK=>?_;refine CF rfl ?_;refine bG (T3 ?_);clear hK K;refine AX (hK _ _ _ ?_);clear hK K;have hw:IntKind.i64.wrap ((a:Int)+1)=((a+1:Nat):Int):=A8 _ (by omega);refine RS ?_;iterate 8 refine S0 ?_ (e:=fun _ h_=>by simp only[sH,↓sP,sA,tyS,simprocAttr,rdr,hw];exact AX h_)
 refine AU ?_;refine aE (RT Tryz.results104 ?_);refine gK [] (.bool true) (rdr ls (a+1)) rfl rfl (by simp[rdr,aR]) (by simp) ⟨by rw[hv],by rw[hv];rfl⟩
theorem cZ8 (ls:List (List aH))(a:Nat)(x:Int):lst [.box 66 (.c (rdr ls a)),.hrow 156 1 [.ptr 2 0],.box 2 (.c (.int .i64 x))]=fob [(0,.box 66 (.c (rdr ls a))),(1,.hrow 156 1 [.ptr 2 0]),(2,.box 2 (.c (.int .i64 x)))]:=by
 funext i
 match i with
 |0=>rfl
 |1=>rfl
 |2=>rfl
 |i+3=>simp[lst,fob,upd]
theorem cF4 (ls:List (List aH))(a:Nat)(w:aH)(x:Int)(ha:ls.length<2^40):
  HGe Tryz.prog 104 [.ptr 0 0,.c (.str w),.own 1 1] [.box 66 (.c (rdr ls a)),.hrow 156 1 [.ptr 2 0],.box 2 (.c (.int .i64 x))]
   (fun r os'=>r= .c (.bool (iF ls a w).isSome)∧os'=[.box 66 (.c (rdr ls (if(iF ls a w).isSome then a+1 else a))),.hrow 156 1 [.ptr 2 0],.box 2 (.c (.int .i64 ((iF ls a w).getD x)))]):=by
 refine cA (args:=[.ptr 0 0,.c (.str w),.own 1 1]) Tryz.func104 rfl (by kernel_rfl) (eM rfl (by simp[dO]) (by simp)) (C4 rfl) ?_;show Hw _ _ 3 _ _ _ (lst _) 3;rw[cZ8];refine R0 ?_;refine aC fun K hK=>?_;refine aC fun K hK=>aZ (by kernel_rfl) ?_;simp only[sR,simprocAttr];iterate 3 refine SG0 ?_
 refine aX (g:=none) rfl rfl fun K' hK'=>?_;simp only[sN,↓hopH.eq_def,sH,↓sP,sA,tyS,simprocAttr];refine AX (hK' _ _ ?_);clear hK' K';refine SG0 ?_;refine bU (g:=none) rfl rfl fun K' hK'=>T5 ?_;refine cC (args:=[_,_]) (aI3 ls a 2 w (by omega)) rfl (by simp) ⟨rfl,rfl,rfl,rfl⟩ ?_;rintro u v' ⟨rfl,rfl⟩;refine AX (hK' _ _ ?_);clear hK' K';refine SG0 ?_;refine T2 (hK _ _ _ ?_);clear hK K;refine aF (b:=!isV ls a w 2) rfl (fun hb=>?_) (fun hb=>?_)
 ·
  refine R0 ?_;refine aE (RT Tryz.results104 ?_);have hv:isV ls a w 2=false:=by simpa using hb
  rw[cM4 hv];exact dS [] [] (.c (.bool false)) [.box 66 (.c (rdr ls a)),.hrow 156 1 [.ptr 2 0],.box 2 (.c (.int .i64 x))] rfl (by simp) (⟨⟨by simp,by simp,_,rfl,by simp[tau,fC,rdr,aR]⟩,⟨by simp,by simp,_,rfl,by simp[tau,fC]⟩,⟨by simp,by simp,_,rfl,by simp[tau,fC]⟩,trivial⟩) rfl I3 (by simp) (by simp) ⟨rfl,rfl⟩
 refine aJ ?_;refine T0 (hK _ _ _ ?_);clear hK K;refine aC fun K hK=>?_;have hv:isV ls a w 2=true:=by simpa using hb
 obtain⟨hl,hl1,hl2⟩:=iG hv;have hnum:=aN4 hv hl;have hw:IntKind.i64.wrap ((a:Int)+1)=((a+1:Nat):Int):=A8 _ (by omega);clear hb;refine aC fun K hK=>aZ (by kernel_rfl) ?_;simp only[sR,simprocAttr];refine SG0 ?_;refine aX (g:=none) rfl rfl fun K' hK'=>?_;simp only[sN,↓hopH.eq_def,sH,↓sP,sA,tyS,simprocAttr];refine AX (hK' _ _ ?_);clear hK' K';refine SG0 ?_;refine T2 (hK _ _ _ ?_);clear hK K;refine aM ?_;refine bN (α:={y:Nat×Int//(y.1=0∧y.2=x)∨(y.1=1∧bP (wd ls[a] 1)=some y.2)}) (fun y=>(fin [(0,.ptr 0 0),(18,.own 1 1),(19,.c (.int .i64 1)),(20,.c (.int .i64 y.1.1))],fob [(0,.box 66 (.c (rdr ls a))),(1,.hrow 156 1 [.ptr 2 0]),(2,.box 2 (.c (.int .i64 y.1.2)))])) 100 (fun y=>1-y.1.1) ⟨(0,x),.inl ⟨rfl,rfl⟩⟩ (fF) ?_;rintro⟨⟨i,y⟩,hiy⟩;simp only at hiy;refine R0 ?_;refine aC fun K hK=>?_;refine aF (b:=decide ((i:Int)<1)) rfl (fun hb=>?_) (fun hb=>?_)
 ·
  have hi0:i=0:=by simp at hb;omega
  subst hi0;obtain rfl:y=x:=by rcases hiy with h|h;exact h.2;exact absurd h.1 (by decide)
  clear hb;refine aJ ?_;refine T0 (hK _ _ _ ?_);clear hK K;refine aC fun K hK=>?_;refine aM ?_;refine aC fun K hK=>aZ (by kernel_rfl) ?_;simp only[sR,simprocAttr];refine SG0 ?_;refine aX (g:=none) rfl rfl fun K' hK'=>?_;simp only[sN,↓hopH.eq_def,sH,↓sP,sA,tyS,simprocAttr];refine AX (hK' _ _ ?_);clear hK' K';refine aX (g:=none) rfl rfl fun K' hK'=>?_;simp only[sN,↓hopH.eq_def,sH,↓sP,sA,tyS,simprocAttr];refine AX (hK' _ _ ?_);clear hK' K';iterate 2 refine SG0 ?_
  refine T2 (hK _ _ _ ?_);clear hK K;refine aC fun K hK=>Rg ?_;refine AU ?_;refine HS rfl rfl fun K' hK'=>T5 ?_;refine fD (args:=[_]) (nE ls a 1 hl (by omega)) rfl (by simp) ⟨rfl,rfl,rfl,rfl⟩ ?_;rintro u x' v' ⟨rfl,rfl,rfl⟩;refine AX (hK' _ _ ?_);clear hK' K';refine AU ?_;refine T2 (hK _ _ _ ?_);clear hK K;refine aC fun K hK=>?_;refine R0 ?_;refine aF (b:=!(bP (wd ls[a] 1)).isSome) rfl (fun hb=>?_) (fun hb=>?_)
  ·
   have hno:bP (wd ls[a] 1)=none:=by simpa using hb
   rw[hno]at hnum;refine R0 ?_;refine aE (RT Tryz.results104 ?_);rw[hnum];exact dS [] [] (.c (.bool false)) [.box 66 (.c (rdr ls a)),.hrow 156 1 [.ptr 2 0],.box 2 (.c (.int .i64 y))] rfl (by simp) (⟨⟨by simp,by simp,_,rfl,by simp[tau,fC,rdr,aR]⟩,⟨by simp,by simp,_,rfl,by simp[tau,fC]⟩,⟨by simp,by simp,_,rfl,by simp[tau,fC]⟩,trivial⟩) rfl I3 (by simp) (by simp) ⟨rfl,rfl⟩
  obtain⟨n,hn⟩: ∃n,bP (wd ls[a] 1)=some n:=by
   cases h:bP (wd ls[a] 1)with
   |none=>rw[h]at hb;simp at hb
   |some n=>exact⟨n,rfl⟩
  simp only[hn,E0,G2,D8];clear hb;refine aJ ?_;refine T0 (hK _ _ _ ?_);clear hK K;refine Rg ?_;refine AU ?_;refine T2 (hK _ _ _ ?_);clear hK K;refine aL (by kernel_rfl) ?_;refine TQ (show IntKind.i64.wrap 1=1 from rfl) ?_;refine⟨⟨(1,n),.inr ⟨rfl,hn⟩⟩,fF,?_⟩;show 1-1<1-0;omega
 refine bG (T3 ?_);clear hK K;refine AX (hK _ _ _ ?_);clear hK K;obtain⟨rfl,hn⟩:i=1∧bP (wd ls[a] 1)=some y:=by
  rcases hiy with h|h
  · rw[h.1]at hb;simp at hb
  exact h
 clear hb;refine RS ?_;iterate 8 refine S0 ?_ (e:=fun _ h_=>by simp only[sH,↓sP,sA,tyS,simprocAttr,rdr,hw];exact AX h_)
 refine AU ?_;refine aE (RT Tryz.results104 ?_);rw[hnum,hn];exact dS [] [] (.c (.bool true)) [.box 66 (.c (rdr ls (a+1))),.hrow 156 1 [.ptr 2 0],.box 2 (.c (.int .i64 y))] rfl (by simp) (⟨⟨by simp,by simp,_,rfl,by simp[tau,fC,rdr,aR]⟩,⟨by simp,by simp,_,rfl,by simp[tau,fC]⟩,⟨by simp,by simp,_,rfl,by simp[tau,fC]⟩,trivial⟩) rfl I3 (by simp) (by simp) ⟨rfl,rfl⟩
theorem cZ9 (ls:List (List aH))(a:Nat)(x y:Int):lst [.box 66 (.c (rdr ls a)),.hrow 156 1 [.ptr 2 0,.ptr 3 0],.box 2 (.c (.int .i64 x)),.box 2 (.c (.int .i64 y))]=fob [(0,.box 66 (.c (rdr ls a))),(1,.hrow 156 1 [.ptr 2 0,.ptr 3 0]),(2,.box 2 (.c (.int .i64 x))),(3,.box 2 (.c (.int .i64 y)))]:=by
 funext i
 match i with
 |0=>rfl
 |1=>rfl
 |2=>rfl
 |3=>rfl
 |i+4=>simp[lst,fob,upd]
theorem cF5 (ls:List (List aH))(a:Nat)(w:aH)(x y:Int)(ha:ls.length<2^40):
  HGe Tryz.prog 104 [.ptr 0 0,.c (.str w),.own 1 2] [.box 66 (.c (rdr ls a)),.hrow 156 1 [.ptr 2 0,.ptr 3 0],.box 2 (.c (.int .i64 x)),.box 2 (.c (.int .i64 y))]
   (fun r os'=>r= .c (.bool (oA ls a w).isSome)∧ ∃x' y',os'=[.box 66 (.c (rdr ls (if(oA ls a w).isSome then a+1 else a))),.hrow 156 1 [.ptr 2 0,.ptr 3 0],.box 2 (.c (.int .i64 x')),.box 2 (.c (.int .i64 y'))]∧ ∀n m,oA ls a w=some (n,m)→x'=n∧y'=m):=by
 refine cA (args:=[.ptr 0 0,.c (.str w),.own 1 2]) Tryz.func104 rfl (by kernel_rfl) (eM rfl (by simp[dO]) (by simp)) (C4 rfl) ?_;show Hw _ _ 4 _ _ _ (lst _) 4;rw[cZ9];refine R0 ?_;refine aC fun K hK=>?_;refine aC fun K hK=>aZ (by kernel_rfl) ?_;simp only[sR,simprocAttr];iterate 3 refine SG0 ?_
 refine aX (g:=none) rfl rfl fun K' hK'=>?_;simp only[sN,↓hopH.eq_def,sH,↓sP,sA,tyS,simprocAttr];refine AX (hK' _ _ ?_);clear hK' K';refine SG0 ?_;refine bU (g:=none) rfl rfl fun K' hK'=>T5 ?_;refine cC (args:=[_,_]) (aI3 ls a 3 w (by omega)) rfl (by simp) ⟨rfl,rfl,rfl,rfl⟩ ?_;rintro u v' ⟨rfl,rfl⟩;refine AX (hK' _ _ ?_);clear hK' K';refine SG0 ?_;refine T2 (hK _ _ _ ?_);clear hK K;refine aF (b:=!isV ls a w 3) rfl (fun hb=>?_) (fun hb=>?_)
 ·
  refine R0 ?_;refine aE (RT Tryz.results104 ?_);have hv:isV ls a w 3=false:=by simpa using hb
  rw[cM5 hv];exact dS [] [] (.c (.bool false)) [.box 66 (.c (rdr ls a)),.hrow 156 1 [.ptr 2 0,.ptr 3 0],.box 2 (.c (.int .i64 x)),.box 2 (.c (.int .i64 y))] rfl (by simp) (⟨⟨by simp,by simp,_,rfl,by simp[tau,fC,rdr,aR]⟩,⟨by simp,by simp,_,rfl,by simp[tau,fC,rdr,aR]⟩,⟨by simp,by simp,_,rfl,by simp[tau,fC,rdr,aR]⟩,⟨by simp,by simp,_,rfl,by simp[tau,fC,rdr,aR]⟩,trivial⟩) rfl I3 (by simp) (by simp) ⟨rfl,x,y,rfl,fun n m h=>by cases h⟩
 refine aJ ?_;refine T0 (hK _ _ _ ?_);clear hK K;refine aC fun K hK=>?_;have hv:isV ls a w 3=true:=by simpa using hb
 obtain⟨hl,hl1,hl2⟩:=iG hv;have hnum:=bK2 hv hl;have hw:IntKind.i64.wrap ((a:Int)+1)=((a+1:Nat):Int):=A8 _ (by omega);clear hb;refine aC fun K hK=>aZ (by kernel_rfl) ?_;simp only[sR,simprocAttr];refine SG0 ?_;refine aX (g:=none) rfl rfl fun K' hK'=>?_;simp only[sN,↓hopH.eq_def,sH,↓sP,sA,tyS,simprocAttr];refine AX (hK' _ _ ?_);clear hK' K';refine SG0 ?_;refine T2 (hK _ _ _ ?_);clear hK K;refine aM ?_;refine bN (α:={y':Nat×Int×Int//(y'.1=0∧y'.2=(x,y))∨(y'.1=1∧bP (wd ls[a] 1)=some y'.2.1∧y'.2.2=y)∨(y'.1=2∧bP (wd ls[a] 1)=some y'.2.1∧bP (wd ls[a] 2)=some y'.2.2)}) (fun y'=>(fin [(0,.ptr 0 0),(18,.own 1 2),(19,.c (.int .i64 2)),(20,.c (.int .i64 y'.1.1))],fob [(0,.box 66 (.c (rdr ls a))),(1,.hrow 156 1 [.ptr 2 0,.ptr 3 0]),(2,.box 2 (.c (.int .i64 y'.1.2.1))),(3,.box 2 (.c (.int .i64 y'.1.2.2)))])) 100 (fun y'=>2-y'.1.1) ⟨(0,x,y),.inl ⟨rfl,rfl⟩⟩ (fF) ?_;rintro⟨⟨i,x1,y1⟩,hiy⟩;simp only[R1]at hiy;refine R0 ?_;refine aC fun K hK=>?_;refine aF (b:=decide ((i:Int)<2)) rfl (fun hb=>?_) (fun hb=>?_)
 ·
  have hi2:i<2:=by simp at hb;omega
  clear hb;refine aJ ?_;refine T0 (hK _ _ _ ?_);clear hK K;refine aC fun K hK=>?_;refine aM ?_;by_cases hi0:i=0
  ·
   subst hi0;refine aC fun K hK=>aZ (by kernel_rfl) ?_;simp only[sR,simprocAttr];refine SG0 ?_;refine aX (g:=none) rfl rfl fun K' hK'=>?_;simp only[sN,↓hopH.eq_def,sH,↓sP,sA,tyS,simprocAttr];refine AX (hK' _ _ ?_);clear hK' K';refine aX (g:=none) rfl rfl fun K' hK'=>?_;simp only[sN,↓hopH.eq_def,sH,↓sP,sA,tyS,simprocAttr];refine AX (hK' _ _ ?_);clear hK' K';iterate 2 refine SG0 ?_
   refine T2 (hK _ _ _ ?_);clear hK K;refine aC fun K hK=>Rg ?_;refine AU ?_;refine HS rfl rfl fun K' hK'=>T5 ?_;refine fD (args:=[_]) (nE ls a 1 hl (by omega)) rfl (by simp) ⟨rfl,rfl,rfl,rfl⟩ ?_;rintro u x' v' ⟨rfl,rfl,rfl⟩;refine AX (hK' _ _ ?_);clear hK' K';refine AU ?_;refine T2 (hK _ _ _ ?_);clear hK K;refine aC fun K hK=>?_;refine R0 ?_;refine aF (b:=!(bP (wd ls[a] 1)).isSome) rfl (fun hb=>?_) (fun hb=>?_)
   ·
    have hno:bP (wd ls[a] 1)=none:=by simpa using hb
    rw[hno]at hnum;have hnum:oA ls a w=none:=hnum;refine R0 ?_;refine aE (RT Tryz.results104 ?_);rw[hnum];exact dS [] [] (.c (.bool false)) [.box 66 (.c (rdr ls a)),.hrow 156 1 [.ptr 2 0,.ptr 3 0],.box 2 (.c (.int .i64 x1)),.box 2 (.c (.int .i64 y1))] rfl (by simp) (⟨⟨by simp,by simp,_,rfl,by simp[tau,fC,rdr,aR]⟩,⟨by simp,by simp,_,rfl,by simp[tau,fC,rdr,aR]⟩,⟨by simp,by simp,_,rfl,by simp[tau,fC,rdr,aR]⟩,⟨by simp,by simp,_,rfl,by simp[tau,fC,rdr,aR]⟩,trivial⟩) rfl I3 (by simp) (by simp) ⟨rfl,_,_,rfl,fun n m h=>by cases h⟩
   obtain⟨n,hn⟩: ∃n,bP (wd ls[a] 1)=some n:=by
    cases h:bP (wd ls[a] 1)with
    |none=>rw[h]at hb;simp at hb
    |some n=>exact⟨n,rfl⟩
   simp only[hn,E0,G2,D8];clear hb;refine aJ ?_;refine T0 (hK _ _ _ ?_);clear hK K;refine Rg ?_;refine AU ?_;refine T2 (hK _ _ _ ?_);clear hK K;refine aL (by kernel_rfl) ?_;simp only[↓sP,sA,tyS,simprocAttr,(show IntKind.i64.wrap 1=1 from rfl),(show IntKind.i64.wrap 2=2 from rfl)];refine⟨⟨(1,n,y1),.inr (.inl ⟨rfl,hn,by rcases hiy with h|h|h;exact h.2.2;exact absurd h.1 (by decide);exact absurd h.1 (by decide)⟩)⟩,fF,?_⟩;show 2-1<2-0;omega
  obtain rfl:i=1:=by omega
  have h1:bP (wd ls[a] 1)=some x1:=by
   rcases hiy with h|h|h
   · omega
   · exact h.2.1
   omega
  refine aC fun K hK=>aZ (by kernel_rfl) ?_;simp only[sR,simprocAttr];refine SG0 ?_;refine aX (g:=none) rfl rfl fun K' hK'=>?_;simp only[sN,↓hopH.eq_def,sH,↓sP,sA,tyS,simprocAttr];refine AX (hK' _ _ ?_);clear hK' K';refine aX (g:=none) rfl rfl fun K' hK'=>?_;simp only[sN,↓hopH.eq_def,sH,↓sP,sA,tyS,simprocAttr];refine AX (hK' _ _ ?_);clear hK' K';iterate 2 refine SG0 ?_
  refine T2 (hK _ _ _ ?_);clear hK K;refine aC fun K hK=>Rg ?_;refine AU ?_;refine HS rfl rfl fun K' hK'=>T5 ?_;refine fD (args:=[_]) (nE ls a 2 hl (by omega)) rfl (by simp) ⟨rfl,rfl,rfl,rfl⟩ ?_;rintro u x' v' ⟨rfl,rfl,rfl⟩;refine AX (hK' _ _ ?_);clear hK' K';refine AU ?_;refine T2 (hK _ _ _ ?_);clear hK K;refine aC fun K hK=>?_;refine R0 ?_;refine aF (b:=!(bP (wd ls[a] 2)).isSome) rfl (fun hb=>?_) (fun hb=>?_)
  ·
   have hno:bP (wd ls[a] 2)=none:=by simpa using hb
   rw[hno,h1]at hnum;have hnum:oA ls a w=none:=hnum;refine R0 ?_;refine aE (RT Tryz.results104 ?_);rw[hnum];exact dS [] [] (.c (.bool false)) [.box 66 (.c (rdr ls a)),.hrow 156 1 [.ptr 2 0,.ptr 3 0],.box 2 (.c (.int .i64 x1)),.box 2 (.c (.int .i64 y1))] rfl (by simp) (⟨⟨by simp,by simp,_,rfl,by simp[tau,fC,rdr,aR]⟩,⟨by simp,by simp,_,rfl,by simp[tau,fC,rdr,aR]⟩,⟨by simp,by simp,_,rfl,by simp[tau,fC,rdr,aR]⟩,⟨by simp,by simp,_,rfl,by simp[tau,fC,rdr,aR]⟩,trivial⟩) rfl I3 (by simp) (by simp) ⟨rfl,_,_,rfl,fun n m h=>by cases h⟩
  obtain⟨n,hn⟩: ∃n,bP (wd ls[a] 2)=some n:=by
   cases h:bP (wd ls[a] 2)with
   |none=>rw[h]at hb;simp at hb
   |some n=>exact⟨n,rfl⟩
  simp only[hn,E0,G2,D8];clear hb;refine aJ ?_;refine T0 (hK _ _ _ ?_);clear hK K;refine Rg ?_;refine AU ?_;refine T2 (hK _ _ _ ?_);clear hK K;refine aL (by kernel_rfl) ?_;simp only[↓sP,sA,tyS,simprocAttr,(show IntKind.i64.wrap 1=1 from rfl),(show IntKind.i64.wrap 2=2 from rfl)];refine⟨⟨(2,x1,n),.inr (.inr ⟨rfl,h1,hn⟩)⟩,fF,?_⟩;show 2-2<2-1;omega
 refine bG (T3 ?_);clear hK K;refine AX (hK _ _ _ ?_);clear hK K;obtain⟨rfl,h1,h2⟩:i=2∧bP (wd ls[a] 1)=some x1∧bP (wd ls[a] 2)=some y1:=by
  rcases hiy with h|h|h
  · rw[h.1]at hb;simp at hb
  · rw[h.1]at hb;simp at hb
  exact h
 have hnum:oA ls a w=some (x1,y1):=by rw[hnum,h1,h2]
 clear hb;refine RS ?_;iterate 8 refine S0 ?_ (e:=fun _ h_=>by simp only[sH,↓sP,sA,tyS,simprocAttr,rdr,hw];exact AX h_)
 refine AU ?_;refine aE (RT Tryz.results104 ?_);rw[hnum];exact dS [] [] (.c (.bool true)) [.box 66 (.c (rdr ls (a+1))),.hrow 156 1 [.ptr 2 0,.ptr 3 0],.box 2 (.c (.int .i64 x1)),.box 2 (.c (.int .i64 y1))] rfl (by simp) (⟨⟨by simp,by simp,_,rfl,by simp[tau,fC,rdr,aR]⟩,⟨by simp,by simp,_,rfl,by simp[tau,fC,rdr,aR]⟩,⟨by simp,by simp,_,rfl,by simp[tau,fC,rdr,aR]⟩,⟨by simp,by simp,_,rfl,by simp[tau,fC,rdr,aR]⟩,trivial⟩) rfl I3 (by simp) (by simp) ⟨rfl,_,_,rfl,fun n m h=>by cases h;exact⟨rfl,rfl⟩⟩
variable {x:Int}{a:Nat}{ls:List (List aH)}{K:HV→Ob→Prop}{av:List Nat}
theorem jP (w:aH){id idh ix:Nat}(hl:ls.length<2^40)(h1:ob id=some (.box 66 (.c (rdr ls a))))(h2:ob idh=some (.hrow 156 1 [.ptr ix 0]))(h3:ob ix=some (.box 2 (.c (.int .i64 x))))
  (hn:[id,idh,ix].Nodup) (hav: ∀s∈[id,idh,ix],s∉av) (hfree:Free4 ob nid)
  (hK:K (.c (.bool (iF ls a w).isSome)) (upd (upd (upd ob id (some (.box 66 (.c (rdr ls (if(iF ls a w).isSome then a+1 else a)))))) idh (some (.hrow 156 1 [.ptr ix 0]))) ix (some (.box 2 (.c (.int .i64 ((iF ls a w).getD x))))))):
  HCall Tryz.prog av 104 [.ptr id 0,.c (.str w),.own idh 1] ob nid K:=by
 refine eG [id,idh,ix] (cF4 ls a w x hl) rfl ⟨h1,h2,h3,trivial⟩ hn hav hfree (by simp[dO]) (by simp) ?_;rintro r os' ⟨rfl,rfl⟩;exact hK
theorem bF2 (w:aH){y:Int}{id idh ix iy:Nat}(hl:ls.length<2^40)(h1:ob id=some (.box 66 (.c (rdr ls a))))(h2:ob idh=some (.hrow 156 1 [.ptr ix 0,.ptr iy 0]))(h3:ob ix=some (.box 2 (.c (.int .i64 x))))(h4:ob iy=some (.box 2 (.c (.int .i64 y))))
  (hn:[id,idh,ix,iy].Nodup) (hav: ∀s∈[id,idh,ix,iy],s∉av) (hfree:Free4 ob nid)
  (hK: ∀x' y',(∀n m,oA ls a w=some (n,m)→x'=n∧y'=m)→K (.c (.bool (oA ls a w).isSome)) (upd (upd (upd (upd ob id (some (.box 66 (.c (rdr ls (if(oA ls a w).isSome then a+1 else a)))))) idh (some (.hrow 156 1 [.ptr ix 0,.ptr iy 0]))) ix (some (.box 2 (.c (.int .i64 x'))))) iy (some (.box 2 (.c (.int .i64 y')))))):
  HCall Tryz.prog av 104 [.ptr id 0,.c (.str w),.own idh 2] ob nid K:=by
 refine eG [id,idh,ix,iy] (cF5 ls a w x y hl) rfl ⟨h1,h2,h3,h4,trivial⟩ hn hav hfree (by simp[dO]) (by simp) ?_;rintro r os' ⟨rfl,x',y',rfl,h⟩;exact hK x' y' h
theorem aY6 (ls:List (List aH))(a:Nat)(ha:ls.length<2^40):wG Tryz.prog 102 66 (rdr ls a) [] (fun u x v'=>u=((lM ls a).getD rq0).cv∧x= .bool (lM ls a).isSome∧v'=rdr ls (if(lM ls a).isSome then a+1 else a)):=by
 refine cA Tryz.func102 rfl (by kernel_rfl) (dV _ _ _) (C4 rfl) ?_;refine R0 ?_;refine R0 ?_;refine aC fun K hK=>?_;refine aM ?_;refine aC fun K hK=>aZ (by kernel_rfl) ?_;simp only[sR,simprocAttr];refine SG0 ?_;refine aX (g:=none) rfl rfl fun K' hK'=>?_;simp only[sN,↓hopH.eq_def,sH,↓sP,sA,tyS,simprocAttr];refine AX (hK' _ _ ?_);clear hK' K';refine bU (g:=none) rfl rfl fun K' hK'=>T5 ?_;refine jP bO ha rfl rfl rfl (by decide) (by simp) ⟨rfl,rfl,rfl,rfl⟩ ?_;refine AX (hK' _ _ ?_);clear hK' K';refine SG0 ?_;refine T2 (hK _ _ _ ?_);clear hK K;refine aF (b:=(iF ls a bO).isSome) rfl (fun hb=>?_) (fun hb=>?_)
 ·
  obtain⟨n,hn⟩:=G3.1 hb;obtain⟨hl,hl1,hl2,hl3⟩:=kV hn;have hreq:lM ls a=some ⟨1,n,0,[]⟩:=by rw[iH hl,aB5 hl1 hl2,hl3];rfl
  simp only[hn,G2,F7,E0];refine AU ?_;refine aE (RT Tryz.results102 ?_);rw[hreq];exact cI [] (Rq.cv ⟨1,n,0,[]⟩) (.bool true) (rdr ls (a+1)) rfl rfl (by simp[rdr,aR]) (by simp) ⟨rfl,rfl,rfl⟩
 have hwReleased:iF ls a bO=none:=by simpa using hb
 simp only[hwReleased,J9,E7,J2,O3];clear hb;refine aC fun K hK=>Rg ?_;refine S0 ?_;refine HS rfl rfl fun K' hK'=>T5 ?_;refine cC (args:=[_,_]) (aI3 ls a 2 bL (by omega)) rfl (by simp) ⟨rfl,rfl,rfl,rfl⟩ ?_;rintro u v' ⟨rfl,rfl⟩;refine AX (hK' _ _ ?_);clear hK' K';refine S0 ?_;refine T2 (hK _ _ _ ?_);clear hK K;refine aF (b:=isV ls a bL 2) rfl (fun hb=>?_) (fun hb=>?_)
 ·
  obtain⟨hl,hl1,hl2⟩:=iG hb;have hreq:lM ls a=some ⟨2,0,0,wd ls[a] 1⟩:=by rw[iH hl,aN5 hl1 hl2]
  have hw:IntKind.i64.wrap ((a:Int)+1)=((a+1:Nat):Int):=A8 _ (by omega);have hw2:IntKind.i64.wrap (((a+1:Nat):Int)-1)=(a:Int):=by rw[A8 _ (by omega)];omega
  have h1:1<ls[a].length:=by omega
  refine RS ?_;iterate 8 refine S0 ?_ (e:=fun _ h_=>by simp only[sH,↓sP,sA,tyS,simprocAttr,rdr,hw];exact AX h_)
  refine RE ?_;refine aC fun K hK=>DW [(0,[],[]),(1,[],[]),(2,[],[]),(3,[],[]),(4,[],[]),(5,[],[]),(6,[],[]),(7,[],[]),(8,[],[]),(9,[],[]),(10,[],[]),(11,[],[]),(12,[],[]),(13,[],[]),(14,[],[]),(15,[],[])] [0,1,3,7,0,16,48,112,240,511,1023,2047,4095,8191,16383,32767] ?_;iterate 16 refine W0 ?_ (e:=fun _ h_=>by simp only[sH,↓sP,sA,tyS,simprocAttr,rdr,hw2,A0,A4,hl,aV hl,lsC,cH h1,Q5,hl1];exact AX h_)
  refine T2 (hK _ _ _ ?_);clear hK K;refine aE (RT Tryz.results102 ?_);rw[hreq];exact cI [] (Rq.cv ⟨2,0,0,wd ls[a] 1⟩) (.bool true) (rdr ls (a+1)) rfl rfl (by simp[rdr,aR]) (by simp) ⟨rfl,rfl,rfl⟩
 have hChained:isV ls a bL 2=false:=hb;clear hb;refine aC fun K hK=>aZ (by kernel_rfl) ?_;simp only[sR,simprocAttr];refine SG0 ?_;refine aX (g:=none) rfl rfl fun K' hK'=>?_;simp only[sN,↓hopH.eq_def,sH,↓sP,sA,tyS,simprocAttr];refine AX (hK' _ _ ?_);clear hK' K';refine bU (g:=none) rfl rfl fun K' hK'=>T5 ?_;refine jP bQ ha rfl rfl rfl (by decide) (by simp) ⟨rfl,rfl,rfl,rfl⟩ ?_;refine AX (hK' _ _ ?_);clear hK' K';refine SG0 ?_;refine T2 (hK _ _ _ ?_);clear hK K;refine aF (b:=(iF ls a bQ).isSome) rfl (fun hb=>?_) (fun hb=>?_)
 ·
  obtain⟨n,hn⟩:=G3.1 hb;obtain⟨hl,hl1,hl2,hl3⟩:=kV hn;have hreq:lM ls a=some ⟨3,n,0,[]⟩:=by rw[iH hl,aB6 hl1 hl2,hl3];rfl
  simp only[hn,G2,F7,E0];refine AU ?_;refine aE (RT Tryz.results102 ?_);rw[hreq];exact cI [] (Rq.cv ⟨3,n,0,[]⟩) (.bool true) (rdr ls (a+1)) rfl rfl (by simp[rdr,aR]) (by simp) ⟨rfl,rfl,rfl⟩
 have hwApproved:iF ls a bQ=none:=by simpa using hb
 simp only[hwApproved,J9,E7,J2,O3];clear hb;refine aC fun K hK=>aZ (by kernel_rfl) ?_;simp only[sR,simprocAttr];refine SG0 ?_;refine aX (g:=none) rfl rfl fun K' hK'=>?_;simp only[sN,↓hopH.eq_def,sH,↓sP,sA,tyS,simprocAttr];refine AX (hK' _ _ ?_);clear hK' K';refine bU (g:=none) rfl rfl fun K' hK'=>T5 ?_;refine bF2 bW ha rfl rfl rfl rfl (by decide) (by simp) ⟨rfl,rfl,rfl,rfl⟩ ?_;intro x1 y1 hxy;refine AX (hK' _ _ ?_);clear hK' K';refine SG0 ?_;refine T2 (hK _ _ _ ?_);clear hK K;refine aF (b:=(oA ls a bW).isSome) rfl (fun hb=>?_) (fun hb=>?_)
 ·
  obtain⟨⟨n,m⟩,hn⟩:=G3.1 hb;obtain⟨hl,hl1,hl2,hl3,hl4⟩:=bS1 hn;obtain⟨rfl,rfl⟩:=hxy _ _ hn;have hreq:lM ls a=some ⟨4,x1,y1,[]⟩:=by rw[iH hl,aN6 hl1 hl2,hl3,hl4]
  simp only[hn,G2,F7];refine AU ?_;refine aE (RT Tryz.results102 ?_);rw[hreq];exact cI [] (Rq.cv ⟨4,x1,y1,[]⟩) (.bool true) (rdr ls (a+1)) rfl rfl (by simp[rdr,aR]) (by simp) ⟨rfl,rfl,rfl⟩
 have hRebuilt:oA ls a bW=none:=by simpa using hb
 simp only[hRebuilt,J9,E7,J2];clear hb;refine aC fun K hK=>aZ (by kernel_rfl) ?_;simp only[sR,simprocAttr];refine SG0 ?_;refine aX (g:=none) rfl rfl fun K' hK'=>?_;simp only[sN,↓hopH.eq_def,sH,↓sP,sA,tyS,simprocAttr];refine AX (hK' _ _ ?_);clear hK' K';refine bU (g:=none) rfl rfl fun K' hK'=>T5 ?_;refine jP cF ha rfl rfl rfl (by decide) (by simp) ⟨rfl,rfl,rfl,rfl⟩ ?_;refine AX (hK' _ _ ?_);clear hK' K';refine SG0 ?_;refine T2 (hK _ _ _ ?_);clear hK K;refine aF (b:=(iF ls a cF).isSome) rfl (fun hb=>?_) (fun hb=>?_)
 ·
  obtain⟨n,hn⟩:=G3.1 hb;obtain⟨hl,hl1,hl2,hl3⟩:=kV hn;have hreq:lM ls a=some ⟨5,n,0,[]⟩:=by rw[iH hl,aX5 hl1 hl2,hl3];rfl
  simp only[hn,G2,F7,E0];refine AU ?_;refine aE (RT Tryz.results102 ?_);rw[hreq];exact cI [] (Rq.cv ⟨5,n,0,[]⟩) (.bool true) (rdr ls (a+1)) rfl rfl (by simp[rdr,aR]) (by simp) ⟨rfl,rfl,rfl⟩
 have hwListed:iF ls a cF=none:=by simpa using hb
 simp only[hwListed,J9,E7,J2,O3];clear hb;refine aC fun K hK=>aZ (by kernel_rfl) ?_;simp only[sR,simprocAttr];refine SG0 ?_;refine aX (g:=none) rfl rfl fun K' hK'=>?_;simp only[sN,↓hopH.eq_def,sH,↓sP,sA,tyS,simprocAttr];refine AX (hK' _ _ ?_);clear hK' K';refine bU (g:=none) rfl rfl fun K' hK'=>T5 ?_;refine jP cQ ha rfl rfl rfl (by decide) (by simp) ⟨rfl,rfl,rfl,rfl⟩ ?_;refine AX (hK' _ _ ?_);clear hK' K';refine SG0 ?_;refine T2 (hK _ _ _ ?_);clear hK K;refine aF (b:=(iF ls a cQ).isSome) rfl (fun hb=>?_) (fun hb=>?_)
 ·
  obtain⟨n,hn⟩:=G3.1 hb;obtain⟨hl,hl1,hl2,hl3⟩:=kV hn;have hreq:lM ls a=some ⟨6,n,0,[]⟩:=by rw[iH hl,bE2 hl1 hl2,hl3];rfl
  simp only[hn,G2,F7,E0];refine AU ?_;refine aE (RT Tryz.results102 ?_);rw[hreq];exact cI [] (Rq.cv ⟨6,n,0,[]⟩) (.bool true) (rdr ls (a+1)) rfl rfl (by simp[rdr,aR]) (by simp) ⟨rfl,rfl,rfl⟩
 have hwClean:iF ls a cQ=none:=by simpa using hb
 simp only[hwClean,J9,E7,J2,O3];clear hb;refine aC fun K hK=>aZ (by kernel_rfl) ?_;simp only[sR,simprocAttr];refine SG0 ?_;refine aX (g:=none) rfl rfl fun K' hK'=>?_;simp only[sN,↓hopH.eq_def,sH,↓sP,sA,tyS,simprocAttr];refine AX (hK' _ _ ?_);clear hK' K';refine bU (g:=none) rfl rfl fun K' hK'=>T5 ?_;refine jP cR ha rfl rfl rfl (by decide) (by simp) ⟨rfl,rfl,rfl,rfl⟩ ?_;refine AX (hK' _ _ ?_);clear hK' K';refine SG0 ?_;refine T2 (hK _ _ _ ?_);clear hK K;refine aF (b:=(iF ls a cR).isSome) rfl (fun hb=>?_) (fun hb=>?_)
 ·
  obtain⟨n,hn⟩:=G3.1 hb;obtain⟨hl,hl1,hl2,hl3⟩:=kV hn;have hreq:lM ls a=some ⟨7,n,0,[]⟩:=by rw[iH hl,bE3 hl1 hl2,hl3];rfl
  simp only[hn,G2,F7,E0];refine AU ?_;refine aE (RT Tryz.results102 ?_);rw[hreq];exact cI [] (Rq.cv ⟨7,n,0,[]⟩) (.bool true) (rdr ls (a+1)) rfl rfl (by simp[rdr,aR]) (by simp) ⟨rfl,rfl,rfl⟩
 have hwFresh:iF ls a cR=none:=by simpa using hb
 simp only[hwFresh,J9,E7,J2,O3];clear hb;refine aC fun K hK=>Rg ?_;refine S0 ?_;refine HS rfl rfl fun K' hK'=>T5 ?_;refine cC (args:=[_,_]) (pN ls a bX ha) rfl (by simp) ⟨rfl,rfl,rfl,rfl⟩ ?_;rintro u v' ⟨rfl,rfl⟩;refine AX (hK' _ _ ?_);clear hK' K';refine S0 ?_;refine T2 (hK _ _ _ ?_);clear hK K;refine aF (b:=isV ls a bX 1) rfl (fun hb=>?_) (fun hb=>?_)
 ·
  obtain⟨hl,hl1,hl2⟩:=iG hb;have hreq:lM ls a=some ⟨8,0,0,[]⟩:=by rw[iH hl,aN7 hl1 hl2]
  rw[hb];refine AU ?_;refine aE (RT Tryz.results102 ?_);rw[hreq];exact cI [] (Rq.cv ⟨8,0,0,[]⟩) (.bool true) (rdr ls (a+1)) rfl rfl (by simp[rdr,aR]) (by simp) ⟨rfl,rfl,rfl⟩
 have hno:lM ls a=none:=bS2 hwReleased hChained hwApproved hRebuilt hwListed hwClean hwFresh hb;rw[hb];refine aJ ?_;refine T0 (hK _ _ _ ?_);clear hK K;refine AU ?_;refine aE (RT Tryz.results102 ?_);rw[hno];exact cI [] rq0.cv (.bool false) (rdr ls a) rfl rfl (by simp[rdr,aR]) (by simp) ⟨rfl,rfl,rfl⟩
theorem aY7 (ls:List (List aH))(a:Nat)(ha:ls.length<2^40):wG Tryz.prog 103 66 (rdr ls a) [] (fun u x v'=>u=((lH ls a).getD nd0).cv∧x= .bool (lH ls a).isSome∧v'=rdr ls (if(lH ls a).isSome then a+1 else a)):=by
 refine cA Tryz.func103 rfl (by kernel_rfl) (dV _ _ _) (C4 rfl) ?_;refine R0 ?_;refine R0 ?_;refine aC fun K hK=>?_;refine aM ?_;refine aC fun K hK=>Rg ?_;refine S0 ?_;refine HS rfl rfl fun K' hK'=>T5 ?_;refine cC (args:=[_,_]) (pN ls a fE ha) rfl (by simp) ⟨rfl,rfl,rfl,rfl⟩ ?_;rintro u v' ⟨rfl,rfl⟩;refine AX (hK' _ _ ?_);clear hK' K';refine S0 ?_;refine T2 (hK _ _ _ ?_);clear hK K;refine aF (b:=isV ls a fE 1) rfl (fun hb=>?_) (fun hb=>?_)
 · have hreq:=cD4 hb;rw[hb];refine AU ?_;refine aE (RT Tryz.results103 ?_);rw[hreq];exact cI [] (Nd.cv ⟨2,0,0,rq0⟩) (.bool true) (rdr ls (a+1)) rfl rfl (by simp[rdr,aR]) (by simp) ⟨rfl,rfl,rfl⟩
 have hAll:isV ls a fE 1=false:=hb;rw[hb];simp only[E7,J2];clear hb;refine aC fun K hK=>Rg ?_;refine S0 ?_;refine HS rfl rfl fun K' hK'=>T5 ?_;refine cC (args:=[_,_]) (pN ls a fH ha) rfl (by simp) ⟨rfl,rfl,rfl,rfl⟩ ?_;rintro u v' ⟨rfl,rfl⟩;refine AX (hK' _ _ ?_);clear hK' K';refine S0 ?_;refine T2 (hK _ _ _ ?_);clear hK K;refine aF (b:=isV ls a fH 1) rfl (fun hb=>?_) (fun hb=>?_)
 · have hreq:=cD5 hb;rw[hb];refine AU ?_;refine aE (RT Tryz.results103 ?_);rw[hreq];exact cI [] (Nd.cv ⟨3,0,0,rq0⟩) (.bool true) (rdr ls (a+1)) rfl rfl (by simp[rdr,aR]) (by simp) ⟨rfl,rfl,rfl⟩
 have hAny:isV ls a fH 1=false:=hb;rw[hb];simp only[E7,J2];clear hb;refine aC fun K hK=>aZ (by kernel_rfl) ?_;simp only[sR,simprocAttr];refine SG0 ?_;refine aX (g:=none) rfl rfl fun K' hK'=>?_;simp only[sN,↓hopH.eq_def,sH,↓sP,sA,tyS,simprocAttr];refine AX (hK' _ _ ?_);clear hK' K';refine bU (g:=none) rfl rfl fun K' hK'=>T5 ?_;refine jP bT ha rfl rfl rfl (by decide) (by simp) ⟨rfl,rfl,rfl,rfl⟩ ?_;refine AX (hK' _ _ ?_);clear hK' K';refine SG0 ?_;refine T2 (hK _ _ _ ?_);clear hK K;refine aF (b:=(iF ls a bT).isSome) rfl (fun hb=>?_) (fun hb=>?_)
 · obtain⟨n,hn⟩:=G3.1 hb;have hreq:=cM6 hn;simp only[hn,G2,F7,E0];refine AU ?_;refine aE (RT Tryz.results103 ?_);rw[hreq];exact cI [] (Nd.cv ⟨4,n,0,rq0⟩) (.bool true) (rdr ls (a+1)) rfl rfl (by simp[rdr,aR]) (by simp) ⟨rfl,rfl,rfl⟩
 have hAt:iF ls a bT=none:=by simpa using hb
 have hno:=bS3 hAll hAny hAt;simp only[hAt,J9,E7,J2,O3];refine aJ ?_;refine T0 (hK _ _ _ ?_);clear hK K;refine AU ?_;refine aE (RT Tryz.results103 ?_);rw[hno];exact cI [] nd0.cv (.bool false) (rdr ls a) rfl rfl (by simp[rdr,aR]) (by simp) ⟨rfl,rfl,rfl⟩
end Go.Proofs.YtlgckianjabghaaGreatDoor
