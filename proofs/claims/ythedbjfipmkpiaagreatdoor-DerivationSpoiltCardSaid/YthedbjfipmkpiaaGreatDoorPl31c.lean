/- Plain Lean: a derivation contains only what is needed (31.1, 31.6). By an AI agent. -/
import Derived.Test.YthedbjfipmkpiaaGreatDoorPl31g
set_option maxRecDepth 10000
set_option maxHeartbeats 16000000
set_option linter.unusedSimpArgs false
set_option linter.unusedVariables false
set_option linter.defProp false
namespace Go.Proofs.YthedbjfipmkpiaaGreatDoor
open Go Go.Hl Go.Pl
structure Rs where
 i:Nat
 l:List Ln
 x:Option Ln
def Rs.ls (y:Rs):List Ln:=y.l++y.x.toList
structure RI (ws:List (List aK))(y:Rs):Prop where
 le:y.i≤ws.length
 run:kM (ws.take y.i)=some y.ls
 hx:y.x=none→y.l=[]
def rdB (d:Dv)(n:Nat):HV:= .agg [.c d.q.cv,.c (.int .i64 d.t),.c (dg d.p),.c (.int .i64 d.r),.c d.o.cv,.own 12 n]
def rdE (x:Ln)(N:Nat):HV:= .agg [.c (.int .i64 x.k),.c (.int .i64 x.n),.own N x.d.length,.c (.slc (x.f.map (CV.int .i64)))]
def hpC (d:Dv)(L:List Ln):List (Nat×HO):=[(0,.box 50 (.c dv0.cv)),(28,.box 50 (rdB d L.length)),(12,.hrow 41 4 (L.map fun z=>HV.c z.cv))]
def hpO (d:Dv)(l:List Ln)(x:Ln)(N:Nat):List (Nat×HO):=[(0,.box 50 (.c dv0.cv)),(28,.box 50 (rdB d (l.length+1))),(12,.hrow 41 4 ((l.map fun z=>HV.c z.cv)++[rdE x N])),(N,.row 44 32 (x.d.map dg))]
def Rs.hp (d:Dv)(y:Rs):List (Nat×HO):=match y.x with
 |none=>hpC d []
 |some x=>hpO d y.l x 66
theorem jV (ob:Ob)(cl:List Nat): ∀l:List Ln,HV.closeL ob cl (l.map fun z=>HV.c z.cv)=l.map fun z=>HV.c z.cv
 |[]=>rfl
 |x::l=>by rw[B8,HV.closeL,jV ob cl l,HV.close,Ln.denil];rfl
theorem mG (ob:Ob)(cl:List Nat): ∀a b:List HV,HV.closeL ob cl (a++b)=HV.closeL ob cl a++HV.closeL ob cl b
 |[],b=>rfl
 |x::a,b=>by simp only[J4,HV.closeL,mG ob cl a b]
theorem mW : ∀l:List Ln,HV.toCL (l.map fun z=>HV.c z.cv)=some (l.map Ln.cv)
 |[]=>rfl
 |x::l=>by rw[B8,HV.toCL,mW l];rfl
theorem bV {M:Nat→Prop}(l:List Ln):HV.menL M (l.map fun z=>HV.c z.cv):=by
 have:=HV.menL_c (M:=M) (l:=l.map Ln.cv)
 rwa [Q4]at this
theorem jG (M:Nat→Nat): ∀l:List Ln,HV.renL M (l.map fun z=>HV.c z.cv)=l.map fun z=>HV.c z.cv
 |[]=>rfl
 |x::l=>by rw[B8,HV.renL,jG M l];rfl
theorem kH (M:Nat→Nat): ∀a b:List HV,HV.renL M (a++b)=HV.renL M a++HV.renL M b
 |[],b=>rfl
 |x::a,b=>by simp only[J4,HV.renL,kH M a b]
theorem cB (l:List Ln)(x:HV):mM ((l.map fun z=>HV.c z.cv)++[x]) l.length=x:=by
 have:=bU0 (l.map fun z=>HV.c z.cv) x
 rwa [A0]at this
theorem iW (l:List Ln)(x y:HV):((l.map fun z=>HV.c z.cv)++[x]).set l.length y=(l.map fun z=>HV.c z.cv)++[y]:=by
 rw[W8 _ _ (by simp)];simp
theorem aU3 (w:List aK):(lsC w).denil=lsC w:=by simp[lsC,denilL_str]
theorem aO5 :dv0.cv.denil=dv0.cv:=Dv.denil _
variable {d:Dv}
theorem oC {n:Nat}{code:Code}{Q:Exit→Fr→Ob→Nat→Prop}{F:List (Nat×HV)}{y:Rs}(hx:y.x=none→y.l=[])(I:sD 20200 (clF (fob (y.hp d)) [66] (fin F)) F)(h:Hw Tryz.prog n 0 code Q (fin F) (fob (hpC d y.ls)) 20200):Hw Tryz.prog n 0 code Q (fin F) (fob (y.hp d)) 20100:=by
 obtain⟨i,l,x⟩:=y;cases x with
 |none=>
  obtain rfl:l=[]:=hx rfl;refine bW [66] (aZ (bA (by omega) I ?_) h);simp[Rs.hp,Rs.ls,hpC,rdB,Qs.denil,Og.denil,dg_denil,aO5]
 |some x=>
  refine bW [66] (aZ (bA (by omega) I ?_) h);simp[Rs.hp,Rs.ls,hpC,hpO,rdB,rdE,mG,jV,Qs.denil,Og.denil,dg_denil,aO5,denilL_dg,denilL_int,bV,nU];rfl
theorem rP {ls:List (List aK)}{ob:Ob}{r:HV}{d:Dv}{L:List Ln}{b:Bool}(J:r= .tup [rdB d L.length,.c (.bool b)])(I:ob 12=some (.row 41 4 (L.map Ln.cv)))(hs:(fZ ls).isSome=b)(U: ∀x,fZ ls=some x→x={d with l:=L}):
  gR 0 r ob (fun r ob'=> ∃u v,r= .tup [.c u,.c v]∧(v= .bool (fZ ls).isSome∧ ∃x:Dv,u=x.cv∧ ∀d,fZ ls=some d→x=d)∧ob'=cZ):=by
 subst J;refine aO [12] ({d with l:=L}:Dv).cv (.bool b) ?_ ⟨by rw[hs],_,rfl,fun x hx=>(U x hx).symm⟩;simp[rdB,Dv.cv,Qs.denil,Og.denil,dg_denil,I,denilL_Ln]
theorem cW6 (ls:List (List aK))(hl:ls.length<2^38)(hn: ∀l∈ls,0<l.length∧l.length<2^38)(U: ∀l∈ls,∀w∈l,w.length<2^40):fH Tryz.prog 62 [.slc (ls.map lsC)] (fun u v=>v= .bool (fZ ls).isSome∧ ∃x:Dv,u=x.cv∧ ∀d,fZ ls=some d→x=d):=by
 refine FW Tryz.func62 ?_;refine R0 ?_;refine aC fun K J=>Rg ?_;refine S0 ?_;refine HS rfl rfl fun K' I=>T5 ?_;rw[show CV.denilL (ls.map lsC)=ls.map lsC from bZ (fun w=>by simp[lsC,denilL_str]) ls];refine dR [] (head_ok ls U) rfl trivial (by simp) (by simp) ⟨rfl,rfl,rfl,rfl⟩ (by simp[cV]) (by simp) ?_;rintro u bd ⟨x,bk,rfl,rfl,au⟩;simp only[HV.ren,HV.renL,iL,HO.ren,F2,F0,show sub [] 12 0=12 from rfl];refine AX (I _ _ ?_);clear I K';iterate 6 refine S0 ?_
 refine T2 (J _ _ _ ?_);clear J K;refine aC fun K J=>?_;refine R0 ?_;refine aJ (b:=!(iT ls).isSome) rfl (fun U=>?_) (fun U=>?_)
 ·
  have ao:fZ ls=none:=by
   rw[tI];cases h:iT ls with
   |none=>rfl
   |some d=>rw[h]at U;cases U
  refine R0 ?_
  skip
  refine aE (RT Tryz.results62 ?_);refine⟨rfl,?_⟩;refine aO [12] ({x with l:=[]}:Dv).cv (.bool false) ?_ ⟨by rw[ao];rfl,_,rfl,fun d hd=>by rw[ao]at hd;cases hd⟩;simp[Dv.cv,Qs.denil,Og.denil,dg_denil]
 obtain⟨d,ai⟩:=G0.1 (show(iT ls).isSome=true by simpa using U);obtain rfl:=au d ai;clear au U;have h2:2≤ls.length:=by
  unfold iT at ai;split at ai
  · cases ai
  omega
 have hdr:List.drop 2 (ls.map lsC)=(ls.drop 2).map lsC:=by rw[P3]
 have ay:List.take (ls.length-2) ((ls.drop 2).map lsC)=(ls.drop 2).map lsC:=C8 (by simp);have aj:ls.length-2=(ls.drop 2).length:=by simp
 have af:=tI ls;rw[ai]at af;simp only[J0]at af;have aw: ∀l∈ls.drop 2,0<l.length∧l.length<2^38:=fun l h=>hn l (X1 _ _ h);have ar: ∀l∈ls.drop 2,∀w∈l,w.length<2^40:=fun l h=>U l (X1 _ _ h);have bg: ∀v∈ls.map lsC,v.cells=1:=by intro v hv;obtain⟨w,_,rfl⟩:=H0.1 hv;rfl
 refine aG ?_;refine T0 (J _ _ _ ?_);clear J K;refine aC fun K J=>?_;refine aC fun K J=>Rg ?_;have F:=aI @A0.{0,0} (aI hdr ay);iterate 4 refine SF ?_
 refine T2 (J _ _ _ ?_);clear J K;refine aL ?_;obtain⟨ws,bb⟩: ∃ws,ws=ls.drop 2:=⟨_,rfl⟩;rw[←bb]at hdr ay aj af aw ar⊢;refine aS1 12 rfl ?_;refine bW [] ?_;refine bB (α:={y:Rs//RI ws y}) (fun y=>(fin [(2,.ptr 0 0),(4,.ptr 28 0),(22,.c (.slc (ws.map lsC))),(23,.c (.int .i64 ws.length)),(24,.c (.int .i64 y.1.i))],fob (y.1.hp d))) 20000 (fun y=>ws.length-y.1.i) ⟨⟨0,[],none⟩,⟨I1 _,rfl,fun _=>rfl⟩⟩ (by simp only[Rs.hp,hpC];exact bA (by omega) (by simp[cK,rdB,Qs.denil,Og.denil,dg_denil,aj,fX,(show CV.agg [CV.agg [CV.str [],CV.str [],zd],CV.int IntKind.i64 0,zd,CV.int IntKind.i64 0,CV.agg [zd,CV.str [],CV.str []],CV.slc []]=dv0.cv from rfl)]) (by simp[cK,rdB,Qs.denil,Og.denil,dg_denil,aj,fX,(show CV.agg [CV.agg [CV.str [],CV.str [],zd],CV.int IntKind.i64 0,zd,CV.int IntKind.i64 0,CV.agg [zd,CV.str [],CV.str []],CV.slc []]=dv0.cv from rfl)])) ?_;rintro⟨⟨i,l,z⟩,hy⟩;have az:=hy.le;have aa:=hy.run;have ag:=hy.hx;simp only at az aa ag⊢;clear hy;have F:=@A0.{0,0};refine RF ?_;refine aC fun K J=>?_;refine aJ (b:=decide ((i:Int)<ws.length)) rfl (fun U=>?_) (fun U=>?_)
 ·
  have ad:i<ws.length:=by simpa using U
  have hw:=aw _ (B5 ad);have hlen:=xN az aa;clear U;refine aG ?_;refine T0 (J _ _ _ ?_);clear J K;refine aC fun K J=>?_;refine aL ?_;have F:=aI @A1 (aI @A4 (aI ad (aI (nM ad) (aI @A0.{0,0} (aI @dX (aI @aU3 (aI @A6 @lsC.eq_1)))))));refine RF ?_;refine aC fun K J=>?_;refine aC fun K J=>Rg ?_;iterate 4 refine S0 ?_ (e:=fun _ h_=>by simp only[sH,↓sP,sA,tyS,simprocAttr,A0,cY hw.1,E7];exact AX h_)
  refine T2 (J _ _ _ ?_);clear J K;refine aJ (b:=!(wd ws[i] 0==wDoc)) rfl (fun U=>?_) (fun U=>?_)
  ·
   have ax:wd ws[i] 0≠wDoc:=by simpa using U
   clear U;refine aZ (fr2:=fin [(2,.ptr 0 0),(4,.ptr 28 0),(7,.c (.slc (ws[i].map .str))),(22,.c (.slc (ws.map lsC))),(23,.c (.int .i64 ws.length)),(24,.c (.int .i64 i))]) (ob2:=fob (Rs.hp d ⟨i,l,z⟩)) (nx2:=20100) (by cases z<;>simp only[Rs.hp,hpC,hpO]<;>exact fG (by simp[rdB,rdE,bV])) ?_;refine oC (y:=⟨i,l,z⟩) ag (by simp[denilL_str,cK]) ?_;obtain⟨L,hL⟩: ∃L,L=Rs.ls ⟨i,l,z⟩:=⟨_,rfl⟩;rw[←hL]at aa hlen⊢;simp only[hpC];clear hL ag;refine aC fun K J=>Rg ?_;refine S0 ?_;refine HS rfl rfl fun K' I=>T5 ?_;refine dR [] (cW4 ws[i] hw.2 hw.1) rfl trivial (by simp) (by simp) ⟨rfl,rfl,rfl,rfl⟩ (by simp[cV]) (by simp) ?_;rintro u bd ⟨k,n,f,rfl,rfl,hk⟩;simp only[HV.ren,HV.renL,iL,HO.ren,F2,F0,show sub [] 20204 0=20204 from rfl];refine AX (I _ _ ?_);clear I K';iterate 6 refine S0 ?_
   refine T2 (J _ _ _ ?_);clear J K;refine aC fun K J=>?_;refine R0 ?_;refine aJ (b:=!(fS ws[i]).isSome) rfl (fun U=>?_) (fun U=>?_)
   ·
    have ab:fZ ls=none:=by
     rw[af,mF ad aa]
     · rfl
     rw[aE9 ax];cases h:fS ws[i]with
     |none=>rfl
     |some x=>rw[h]at U;cases U
    refine R0 ?_ (e:=fun _ h_=>by simp only[↓sP,sA,tyS,simprocAttr,rdB];exact AX h_);refine mU 12 (L.map Ln.cv) rfl (mW L) ?_;refine aE (RT Tryz.results62 ?_);refine⟨rfl,?_⟩;exact rP (d:=d) (L:=L) rfl rfl (by rw[ab];rfl) (fun x hx=>by rw[ab]at hx;cases hx)
   obtain⟨q,hq⟩:=G0.1 (show(fS ws[i]).isSome=true by simpa using U);obtain rfl:=hk q hq;clear U hk;have hstep:dW L ws[i]=some (L++[⟨k,n,[],f⟩]):=by rw[aE9 ax,hq];rfl
   refine aG ?_;refine T0 (J _ _ _ ?_);clear J K;refine aC fun K J=>aY (by kernel_rfl) ?_;simp only[sR,simprocAttr];iterate 3 refine SG0 ?_ (e:=fun _ h_=>by simp only[sH,↓sP,sA,tyS,simprocAttr,rdB,A0,C0];exact AX h_)
   refine aU (g:=none) rfl rfl fun K' I=>?_;simp only[sN,↓hopH.eq_def,sH,↓sP,sA,tyS,simprocAttr,rdB,A0,C0];refine AX (I _ _ ?_);clear I K';refine aU (g:=none) rfl rfl fun K' I=>?_;simp only[sN,↓hopH.eq_def,sH,↓sP,sA,tyS,simprocAttr,rdB,A0,C0];refine AX (I _ _ ?_);clear I K';iterate 2 refine SG0 ?_ (e:=fun _ h_=>by simp only[sH,↓sP,sA,tyS,simprocAttr,rdB,A0,C0];exact AX h_)
   refine T2 (J _ _ _ ?_);clear J K;refine aV (T3 ?_);clear J K;refine AX (J _ _ _ ?_);clear J K;refine bL2 20204 66 20400 [(2,.ptr 0 0),(4,.ptr 28 0),(22,.c (.slc (ws.map lsC))),(23,.c (.int .i64 ws.length)),(24,.c (.int .i64 i))] (hpO d L ⟨k,n,[],f⟩ 20204) (by simp) (by simp[hpO,rdB,rdE,bV]) (by omega) (by omega) (by omega) (by omega) (by omega) (by omega) (by omega) (by simp) (by simp[hpO,rdB,rdE,bV]) (aZ (fr2:=fin [(2,.ptr 0 0),(4,.ptr 28 0),(22,.c (.slc (ws.map lsC))),(23,.c (.int .i64 ws.length)),(24,.c (.int .i64 i))]) (ob2:=fob (hpO d L ⟨k,n,[],f⟩ 66)) (nx2:=20500) (by simp only[hpO];exact fG (by simp[mvF,mvO,mvN,kH,jG,bV,rdB,rdE])) ?_);simp only[hpO];refine aM (by kernel_rfl) ?_;refine TQ (show IntKind.i64.wrap ((i:Int)+1)=((i+1:Nat):Int)from by rw[B0 _ (by omega)];rfl) ?_;refine⟨⟨⟨i+1,L,some ⟨k,n,[],f⟩⟩,⟨ad,?_,fun h=>by cases h⟩⟩,?_,?_⟩
   · show kM (ws.take (i+1))=some (Rs.ls ⟨i+1,L,some ⟨k,n,[],f⟩⟩);rw[mE ad aa];exact hstep
   · simp only[Rs.hp,hpO];exact fG (by simp[rdB,rdE,bV])
   show ws.length-(i+1)<ws.length-i;omega
  have ah:wd ws[i] 0=wDoc:=by simpa using U
  clear U;refine aG ?_;refine T0 (J _ _ _ ?_);clear J K;by_cases ak:z=none
  ·
   subst ak;obtain rfl:l=[]:=ag rfl;simp only[Rs.hp,hpC];have ab:fZ ls=none:=by rw[af,mF ad aa (bC7 ah)];rfl
   refine aC fun K J=>aY (by kernel_rfl) ?_;simp only[sR,simprocAttr];iterate 2 refine SG0 ?_ (e:=fun _ h_=>by simp only[sH,↓sP,sA,tyS,simprocAttr,rdB,C0,F2,(show IntKind.i64.wrap (((0:Nat):Int)-1)= -1 from rfl),(show IntKind.i64.wrap (-1)= -1 from rfl)];exact AX h_)
   refine aU (g:=none) rfl rfl fun K' I=>?_;simp only[sN,↓hopH.eq_def,sH,↓sP,sA,tyS,simprocAttr,rdB,C0,F2,(show IntKind.i64.wrap (((0:Nat):Int)-1)= -1 from rfl),(show IntKind.i64.wrap (-1)= -1 from rfl)];refine AX (I _ _ ?_);clear I K';iterate 2 refine SG0 ?_ (e:=fun _ h_=>by simp only[sH,↓sP,sA,tyS,simprocAttr,rdB,C0,F2,(show IntKind.i64.wrap (((0:Nat):Int)-1)= -1 from rfl),(show IntKind.i64.wrap (-1)= -1 from rfl)];exact AX h_)
   refine T2 (J _ _ _ ?_);clear J K;refine aC fun K J=>?_;refine aC fun K J=>aY (by kernel_rfl) ?_;simp only[sR,simprocAttr];iterate 16 refine SG0 ?_ (e:=fun _ h_=>by simp only[sH,↓sP,sA,tyS,simprocAttr,(show decide ((-1:Int)<0)=true from rfl),(show((-1:Int)<0)=True from by simp),(show IntKind.i64.wrap (-1)= -1 from rfl),↓reduceIte];exact AX h_)
   refine T2 (J _ _ _ ?_);clear J K;refine CT rfl ?_;refine aZ (fr2:=fin [(2,.ptr 0 0),(4,.ptr 28 0)]) (ob2:=fob (Rs.hp d ⟨i,[],none⟩)) (nx2:=20100) (by simp only[Rs.hp,hpC];exact fG (by simp[rdB,rdE,bV])) ?_;refine oC (y:=⟨i,[],none⟩) (fun _=>rfl) (by simp) ?_;obtain⟨L,hL⟩: ∃L,L=Rs.ls ⟨i,[],none⟩:=⟨_,rfl⟩;rw[←hL];simp only[hpC];refine R0 ?_ (e:=fun _ h_=>by simp only[↓sP,sA,tyS,simprocAttr,rdB];exact AX h_);refine mU 12 (L.map Ln.cv) rfl (mW L) ?_;refine aE (RT Tryz.results62 ?_);refine⟨rfl,?_⟩;exact rP (d:=d) (L:=L) rfl rfl (by rw[ab];rfl) (fun x hx=>by rw[ab]at hx;cases hx)
  obtain⟨q,rfl⟩:=Y9.1 ak;clear ak ag;simp only[Rs.hp,hpO];have bh:=hlen.2 q (by simp[Rs.ls]);have bj:l.length+1≤i:=by have:=hlen.1;simpa[Rs.ls]using this
  refine aC fun K J=>aY (by kernel_rfl) ?_;simp only[sR,simprocAttr];iterate 2 refine SG0 ?_ (e:=fun _ h_=>by simp only[sH,↓sP,sA,tyS,simprocAttr,rdB,A3,A0,A8,C0,F0,(show IntKind.i64.wrap (((l.length+1:Nat):Int)-1)=(l.length:Int)from by rw[B0 _ (by omega)];omega)];exact AX h_)
  refine aU (g:=none) rfl rfl fun K' I=>?_;simp only[sN,↓hopH.eq_def,sH,↓sP,sA,tyS,simprocAttr,rdB,A3,A0,A8,C0,F0,(show IntKind.i64.wrap (((l.length+1:Nat):Int)-1)=(l.length:Int)from by rw[B0 _ (by omega)];omega)];refine AX (I _ _ ?_);clear I K';iterate 2 refine SG0 ?_ (e:=fun _ h_=>by simp only[sH,↓sP,sA,tyS,simprocAttr,rdB,A3,A0,A8,C0,F0,(show IntKind.i64.wrap (((l.length+1:Nat):Int)-1)=(l.length:Int)from by rw[B0 _ (by omega)];omega)];exact AX h_)
  refine T2 (J _ _ _ ?_);clear J K;refine aC fun K J=>?_;by_cases hk:q.k=1
  ·
   have ae:(q.k !=1)=false:=by rw[hk];rfl
   refine aC fun K J=>aY (by kernel_rfl) ?_;simp only[sR,simprocAttr];iterate 6 refine SG0 ?_ (e:=fun _ h_=>by simp only[sH,↓sP,sA,tyS,simprocAttr,rdB,rdE,(show decide ((l.length:Int)<0)=false from decide_eq_false (by omega)),cB,List.length_append,List.length_map,List.length_cons,List.length_nil,Nat.zero_add,Int.natCast_nonneg,Int.ofNat_lt,Nat.lt_succ_self,Int.toNat_natCast,ae];exact AX h_)
   refine aU (g:=some (52,false)) rfl rfl fun K' I=>?_;simp only[sN,↓hopH.eq_def,sH,↓sP,sA,tyS,simprocAttr,rdB,rdE,(show decide ((l.length:Int)<0)=false from decide_eq_false (by omega)),cB,List.length_append,List.length_map,List.length_cons,List.length_nil,Nat.zero_add,Int.natCast_nonneg,Int.ofNat_lt,Nat.lt_succ_self,Int.toNat_natCast,ae];refine AX (I _ _ ?_);clear I K';refine aU (g:=some (52,false)) rfl rfl fun K' I=>?_;simp only[sN,↓hopH.eq_def,sH,↓sP,sA,tyS,simprocAttr,rdB,rdE,(show decide ((l.length:Int)<0)=false from decide_eq_false (by omega)),cB,List.length_append,List.length_map,List.length_cons,List.length_nil,Nat.zero_add,Int.natCast_nonneg,Int.ofNat_lt,Nat.lt_succ_self,Int.toNat_natCast,ae];refine AX (I _ _ ?_);clear I K';refine aU (g:=some (52,false)) rfl rfl fun K' I=>?_;simp only[sN,↓hopH.eq_def,sH,↓sP,sA,tyS,simprocAttr,rdB,rdE,(show decide ((l.length:Int)<0)=false from decide_eq_false (by omega)),cB,List.length_append,List.length_map,List.length_cons,List.length_nil,Nat.zero_add,Int.natCast_nonneg,Int.ofNat_lt,Nat.lt_succ_self,Int.toNat_natCast,ae];refine AX (I _ _ ?_);clear I K';iterate 7 refine SG0 ?_ (e:=fun _ h_=>by simp only[sH,↓sP,sA,tyS,simprocAttr,rdB,rdE,(show decide ((l.length:Int)<0)=false from decide_eq_false (by omega)),cB,List.length_append,List.length_map,List.length_cons,List.length_nil,Nat.zero_add,Int.natCast_nonneg,Int.ofNat_lt,Nat.lt_succ_self,Int.toNat_natCast,ae];exact AX h_)
   refine T2 (J _ _ _ ?_);clear J K;refine aJ (b:=((ws[i].length:Int) !=2)) rfl (fun U=>?_) (fun U=>?_)
   ·
    have an:ws[i].length≠2:=by intro e;rw[e]at U;exact absurd U (by decide)
    clear U;have ab:fZ ls=none:=by rw[af,mF ad aa (qO ah (.inr (.inl an)))];rfl
    refine aZ (fr2:=fin [(2,.ptr 0 0),(4,.ptr 28 0)]) (ob2:=fob (Rs.hp d ⟨i,l,some q⟩)) (nx2:=20100) (by simp only[Rs.hp,hpO];exact fG (by simp[rdB,rdE,bV])) ?_;refine oC (y:=⟨i,l,some q⟩) (fun h=>by cases h) (by simp) ?_;obtain⟨L,hL⟩: ∃L,L=Rs.ls ⟨i,l,some q⟩:=⟨_,rfl⟩;rw[←hL];simp only[hpC];refine R0 ?_ (e:=fun _ h_=>by simp only[↓sP,sA,tyS,simprocAttr,rdB];exact AX h_);refine mU 12 (L.map Ln.cv) rfl (mW L) ?_;refine aE (RT Tryz.results62 ?_);refine⟨rfl,?_⟩;exact rP (d:=d) (L:=L) rfl rfl (by rw[ab];rfl) (fun x hx=>by rw[ab]at hx;cases hx)
   have an:ws[i].length=2:=by
    have: ¬((ws[i].length:Int)≠2):=fun h=>by rw[R9.2 h]at U;cases U
    omega
   clear U;have bf:(wd ws[i] 1).length<2^40:=by
    unfold wd;rw[B4,A9 (by omega)];exact ar _ (B5 ad) _ (B5 _)
   refine aG ?_;refine T0 (J _ _ _ ?_);clear J K;refine aC fun K J=>Rg ?_;iterate 3 refine S0 ?_ (e:=fun _ h_=>by simp only[sH,↓sP,sA,tyS,simprocAttr,A0,cY (show 1<ws[i].length by omega),K0];exact AX h_)
   refine HS rfl rfl fun K' I=>?_;simp only[sH,↓sP,sA,tyS,simprocAttr,A0,cY (show 1<ws[i].length by omega),K0];refine D1 (rM (wd ws[i] 1) bf) ?_;rintro u v ⟨rfl,rfl⟩;refine AX (I _ _ ?_);clear I K';iterate 6 refine S0 ?_ (e:=fun _ h_=>by simp only[sH,↓sP,sA,tyS,simprocAttr,A0,cY (show 1<ws[i].length by omega),K0];exact AX h_)
   refine T2 (J _ _ _ ?_);clear J K;refine aC fun K J=>?_;refine R0 ?_;refine aJ (b:=!(eZ (wd ws[i] 1)).isSome) rfl (fun U=>?_) (fun U=>?_)
   ·
    have ba:(eZ (wd ws[i] 1)).isSome=false:=by simpa using U
    clear U;have ab:fZ ls=none:=by rw[af,mF ad aa (qO ah (.inr (.inr ba)))];rfl
    refine aZ (fr2:=fin [(2,.ptr 0 0),(4,.ptr 28 0)]) (ob2:=fob (Rs.hp d ⟨i,l,some q⟩)) (nx2:=20100) (by simp only[Rs.hp,hpO];exact fG (by simp[rdB,rdE,bV])) ?_;refine oC (y:=⟨i,l,some q⟩) (fun h=>by cases h) (by simp) ?_;obtain⟨L,hL⟩: ∃L,L=Rs.ls ⟨i,l,some q⟩:=⟨_,rfl⟩;rw[←hL];simp only[hpC];refine R0 ?_ (e:=fun _ h_=>by simp only[↓sP,sA,tyS,simprocAttr,rdB];exact AX h_);refine mU 12 (L.map Ln.cv) rfl (mW L) ?_;refine aE (RT Tryz.results62 ?_);refine⟨rfl,?_⟩;exact rP (d:=d) (L:=L) rfl rfl (by rw[ab];rfl) (fun x hx=>by rw[ab]at hx;cases hx)
   obtain⟨dd,aq⟩:=G0.1 (show(eZ (wd ws[i] 1)).isSome=true by simpa using U);rw[aq];clear U;refine aG ?_;refine T0 (J _ _ _ ?_);clear J K;refine dT mixed [(0,[],[]),(1,[],[]),(2,[],[]),(3,[],[]),(4,[],[]),(5,[],[]),(6,[],[]),(7,[],[]),(8,[],[]),(9,[],[]),(10,[],[]),(11,[],[0,1,2]),(12,[],[]),(13,[],[]),(14,[],[])] [0,1,0,0,8,0,56,120,248,0,512,2040,4095,8191,16383] (by kernel_rfl) (by kernel_rfl) (by kernel_rfl) (by kernel_rfl) rfl (by kernel_rfl) ?_;iterate 6 refine WG0 ?_ (e:=fun _ h_=>by simp only[sH,↓sP,sA,tyS,simprocAttr,rdB,rdE,cB,iW,A3,A0,A8,C0,F0,A1,A4,J6,A6,E9];exact AX h_)
   refine bI (g:=none) rfl rfl fun K' I=>?_;simp only[sN,↓hopH.eq_def,sH,↓sP,sA,tyS,simprocAttr,rdB,rdE,cB,iW,A3,A0,A8,C0,F0,A1,A4,J6,A6,E9];refine AX (I _ _ ?_);clear I K';refine bI (g:=none) rfl rfl fun K' I=>?_;simp only[sN,↓hopH.eq_def,sH,↓sP,sA,tyS,simprocAttr,rdB,rdE,cB,iW,A3,A0,A8,C0,F0,A1,A4,J6,A6,E9];refine AX (I _ _ ?_);clear I K';refine bI (g:=none) rfl rfl fun K' I=>?_;simp only[sN,↓hopH.eq_def,sH,↓sP,sA,tyS,simprocAttr,rdB,rdE,cB,iW,A3,A0,A8,C0,F0,A1,A4,J6,A6,E9];refine AX (I _ _ ?_);clear I K';iterate 3 refine WG0 ?_ (e:=fun _ h_=>by simp only[sH,↓sP,sA,tyS,simprocAttr,rdB,rdE,cB,iW,A3,A0,A8,C0,F0,A1,A4,J6,A6,E9];exact AX h_)
   refine bI (g:=none) rfl rfl fun K' I=>?_;simp only[sN,↓hopH.eq_def,sH,↓sP,sA,tyS,simprocAttr,rdB,rdE,cB,iW,A3,A0,A8,C0,F0,A1,A4,J6,A6,E9];refine AX (I _ _ ?_);clear I K';refine bI (g:=none) rfl rfl fun K' I=>?_;simp only[sN,↓hopH.eq_def,sH,↓sP,sA,tyS,simprocAttr,rdB,rdE,cB,iW,A3,A0,A8,C0,F0,A1,A4,J6,A6,E9];refine AX (I _ _ ?_);clear I K';refine bI (g:=none) rfl rfl fun K' I=>?_;simp only[sN,↓hopH.eq_def,sH,↓sP,sA,tyS,simprocAttr,rdB,rdE,cB,iW,A3,A0,A8,C0,F0,A1,A4,J6,A6,E9];refine AX (I _ _ ?_);clear I K';refine T2 (J _ _ _ ?_);clear J K;refine aM (by kernel_rfl) ?_;refine TQ (show IntKind.i64.wrap ((i:Int)+1)=((i+1:Nat):Int)from by rw[B0 _ (by omega)];rfl) ?_;refine⟨⟨⟨i+1,l,some (mD q dd)⟩,⟨ad,?_,fun h=>by cases h⟩⟩,?_,?_⟩
   · show kM (ws.take (i+1))=some (Rs.ls ⟨i+1,l,some (mD q dd)⟩);rw[mE ad aa];exact bC8 ah hk an aq
   · simp only[Rs.hp,hpO];exact fG (by simp[rdB,rdE,mD,bV])
   show ws.length-(i+1)<ws.length-i;omega
  have ae:(q.k !=1)=true:=R9.2 hk;have ab:fZ ls=none:=by rw[af,mF ad aa (qO ah (.inl hk))];rfl
  refine aC fun K J=>aY (by kernel_rfl) ?_;simp only[sR,simprocAttr];iterate 6 refine SG0 ?_ (e:=fun _ h_=>by simp only[sH,↓sP,sA,tyS,simprocAttr,rdB,rdE,(show decide ((l.length:Int)<0)=false from decide_eq_false (by omega)),cB,List.length_append,List.length_map,List.length_cons,List.length_nil,Nat.zero_add,Int.natCast_nonneg,Int.ofNat_lt,Nat.lt_succ_self,Int.toNat_natCast,ae];exact AX h_)
  refine aU (g:=some (52,false)) rfl rfl fun K' I=>?_;simp only[sN,↓hopH.eq_def,sH,↓sP,sA,tyS,simprocAttr,rdB,rdE,(show decide ((l.length:Int)<0)=false from decide_eq_false (by omega)),cB,List.length_append,List.length_map,List.length_cons,List.length_nil,Nat.zero_add,Int.natCast_nonneg,Int.ofNat_lt,Nat.lt_succ_self,Int.toNat_natCast,ae];refine AX (I _ _ ?_);clear I K';refine aU (g:=some (52,false)) rfl rfl fun K' I=>?_;simp only[sN,↓hopH.eq_def,sH,↓sP,sA,tyS,simprocAttr,rdB,rdE,(show decide ((l.length:Int)<0)=false from decide_eq_false (by omega)),cB,List.length_append,List.length_map,List.length_cons,List.length_nil,Nat.zero_add,Int.natCast_nonneg,Int.ofNat_lt,Nat.lt_succ_self,Int.toNat_natCast,ae];refine AX (I _ _ ?_);clear I K';refine aU (g:=some (52,false)) rfl rfl fun K' I=>?_;simp only[sN,↓hopH.eq_def,sH,↓sP,sA,tyS,simprocAttr,rdB,rdE,(show decide ((l.length:Int)<0)=false from decide_eq_false (by omega)),cB,List.length_append,List.length_map,List.length_cons,List.length_nil,Nat.zero_add,Int.natCast_nonneg,Int.ofNat_lt,Nat.lt_succ_self,Int.toNat_natCast,ae];refine AX (I _ _ ?_);clear I K';iterate 7 refine SG0 ?_ (e:=fun _ h_=>by simp only[sH,↓sP,sA,tyS,simprocAttr,rdB,rdE,(show decide ((l.length:Int)<0)=false from decide_eq_false (by omega)),cB,List.length_append,List.length_map,List.length_cons,List.length_nil,Nat.zero_add,Int.natCast_nonneg,Int.ofNat_lt,Nat.lt_succ_self,Int.toNat_natCast,ae];exact AX h_)
  refine T2 (J _ _ _ ?_);clear J K;refine CT rfl ?_;refine aZ (fr2:=fin [(2,.ptr 0 0),(4,.ptr 28 0)]) (ob2:=fob (Rs.hp d ⟨i,l,some q⟩)) (nx2:=20100) (by simp only[Rs.hp,hpO];exact fG (by simp[rdB,rdE,bV])) ?_;refine oC (y:=⟨i,l,some q⟩) (fun h=>by cases h) (by simp) ?_;obtain⟨L,hL⟩: ∃L,L=Rs.ls ⟨i,l,some q⟩:=⟨_,rfl⟩;rw[←hL];simp only[hpC];refine R0 ?_ (e:=fun _ h_=>by simp only[↓sP,sA,tyS,simprocAttr,rdB];exact AX h_);refine mU 12 (L.map Ln.cv) rfl (mW L) ?_;refine aE (RT Tryz.results62 ?_);refine⟨rfl,?_⟩;exact rP (d:=d) (L:=L) rfl rfl (by rw[ab];rfl) (fun x hx=>by rw[ab]at hx;cases hx)
 have bc:i=ws.length:=by
  have: ¬(i<ws.length):=by simpa using U
  omega
 clear U;refine aZ (fr2:=fin [(2,.ptr 0 0),(4,.ptr 28 0)]) (ob2:=fob (Rs.hp d ⟨i,l,z⟩)) (nx2:=20100) (by cases z<;>simp only[Rs.hp,hpC,hpO]<;>exact fG (by simp[rdB,rdE,bV])) ?_;refine oC (y:=⟨i,l,z⟩) ag (by simp) ?_;obtain⟨L,hL⟩: ∃L,L=Rs.ls ⟨i,l,z⟩:=⟨_,rfl⟩;rw[←hL];simp only[hpC];rw[←hL,bc,C6]at aa;rw[aa]at af;refine aV (T3 ?_);clear J K;refine AX (J _ _ _ ?_);clear J K;refine R0 ?_ (e:=fun _ h_=>by simp only[↓sP,sA,tyS,simprocAttr,rdB];exact AX h_);refine mU 12 (L.map Ln.cv) rfl (mW L) ?_;refine aE (RT Tryz.results62 ?_);refine⟨rfl,?_⟩;exact rP (d:=d) (L:=L) rfl rfl (by rw[af];rfl) (fun x hx=>by rw[af]at hx;exact(F6 hx).symm)
variable {i:Nat}{α:Type}
theorem aF0 {a b:List α}(J:i<a.length)(I:i<b.length)(h:a.take i=b.take i)(e:a[i]=b[i]):a.take (i+1)=b.take (i+1):=by
 rw[A5 J,A5 I,h,e]
theorem aF1 {a b:List α}(hl:a.length=b.length)(h:a.take a.length=b.take a.length):a=b:=by
 rw[C6,hl,C6]at h;exact h
variable {x:Ln}
theorem dF9 {y:Ln}(h1:(x.k !=y.k)=false)(h2:(x.n !=y.n)=false)(h3:(x.d==y.d)=true)(h4:(x.f==y.f)=true):x=y:=by
 have U:x.k=y.k:=by simpa using h1
 have J:x.n=y.n:=by simpa using h2
 have I:=eq_of_beq h3;have e4:=eq_of_beq h4;cases x;cases y;simp only at U J I e4;subst U J I e4;rfl
theorem bZ1 (a b:aK):bM Tryz.prog 63 [.slc (a.map cM),.slc (b.map cM)] (fun v=>v= .bool (a==b)):=by
 refine FW Tryz.func63 ?_;refine R0 ?_;refine RS ?_;have F:=@bytesC_map;refine AU ?_;refine aE (RT Tryz.results63 ?_);exact aF [] (.bool (a==b)) rfl rfl
theorem cL0 (a b:List Int)(ha:a.length<2^40):bM Tryz.prog 41 [.slc (a.map (CV.int .i64)),.slc (b.map (CV.int .i64))] (fun v=>v= .bool (a==b)):=by
 refine FW Tryz.func41 ?_;refine R0 ?_;refine aC fun K I=>?_;refine AU ?_;refine aJ (b:=!((a.length:Int)==(b.length:Int))) rfl (fun J=>?_) (fun J=>?_)
 ·
  refine R0 ?_;refine aE (RT Tryz.results41 ?_);have ad:a≠b:=by rintro rfl;simp at J
  exact aF [] (.bool false) rfl (by rw[S4 ad])
 have af:(a.length:Int)=b.length:=by simpa using J
 have hlen:a.length=b.length:=by omega
 clear J;refine aG ?_;refine T0 (I _ _ _ ?_);clear I K;refine aC fun K I=>?_;refine R0 ?_;refine aL ?_;refine bB (α:={i:Nat//i≤a.length∧a.take i=b.take i}) (fun i=>(fin [(0,.c (.slc (a.map (CV.int .i64)))),(1,.c (.slc (b.map (CV.int .i64)))),(5,.c (.int .i64 i.1))],fob [])) 100 (fun i=>a.length-i.1) ⟨0,by omega,by simp⟩ (fF) ?_;rintro⟨i,hi,ab⟩;refine aC fun K I=>?_;refine AU ?_;refine aJ (b:=decide ((i:Int)<a.length)) rfl (fun J=>?_) (fun J=>?_)
 ·
  have aa:i<a.length:=by simpa using J
  have U:i<b.length:=by omega
  clear J;refine aG ?_;refine T0 (I _ _ _ ?_);clear I K;refine aC fun K I=>?_;refine aL ?_;refine aC fun K I=>QR ?_;have F:=aI @A1 (aI @A4 (aI aa (aI (nM aa) (aI U (nM U)))));refine AU ?_;refine T2 (I _ _ _ ?_);clear I K;refine aJ (b:=!(a[i]==b[i])) rfl (fun J=>?_) (fun J=>?_)
  ·
   refine R0 ?_;refine aE (RT Tryz.results41 ?_);have ad:a≠b:=by rintro rfl;simp at J
   exact aF [] (.bool false) rfl (by rw[S4 ad])
  refine aG ?_;refine T0 (I _ _ _ ?_);clear I K;refine aM (by kernel_rfl) ?_;refine TQ (cW i) ?_;refine⟨⟨i+1,aa,aF0 aa U ab (by simpa using J)⟩,fF,?_⟩;show a.length-(i+1)<a.length-i;omega
 refine aV (T3 ?_);clear I K;refine AX (I _ _ _ ?_);clear I K;refine R0 ?_;refine aE (RT Tryz.results41 ?_);have ae:i=a.length:=by simp only[B7]at J;omega
 subst ae;have ag:a=b:=aF1 hlen ab;exact aF [] (.bool true) rfl (by rw[ag,J5])
theorem cL1 (a b:List Dig)(ha:a.length<2^42):bM Tryz.prog 23 [.slc (a.map dg),.slc (b.map dg)] (fun v=>v= .bool (a==b)):=by
 refine FW Tryz.func23 ?_;refine R0 ?_;refine aC fun K I=>?_;refine AU ?_;refine aJ (b:=!((a.length:Int)==(b.length:Int))) rfl (fun J=>?_) (fun J=>?_)
 ·
  refine R0 ?_;refine aE (RT Tryz.results23 ?_);have ad:a≠b:=by rintro rfl;simp at J
  exact aF [] (.bool false) rfl (by rw[S4 ad])
 have af:(a.length:Int)=b.length:=by simpa using J
 have hlen:a.length=b.length:=by omega
 clear J;refine aG ?_;refine T0 (I _ _ _ ?_);clear I K;refine aC fun K I=>?_;refine R0 ?_;refine aL ?_;refine bB (α:={i:Nat//i≤a.length∧a.take i=b.take i}) (fun i=>(fin [(0,.c (.slc (a.map dg))),(1,.c (.slc (b.map dg))),(5,.c (.int .i64 i.1))],fob [])) 100 (fun i=>a.length-i.1) ⟨0,by omega,by simp⟩ (fF) ?_;rintro⟨i,hi,ab⟩;refine aC fun K I=>?_;refine AU ?_;refine aJ (b:=decide ((i:Int)<a.length)) rfl (fun J=>?_) (fun J=>?_)
 ·
  have aa:i<a.length:=by simpa using J
  have U:i<b.length:=by omega
  clear J;refine aG ?_;refine T0 (I _ _ _ ?_);clear I K;refine aC fun K I=>?_;refine aL ?_;refine aC fun K I=>QR ?_;have F:=aI @A1 (aI @A4 (aI aa (aI (nM aa) (aI U (nM U)))));refine AU ?_;refine T2 (I _ _ _ ?_);clear I K;refine aJ (b:=!(a[i]==b[i])) rfl (fun J=>?_) (fun J=>?_)
  ·
   refine R0 ?_;refine aE (RT Tryz.results23 ?_);have ad:a≠b:=by rintro rfl;simp at J
   exact aF [] (.bool false) rfl (by rw[S4 ad])
  refine aG ?_;refine T0 (I _ _ _ ?_);clear I K;refine aM (by kernel_rfl) ?_;refine TQ (cW i) ?_;refine⟨⟨i+1,aa,aF0 aa U ab (by simpa[AR]using J)⟩,fF,?_⟩;show a.length-(i+1)<a.length-i;omega
 refine aV (T3 ?_);clear I K;refine AX (I _ _ _ ?_);clear I K;refine R0 ?_;refine aE (RT Tryz.results23 ?_);have ae:i=a.length:=by simp only[B7]at J;omega
 subst ae;have ag:a=b:=aF1 hlen ab;exact aF [] (.bool true) rfl (by rw[ag,J5])
theorem bZ2 (a b:List Ln)(ha:a.length<2^40)(hd: ∀x∈a,x.d.length<2^42∧x.f.length<2^40):bM Tryz.prog 16 [.slc (a.map Ln.cv),.slc (b.map Ln.cv)] (fun v=> ∃c,v= .bool c∧(c=true↔a=b)):=by
 refine FW Tryz.func16 ?_;refine R0 ?_;refine aC fun K hK=>?_;refine AU ?_;refine aJ (b:=!((a.length:Int)==(b.length:Int))) rfl (fun hb=>?_) (fun hb=>?_)
 ·
  refine R0 ?_;refine aE (RT Tryz.results16 ?_);have ah:a≠b:=by rintro rfl;simp at hb
  exact aF [] (.bool false) rfl ⟨false,rfl,by simp[ah]⟩
 have aj:(a.length:Int)=b.length:=by simpa using hb
 have hlen:a.length=b.length:=by omega
 clear hb;refine aG ?_;refine T0 (hK _ _ _ ?_);clear hK K;refine aC fun K hK=>?_;refine R0 ?_;refine aL ?_;refine bB (α:={i:Nat//i≤a.length∧a.take i=b.take i}) (fun i=>(fin [(0,.c (.slc (a.map Ln.cv))),(1,.c (.slc (b.map Ln.cv))),(5,.c (.int .i64 i.1))],fob [])) 100 (fun i=>a.length-i.1) ⟨0,by omega,by simp⟩ (fF) ?_;rintro⟨i,hi,af⟩;refine aC fun K hK=>?_;refine AU ?_;refine aJ (b:=decide ((i:Int)<a.length)) rfl (fun hb=>?_) (fun hb=>?_)
 ·
  have ab:i<a.length:=by simpa using hb
  have J:i<b.length:=by omega
  clear hb;have ag:=hd a[i] (B5 ab);refine aG ?_;refine T0 (hK _ _ _ ?_);clear hK K;refine aC fun K hK=>?_;refine aL ?_;refine aC fun K hK=>DW [(0,[],[]),(1,[],[]),(2,[],[]),(3,[],[]),(4,[],[]),(5,[],[]),(6,[],[]),(7,[],[]),(8,[],[]),(9,[],[]),(10,[],[]),(11,[],[]),(12,[],[]),(13,[],[]),(14,[],[]),(15,[],[]),(16,[],[]),(17,[],[]),(18,[],[]),(19,[],[]),(20,[],[]),(21,[],[]),(22,[],[]),(23,[],[]),(24,[],[]),(25,[],[]),(26,[],[]),(27,[],[]),(28,[],[]),(29,[],[]),(30,[],[]),(31,[],[]),(32,[],[]),(33,[],[]),(34,[],[]),(35,[],[]),(36,[],[]),(37,[],[]),(38,[],[]),(39,[],[]),(40,[],[]),(41,[],[]),(42,[],[]),(43,[],[]),(44,[],[]),(45,[],[]),(46,[],[]),(47,[],[]),(48,[],[]),(49,[],[]),(50,[],[]),(51,[],[])] [0,0,3,7,15,0,0,96,224,480,1023,2047,4095,4095,16383,32767,65535,4095,4095,397311,921599,1970175,4194303,8388607,16777215,33554431,33554431,134217727,268435455,536870911,33554431,33554431,3254779903,7549747199,16139681791,34359738367,68719476735,137438953471,274877906943,549755813887,549755813887,2199023255551,4398046511103,8796093022207,549755813887,549755813887,53326313947135,123695058124799,264432546480127,562949953421311,1125899906842623,2251799813685247] ?_;have F:=aI @A1 (aI @A4 (aI ab (aI (nM ab) (aI J (nM J)))));iterate 12 refine WF ?_
  refine kD 27 rfl (fun I=>?_) (fun I=>?_)
  ·
   have F:=aI @A1 (aI @A4 (aI ab (aI (nM ab) (aI J (aI (nM J) I)))));iterate 40 refine WF ?_
   refine T2 (hK _ _ _ ?_);clear hK K;refine CT rfl ?_;refine R0 ?_;refine aE (RT Tryz.results16 ?_);refine aF [] (.bool false) rfl ⟨false,rfl,⟨fun h=>(by cases h),?_⟩⟩;rintro rfl;exfalso;first|(simp at I;done)|(simp at U;done)|(simp at ad;done)|(simp at aa;done)
  have F:=aI @A1 (aI @A4 (aI ab (aI (nM ab) (aI J (aI (nM J) I)))));iterate 13 refine WF ?_
  refine kD 39 rfl (fun U=>?_) (fun U=>?_)
  ·
   have F:=aI @A1 (aI @A4 (aI ab (aI (nM ab) (aI J (aI (nM J) (aI I U))))));iterate 27 refine WF ?_
   refine T2 (hK _ _ _ ?_);clear hK K;refine CT rfl ?_;refine R0 ?_;refine aE (RT Tryz.results16 ?_);refine aF [] (.bool false) rfl ⟨false,rfl,⟨fun h=>(by cases h),?_⟩⟩;rintro rfl;exfalso;first|(simp at I;done)|(simp at U;done)|(simp at ad;done)|(simp at aa;done)
  have F:=aI @A1 (aI @A4 (aI ab (aI (nM ab) (aI J (aI (nM J) (aI I U))))));iterate 10 refine WF ?_
  refine bL (g:=some (41,false)) rfl rfl fun K' ae=>T6 ?_;refine C2 (cL1 a[i].d b[i].d ag.1) ?_;rintro u rfl;refine AX (ae _ _ ?_);clear ae K';iterate 3 refine WF ?_
  refine kD 52 rfl (fun ad=>?_) (fun ad=>?_)
  ·
   have F:=aI @A1 (aI @A4 (aI ab (aI (nM ab) (aI J (aI (nM J) (aI I (aI U ad)))))));iterate 10 refine WF ?_
   refine bL (g:=some (55,false)) rfl rfl fun K' ae=>T6 ?_;refine C2 (cL0 a[i].f b[i].f ag.2) ?_;rintro u rfl;refine AX (ae _ _ ?_);clear ae K';iterate 2 refine WF ?_
   refine kD 66 rfl (fun aa=>?_) (fun aa=>?_)
   · simp only[aa];refine T2 (hK _ _ _ ?_);clear hK K;refine CF rfl ?_;refine aG ?_;refine T0 (hK _ _ _ ?_);clear hK K;refine aM (by kernel_rfl) ?_;refine TQ (cW i) ?_;refine⟨⟨i+1,ab,aF0 ab J af (dF9 I U ad aa)⟩,fF,?_⟩;show a.length-(i+1)<a.length-i;omega
   simp only[aa];refine T2 (hK _ _ _ ?_);clear hK K;refine CT rfl ?_;refine R0 ?_;refine aE (RT Tryz.results16 ?_);refine aF [] (.bool false) rfl ⟨false,rfl,⟨fun h=>(by cases h),?_⟩⟩;rintro rfl;exfalso;first|(simp at I;done)|(simp at U;done)|(simp at ad;done)|(simp at aa;done)
  have F:=aI @A1 (aI @A4 (aI ab (aI (nM ab) (aI J (aI (nM J) (aI I (aI U ad)))))));iterate 13 refine WF ?_
  refine T2 (hK _ _ _ ?_);clear hK K;refine CT rfl ?_;refine R0 ?_;refine aE (RT Tryz.results16 ?_);refine aF [] (.bool false) rfl ⟨false,rfl,⟨fun h=>(by cases h),?_⟩⟩;rintro rfl;exfalso;first|(simp at I;done)|(simp at U;done)|(simp at ad;done)|(simp at aa;done)
 refine aV (T3 ?_);clear hK K;refine AX (hK _ _ _ ?_);clear hK K;refine R0 ?_;refine aE (RT Tryz.results16 ?_);have ai:i=a.length:=by simp only[B7]at hb;omega
 subst ai;have ak:a=b:=aF1 hlen af;exact aF [] (.bool true) rfl ⟨true,rfl,by simp[ak]⟩
abbrev I64 (n:Int):Prop:= -9223372036854775808≤n∧n≤9223372036854775807
structure LnW (x:Ln):Prop where
 k:I64 x.k
 n:I64 x.n
 f: ∀n∈x.f,I64 n
 fl:x.f.length<2^38
 dl:x.d.length<2^38
variable {k:Int}
theorem kk1 (h:(k==1)=true)(I:(k !=1)=true):False:=R9.1 I (eq_of_beq h)
theorem kk2 (h:(k==1)=false)(I:(k !=1)=false):False:=by
 rw[bne,h]at I;cases I
def mX (x:Ln):Bool:=((!inB x.k 1 5||!fU x.n)||(x.k==1&&decide ((x.f.length:Int)>0)))||(!(x.k==1)&&decide ((x.d.length:Int)>0))
theorem tJ :cP x=(!mX x&&x.f.all fU):=by
 have U:(x.f==[])=!decide ((x.f.length:Int)>0):=by
  cases x.f with
  |nil=>rfl
  |cons a l=>
   have:decide (((a::l).length:Int)>0)=true:=decide_eq_true (by simp only[List.length_cons];omega);rw[this];rfl
 have J:(x.d==[])=!decide ((x.d.length:Int)>0):=by
  cases x.d with
  |nil=>rfl
  |cons a l=>
   have:decide (((a::l).length:Int)>0)=true:=decide_eq_true (by simp only[List.length_cons];omega);rw[this];rfl
 unfold cP mX;by_cases I:x.k=1
 ·
  rw[B1 I,U,I];cases hf:decide ((x.f.length:Int)>0)with
  |true=>simp
  |false=>
   have:x.f=[]:=D3 (by have:=G7 hf;omega);rw[this];simp
 rw[A7 I,J,show(x.k==1)=false from J2.2 I];cases inB x.k 1 5<;>cases fU x.n<;>cases x.f.all fU<;>cases decide ((x.d.length:Int)>0)<;>rfl
theorem yW (h:i<x.f.length):(x.f.take (i+1)).map fT=(x.f.take i).map fT++[fT x.f[i]]:=by
 rw[A5 h,C5];rfl
variable {l:List Int}
theorem all_take (h:i<l.length)(I:(l.take i).all fU=true)(J:fU l[i]=true):(l.take (i+1)).all fU=true:=by
 rw[A5 h,S5,I];simp[J]
theorem bR3 (h:i<l.length)(I:fU l[i]=false):l.all fU=false:=by
 rw[DA];exact⟨_,B5 h,by simp[I]⟩
theorem aO6 {l:List Dig}(h:i<l.length):(l.take (i+1)).map nH=(l.take i).map nH++[nH l[i]]:=by
 rw[A5 h,C5];rfl
def aF2 (x:Ln):List (List aK):=if cP x then eD x else []
theorem lines_ok (x:Ln)(hx:LnW x):uP Tryz.prog 47 tabs [x.cv] (fun u v=>u= .slc ((aF2 x).map lsC)∧v= .bool (cP x)):=by
 refine bO (args:=[.c x.cv]) Tryz.func47 rfl (by kernel_rfl) (iP tabs [x.cv]) (C7 rfl) ?_;unfold iM;obtain⟨w1,w2⟩:=cV4 x.k;have ar: ∀{ob:Ob} {r:HV},cP x=false→r= .tup [.c .nils,.c (.bool false)]→ob 0=some (.tab tabs)→gR 1 r ob (fun r ob'=> ∃u v,r= .tup [.c u,.c v]∧ob'=fob [(0,.tab tabs)]∧(u= .slc ((aF2 x).map lsC)∧v= .bool (cP x))):=fun {ob r} hf hr h0=>by
  subst hr;exact gI [] (.slc []) (.bool false) (by simp) h0 (by simp) ⟨by rw[aF2,hf];rfl,by rw[hf]⟩
 refine R0 ?_;refine aC fun K hK=>dT mixed [(1,[],[]),(2,[],[]),(0,[],[1,2]),(3,[],[]),(4,[],[]),(5,[],[]),(6,[],[]),(7,[],[]),(8,[],[])] [0,0,2,7,15,31,31,63,255] (by kernel_rfl) (by kernel_rfl) (by kernel_rfl) (by kernel_rfl) rfl (by kernel_rfl) ?_;iterate 2 refine WG0 ?_
 refine cT (g:=none) rfl rfl fun K' ae=>T5 ?_;refine dR [] bC3 rfl trivial (by simp) (by simp) ⟨rfl,rfl,rfl,rfl⟩ (by simp[cV]) (by simp) ?_;rintro r ay ⟨rfl,rfl⟩;rw[cK4,bQ6];refine AX (ae _ _ ?_);clear ae K';refine bI (g:=none) rfl rfl fun K' ae=>?_;simp only[sN,↓hopH.eq_def,sH,↓sP,sA,tyS,simprocAttr];refine⟨wlK,rfl,cV5,?_⟩;rw[w1,w2];refine AX (ae _ _ ?_);clear ae K';iterate 5 refine WG0 ?_
 refine T2 (hK _ _ _ ?_);clear hK K;refine aC fun K hK=>Rg ?_;refine AU ?_;refine HS rfl rfl fun K' ae=>T5 ?_;refine fO (args:=[_]) 0 (aU0 x.n hx.n) rfl (by simp) ⟨rfl,rfl,rfl,rfl⟩ ?_;rintro u v ⟨rfl,rfl⟩;refine AX (ae _ _ ?_);clear ae K';refine AU ?_;refine T2 (hK _ _ _ ?_);clear hK K;refine aC fun K hK=>?_;refine aC fun K hK=>?_;have key: ∀(b:Bool) fr ob nx,b=mX x→Fits 1 fr ob (fin [(1,.ptr 1 0),(4,.c (.str (wordK x.k))),(6,.c (.str (fT x.n))),(56,.c (.bool b))]) (fob [(0,.tab tabs),(1,.box 41 (.c x.cv))]) 600→K fr ob nx:=by
  rintro b fr ob nx rfl hf;refine hK _ _ _ (aZ hf ?_);clear hf hK K;refine aJ (b:=mX x) rfl (fun hb=>?_) (fun hb=>?_)
  · refine R0 ?_;refine aE (RT Tryz.results47 ?_);exact ar (by rw[tJ,hb];rfl) rfl rfl
  have ao:mX x=false:=hb;clear hb;refine aG ?_;refine T0 (hK _ _ _ ?_);clear hK K;refine RS ?_;iterate 4 refine S0 ?_
  refine RE ?_;refine aC fun K hK=>?_;refine AU ?_;refine aL ?_;refine bB (α:={i:Nat//i≤x.f.length∧(x.f.take i).all fU=true}) (fun i=>(fin [(1,.ptr 1 0),(8,.own 608 (2+i.1)),(61,.c (.slc (x.f.map (CV.int .i64)))),(62,.c (.int .i64 x.f.length)),(63,.c (.int .i64 i.1))],fob [(0,.tab tabs),(1,.box 41 (.c x.cv)),(608,.row 9 1 ((wordK x.k::fT x.n::(x.f.take i.1).map fT).map .str))])) 2000 (fun i=>x.f.length-i.1) ⟨0,by omega,by simp⟩ (fF) ?_;rintro⟨i,hi,ai⟩;refine R0 ?_;refine aC fun K hK=>?_;refine aJ (b:=decide ((i:Int)<x.f.length)) rfl (fun hb=>?_) (fun hb=>?_)
  ·
   have af:i<x.f.length:=by have:=F9 hb;omega
   have az:=hx.fl;have ag:(x.f.take i).length=i:=by simp;omega
   clear hb;refine aG ?_;refine T0 (hK _ _ _ ?_);clear hK K;refine aC fun K hK=>?_;refine aL ?_;have F:=aI @A1 (aI @A4 (aI af (nM af)));refine RF ?_;refine aC fun K hK=>Rg ?_;refine S0 ?_;refine HS rfl rfl fun K' ae=>T5 ?_;refine fO (args:=[_]) 0 (aU0 x.f[i] (hx.f _ (B5 af))) rfl (by simp) ⟨rfl,rfl,rfl,rfl⟩ ?_;rintro u v ⟨rfl,rfl⟩;refine AX (ae _ _ ?_);clear ae K';refine AU ?_;refine T2 (hK _ _ _ ?_);clear hK K;refine aC fun K hK=>?_;refine R0 ?_;refine aJ (b:=!fU x.f[i]) rfl (fun hb=>?_) (fun hb=>?_)
   · refine R0 ?_;refine aE (RT Tryz.results47 ?_);exact ar (by rw[tJ,bR3 af (by simpa using hb),D7]) rfl rfl
   have aw:fU x.f[i]=true:=by simpa using hb
   clear hb;refine aG ?_;refine T0 (hK _ _ _ ?_);clear hK K;refine Rg ?_;have F:=aI @A8.{0} (aI @A0.{0,0} ag);refine AU ?_;refine T2 (hK _ _ _ ?_);clear hK K;refine aM (by kernel_rfl) ?_;refine TQ (cW i) ?_;have au:min i x.f.length+1+1+1=2+(i+1):=by omega
   refine⟨⟨i+1,by omega,all_take af ai aw⟩,(fG (by simp[yW af,C5,ag,au])),?_⟩;show x.f.length-(i+1)<x.f.length-i;omega
  have aj:i=x.f.length:=by have:=G7 hb;omega
  subst aj;rw[C6]at ai;clear hb;have ah:cP x=true:=by rw[tJ,ao,ai];rfl
  refine aV (T3 ?_);clear hK K;refine AX (hK _ _ _ ?_);clear hK K;have ak:2+x.f.length=x.f.length+1+1:=by omega
  refine bW [608] (aZ (fr2:=fin [(1,.ptr 1 0),(8,.c (lsC (firstL x)))]) (ob2:=fob [(0,.tab tabs),(1,.box 41 (.c x.cv))]) (nx2:=3000) (bA (by omega) (by simp[denilL_str,ak,lsC,firstL]) (by simp[Ln.denil])) ?_);refine R0 ?_;refine aC fun K hK=>?_;refine AU ?_;refine aL ?_;refine bB (α:={i:Nat//i≤x.d.length}) (fun i=>(fin [(13,.own 3004 (1+i.1)),(82,.c (.slc (x.d.map dg))),(83,.c (.int .i64 x.d.length)),(84,.c (.int .i64 i.1))],fob [(0,.tab tabs),(3004,.row 71 1 ((firstL x::(x.d.take i.1).map nH).map lsC))])) 5000 (fun i=>x.d.length-i.1) ⟨0,by omega⟩ (fG (by simp[rK])) ?_;rintro⟨i,hi⟩;refine R0 ?_;refine aC fun K hK=>?_;refine aJ (b:=decide ((i:Int)<x.d.length)) rfl (fun hb=>?_) (fun hb=>?_)
  ·
   have af:i<x.d.length:=by have:=F9 hb;omega
   have ax:=hx.dl;have ag:(x.d.take i).length=i:=by simp;omega
   clear hb;refine aG ?_;refine T0 (hK _ _ _ ?_);clear hK K;refine aC fun K hK=>?_;refine aL ?_;refine RS ?_;have F:=aI @A1 (aI @A4 (aI af (nM af)));refine AU ?_;refine aY (by kernel_rfl) ?_;simp only[sR,simprocAttr];have F:=aI @A8.{0} (aI @A0.{0,0} ag);iterate 2 refine SGF ?_
   refine cE (g:=none) rfl rfl fun K' ae=>T6 ?_;refine C1 (zQ x.d[i]) ?_;rintro u rfl;refine AX (ae _ _ ?_);clear ae K';refine cN (g:=none) 5032 rfl rfl fun K' ae=>?_;simp only[gH,kC,sH,↓sP,sA,tyS,simprocAttr,A8,A0,ag];repeat refine AI ?_
   refine cO (by first|rfl|simp) ?_;try simp only[sH,↓sP,sA,tyS,simprocAttr,A8,A0,ag]
   refine AX (ae _ _ ?_);clear ae K';iterate 3 refine SGF ?_
   refine T2 (hK _ _ _ ?_);clear hK K;refine aM (by kernel_rfl) ?_;refine TQ (cW i) ?_;have aq:min i x.d.length+1+1=1+(i+1):=by omega
   refine⟨⟨i+1,by omega⟩,(fG (by simp[aO6 af,C5,ag,nH,lsC,wDoc,aq])),?_⟩;show x.d.length-(i+1)<x.d.length-i;omega
  have aj:i=x.d.length:=by have:=G7 hb;omega
  subst aj;clear hb;refine aV (T3 ?_);clear hK K;refine AX (hK _ _ _ ?_);clear hK K;refine R0 ?_;refine aE (RT Tryz.results47 ?_);have an:1+x.d.length=x.d.length+1:=by omega
  rw[C6];refine gI [3004] (.slc ((eD x).map lsC)) (.bool true) ?_ rfl (by simp) ⟨by rw[aF2,B1 ah],by rw[ah]⟩;simp[eD,an]
 refine Rg ?_;have F:=@A0.{0,0};refine AU ?_;refine aH 29 rfl (fun I=>?_) (fun I=>?_)
 ·
  have F:=aI @A0.{0,0} I;refine AU ?_;refine aH 32 rfl (fun J=>?_) (fun J=>?_)
  ·
   have F:=aI @A0.{0,0} (aI I J);refine AU ?_;refine aH 38 rfl (fun U=>?_) (fun U=>?_)
   ·
    have F:=aI @A0.{0,0} (aI I (aI J U));refine AU ?_;refine aH 43 rfl (fun ad=>?_) (fun ad=>?_)
    · have F:=aI @A0.{0,0} (aI I (aI J (aI U ad)));refine AU ?_;refine T4 ?_;exact key true _ _ _ (by first|(simp only[mX,I,J,U,ad,F1,F7,D9,D5,B6,B9];done)|(exfalso;first|exact kk1 (by assumption) (by assumption)|exact kk2 (by assumption) (by assumption))) (fF)
    have F:=aI @A0.{0,0} (aI I (aI J (aI U ad)));refine AU ?_;refine aH 49 rfl (fun aa=>?_) (fun aa=>?_)
    ·
     have F:=aI @A0.{0,0} (aI I (aI J (aI U (aI ad aa))));refine AU ?_;refine aH 54 rfl (fun ab=>?_) (fun ab=>?_)
     · simp only[ab];refine T4 ?_;exact key true _ _ _ (by first|(simp only[mX,I,J,U,ad,aa,ab,F1,F7,D9,D5,B6,B9];done)|(exfalso;first|exact kk1 (by assumption) (by assumption)|exact kk2 (by assumption) (by assumption))) (fF)
     simp only[ab];refine T4 ?_;exact key false _ _ _ (by first|(simp only[mX,I,J,U,ad,aa,ab,F1,F7,D9,D5,B6,B9];done)|(exfalso;first|exact kk1 (by assumption) (by assumption)|exact kk2 (by assumption) (by assumption))) (fF)
    have F:=aI @A0.{0,0} (aI I (aI J (aI U (aI ad aa))));refine AU ?_;refine T4 ?_;exact key false _ _ _ (by first|(simp only[mX,I,J,U,ad,aa,F1,F7,D9,D5,B6,B9];done)|(exfalso;first|exact kk1 (by assumption) (by assumption)|exact kk2 (by assumption) (by assumption))) (fF)
   have F:=aI @A0.{0,0} (aI I (aI J U));refine AU ?_;refine aH 49 rfl (fun aa=>?_) (fun aa=>?_)
   ·
    have F:=aI @A0.{0,0} (aI I (aI J (aI U aa)));refine AU ?_;refine aH 54 rfl (fun ab=>?_) (fun ab=>?_)
    · simp only[ab];refine T4 ?_;exact key true _ _ _ (by first|(simp only[mX,I,J,U,aa,ab,F1,F7,D9,D5,B6,B9];done)|(exfalso;first|exact kk1 (by assumption) (by assumption)|exact kk2 (by assumption) (by assumption))) (fF)
    simp only[ab];refine T4 ?_;exact key false _ _ _ (by first|(simp only[mX,I,J,U,aa,ab,F1,F7,D9,D5,B6,B9];done)|(exfalso;first|exact kk1 (by assumption) (by assumption)|exact kk2 (by assumption) (by assumption))) (fF)
   have F:=aI @A0.{0,0} (aI I (aI J (aI U aa)));refine AU ?_;refine T4 ?_;exact key false _ _ _ (by first|(simp only[mX,I,J,U,aa,F1,F7,D9,D5,B6,B9];done)|(exfalso;first|exact kk1 (by assumption) (by assumption)|exact kk2 (by assumption) (by assumption))) (fF)
  have F:=aI @A0.{0,0} (aI I J);refine AU ?_;refine T4 ?_;exact key true _ _ _ (by first|(simp only[mX,I,J,F1,F7,D9,D5,B6,B9];done)|(exfalso;first|exact kk1 (by assumption) (by assumption)|exact kk2 (by assumption) (by assumption))) (fF)
 have F:=aI @A0.{0,0} I;refine AU ?_;refine T4 ?_;exact key true _ _ _ (by first|(simp only[mX,I,F1,F7,D9,D5,B6,B9];done)|(exfalso;first|exact kk1 (by assumption) (by assumption)|exact kk2 (by assumption) (by assumption))) (fF)
section
variable (x:Dv)
theorem sI :CV.getAt 0 1 false x.cv=some (.str x.q.n):=by simp[Dv.cv,Qs.cv,Og.cv,CV.getAt,CV.getAtL,CV.cells,CV.cellsL,dg_cells,dg_getAt]
theorem sJ :CV.getAt 1 1 false x.cv=some (.str x.q.i):=by simp[Dv.cv,Qs.cv,Og.cv,CV.getAt,CV.getAtL,CV.cells,CV.cellsL,dg_cells,dg_getAt]
theorem sK :CV.getAt 2 32 true x.cv=some (dg x.q.a):=by simp[Dv.cv,Qs.cv,Og.cv,CV.getAt,CV.getAtL,CV.cells,CV.cellsL,dg_cells,dg_getAt]
theorem sL :CV.getAt 68 32 true x.cv=some (dg x.o.v):=by simp[Dv.cv,Qs.cv,Og.cv,CV.getAt,CV.getAtL,CV.cells,CV.cellsL,dg_cells,dg_getAt]
theorem sM :CV.getAt 100 1 false x.cv=some (.str x.o.l):=by simp[Dv.cv,Qs.cv,Og.cv,CV.getAt,CV.getAtL,CV.cells,CV.cellsL,dg_cells,dg_getAt]
theorem sO :CV.getAt 101 1 false x.cv=some (.str x.o.r):=by simp[Dv.cv,Qs.cv,Og.cv,CV.getAt,CV.getAtL,CV.cells,CV.cellsL,dg_cells,dg_getAt]
end
structure DvW (d:Dv):Prop where
 t:I64 d.t
 r:I64 d.r
 l: ∀x∈d.l,LnW x
 len:(fV d).length<2^38
 ll:d.l.length<2^38
theorem cL2 (h:DvW d): ∀l∈fV d,l.length<2^40:=fun l hl=>by
 rcases D6.1 hl with hl|hl
 · simp only[lA,E0,H7,N6]at hl;rcases hl with rfl|rfl<;>simp
 obtain⟨x,hx,hl⟩:=K3.1 hl;have:=(h.l x hx).fl;rcases E0.1 hl with rfl|hl
 · simp only[firstL,A8,A0];omega
 obtain⟨a,_,rfl⟩:=H0.1 hl;simp[nH]
def vQ (d:Dv):Bool:=(!fU d.r||decide (d.t<0))||decide (d.t>1099511627776)
theorem tK :jU d=(!vQ d&&d.l.all cP):=by
 have e:fU d.t=(!decide (d.t<0)&&!decide (d.t>1099511627776)):=by
  simp only[fU,inB,←decide_not];rw[K5];simp
 unfold jU vQ;rw[e];cases fU d.r<;>cases decide (d.t<0)<;>cases decide (d.t>1099511627776)<;>simp
def dvT (d:Dv)(i:Nat):List (List aK):=lA d++(d.l.take i).flatMap eD
theorem bR4 (d:Dv):dvT d d.l.length=fV d:=by rw[dvT,C6];rfl
theorem vR (h:i<d.l.length):dvT d (i+1)=dvT d i++eD d.l[i]:=by
 rw[dvT,A5 h,O7,dvT,H5];simp
theorem cL3 (d:Dv)(i:Nat):(dvT d i).length≤(fV d).length:=by
 have I:fV d=dvT d i++(d.l.drop i).flatMap eD:=by
  rw[dvT,H5,←List.flatMap_append,K9];rfl
 rw[I,A3];omega
theorem bZ3 {l:List Ln}(h:i<l.length)(I:(l.take i).all cP=true)(J:cP l[i]=true):(l.take (i+1)).all cP=true:=by
 rw[A5 h,S5,I];simp[J]
theorem aF3 (d:Dv)(hd:DvW d):uP Tryz.prog 21 tabs [d.cv] (fun u v=>u= .slc ((dvO d).map cM)∧v= .int .i64 (dvE d)):=by
 refine bO (args:=[.c d.cv]) Tryz.func21 rfl (by kernel_rfl) (iP tabs [d.cv]) (C7 rfl) ?_;unfold iM;have ah: ∀{ob:Ob} {r:HV},jU d=false→r= .tup [.c .nils,.c (.int .i64 1)]→ob 0=some (.tab tabs)→gR 1 r ob (fun r ob'=> ∃u v,r= .tup [.c u,.c v]∧ob'=fob [(0,.tab tabs)]∧(u= .slc ((dvO d).map cM)∧v= .int .i64 (dvE d))):=fun {ob r} hf hr h0=>by
  subst hr;exact gI [] (.slc []) (.int .i64 1) (by simp) h0 (by simp) ⟨by rw[dvO,hf];rfl,by rw[dvE,hf];rfl⟩
 refine R0 ?_;refine aC fun K U=>Rg ?_;refine AU ?_;refine HS rfl rfl fun K' I=>T5 ?_;refine fO (args:=[_]) 0 (aU0 d.r hd.r) rfl (by simp) ⟨rfl,rfl,rfl,rfl⟩ ?_;rintro u v ⟨rfl,rfl⟩;refine AX (I _ _ ?_);clear I K';refine AU ?_;refine T2 (U _ _ _ ?_);clear U K;refine aC fun K U=>?_;refine aC fun K U=>?_;have key: ∀(b:Bool) fr ob nx,b=vQ d→Fits 1 fr ob (fin [(1,.ptr 1 0),(4,.c (.str (fT d.r))),(28,.c (.bool b))]) (fob [(0,.tab tabs),(1,.box 50 (.c d.cv))]) 600→K fr ob nx:=by
  rintro b fr ob nx rfl hf;refine U _ _ _ (aZ hf ?_);clear hf U K;refine aJ (b:=vQ d) rfl (fun hb=>?_) (fun hb=>?_)
  · refine R0 ?_;refine aE (RT Tryz.results21 ?_);exact ah (by rw[tK,hb];rfl) rfl rfl
  have ag:vQ d=false:=hb;clear hb;refine aG ?_;refine T0 (U _ _ _ ?_);clear U K;refine aC fun K U=>dT mixed [(0,[],[]),(1,[],[]),(2,[],[]),(3,[],[]),(4,[],[]),(5,[],[]),(6,[],[]),(7,[],[]),(8,[],[]),(10,[],[]),(11,[],[]),(13,[],[]),(14,[],[]),(16,[],[]),(18,[],[]),(19,[],[]),(20,[],[]),(22,[],[]),(23,[],[]),(24,[],[]),(25,[],[]),(26,[],[]),(27,[],[]),(9,[],[0,1,2,3,4,5,10,11,13,14,16,18,19,20,22,23,24,25,26,27]),(12,[],[0,1,2,3,4,5,13,14,16,18,19,20,22,23,24,25,26,27]),(15,[],[0,1,2,3,4,5,16,18,19,20,22,23,24,25,26,27]),(17,[],[]),(21,[17],[0,1,2,3,4,5,16,22,23,24,25,26,27,17]),(28,[17],[]),(29,[],[]),(30,[],[])] [0,1,3,0,8,24,0,64,192,448,0,1024,4032,0,8192,32704,0,131071,0,262144,786432,1900480,0,4194304,12582912,0,33554432,100663296,268238784,536870911,1073741823] (by kernel_rfl) (by kernel_rfl) (by kernel_rfl) (by kernel_rfl) rfl (by kernel_rfl) ?_;have F:=aI @sI (aI @sJ (aI @sK (aI @sL (aI @sM @sO))));iterate 23 refine WGF ?_
  refine cT (g:=none) rfl rfl fun K' I=>T6 ?_;refine C1 (zQ d.q.a) ?_;rintro u rfl;refine AX (I _ _ ?_);clear I K';refine cT (g:=none) rfl rfl fun K' I=>T6 ?_;refine lY (args:=[_]) 0 (cJ9 d.t hd.t) rfl (by simp) ⟨rfl,rfl,rfl,rfl⟩ ?_;rintro u rfl;refine AX (I _ _ ?_);clear I K';refine cT (g:=none) rfl rfl fun K' I=>T6 ?_;refine C1 (zQ d.p) ?_;rintro u rfl;refine AX (I _ _ ?_);clear I K';refine jA (g:=none) 668 rfl rfl fun K' I=>?_;simp only[gH,kC,sH,↓sP,sA,tyS,simprocAttr,sI,sJ,sK,sL,sM,sO];repeat refine AI ?_
  refine cO (by first|rfl|simp) ?_;try simp only[sH,↓sP,sA,tyS,simprocAttr,sI,sJ,sK,sL,sM,sO]
  refine AX (I _ _ ?_);clear I K';refine cT (g:=none) rfl rfl fun K' I=>T6 ?_;refine C1 (zQ d.o.v) ?_;rintro u rfl;refine AX (I _ _ ?_);clear I K';refine jA (g:=none) 712 rfl rfl fun K' I=>?_;simp only[gH,kC,sH,↓sP,sA,tyS,simprocAttr,sI,sJ,sK,sL,sM,sO];repeat refine AI ?_
  refine cO (by first|rfl|simp) ?_;try simp only[sH,↓sP,sA,tyS,simprocAttr,sI,sJ,sK,sL,sM,sO]
  refine AX (I _ _ ?_);clear I K';iterate 2 refine WGF ?_
  refine T2 (U _ _ _ ?_);clear U K;refine aC fun K U=>?_;refine AU ?_;refine aL ?_;refine bB (α:={i:Nat//i≤d.l.length∧(d.l.take i).all cP=true}) (fun i=>(fin [(6,.own 716 (dvT d i.1).length),(60,.c (.slc (d.l.map Ln.cv))),(61,.c (.int .i64 d.l.length)),(62,.c (.int .i64 i.1))],fob [(0,.tab tabs),(716,.row 71 1 ((dvT d i.1).map lsC))])) 2000 (fun i=>d.l.length-i.1) ⟨0,by omega,by simp⟩ (fG (by simp[dvT,lA,lsC,wDer,wOrg])) ?_;rintro⟨i,hi,af⟩;refine R0 ?_;refine aC fun K U=>?_;refine aJ (b:=decide ((i:Int)<d.l.length)) rfl (fun hb=>?_) (fun hb=>?_)
  ·
   have ad:i<d.l.length:=by have:=F9 hb;omega
   have ao:=hd.ll;have hle:=cL3 d (i+1);have hlen:=hd.len;rw[vR ad,A3]at hle;clear hb;refine aG ?_;refine T0 (U _ _ _ ?_);clear U K;refine aC fun K U=>?_;refine aL ?_;refine RS ?_;have F:=aI @A1 (aI @A4 (aI ad (nM ad)));iterate 4 refine SF ?_
   refine RE ?_;refine aC fun K U=>Rg ?_;refine S0 ?_;refine HS rfl rfl fun K' I=>T5 ?_;refine fO (args:=[_]) 0 (lines_ok d.l[i] (hd.l _ (B5 ad))) rfl (by simp) ⟨rfl,rfl,rfl,rfl⟩ ?_;rintro u v ⟨rfl,rfl⟩;refine AX (I _ _ ?_);clear I K';refine AU ?_;refine T2 (U _ _ _ ?_);clear U K;refine aC fun K U=>?_;refine R0 ?_;refine aJ (b:=!cP d.l[i]) rfl (fun hb=>?_) (fun hb=>?_)
   · refine R0 ?_;refine aE (RT Tryz.results21 ?_);exact ah (by rw[tK,DA.2 ⟨_,B5 ad,by simpa using hb⟩,D7]) rfl rfl
   have ai:cP d.l[i]=true:=by simpa using hb
   clear hb;have aj:aF2 d.l[i]=eD d.l[i]:=B1 ai;rw[aj];have ak:(∀v∈(eD d.l[i]).map lsC,v.cells=1)=True:=FN fun v hv=>by
    obtain⟨y,_,rfl⟩:=H0.1 hv;rfl
   refine aG ?_;refine T0 (U _ _ _ ?_);clear U K;refine Rg ?_;have F:=aI @A0.{0,0} ak;refine AU ?_;refine T2 (U _ _ _ ?_);clear U K;refine aM (by kernel_rfl) ?_;refine TQ (cW i) ?_;refine⟨⟨i+1,by omega,bZ3 ad af ai⟩,(fG (by simp[vR ad,C5,A3])),?_⟩;show d.l.length-(i+1)<d.l.length-i;omega
  have an:i=d.l.length:=by have:=G7 hb;omega
  subst an;rw[C6]at af;clear hb;rw[bR4];have ae:jU d=true:=by rw[tK,ag,af];rfl
  have hlen:=hd.len;refine aV (T3 ?_);clear U K;refine AX (U _ _ _ ?_);clear U K;refine bW [716] (aZ (fr2:=fin [(6,.c (.slc ((fV d).map lsC)))]) (ob2:=fob [(0,.tab tabs)]) (nx2:=3000) (bA (by omega) (by simp[cK]) (by simp)) ?_);refine aC fun K U=>Rg ?_;have F:=@cK;refine SF ?_;refine HS rfl rfl fun K' I=>T6 ?_;refine D1 (dF5 (fV d) (by omega) (cL2 hd)) ?_;rintro u v ⟨rfl,rfl⟩;refine AX (I _ _ ?_);clear I K';refine AU ?_;refine T2 (U _ _ _ ?_);clear U K;refine aE (RT Tryz.results21 ?_);exact gI [] (.slc ((jZ (fV d)).map cM)) (.int .i64 (jN (fV d))) (by simp[bT]) rfl (by simp) ⟨by rw[dvO,B1 ae],by rw[dvE,B1 ae]⟩
 refine Rg ?_;refine AU ?_;refine aH 17 rfl (fun J=>?_) (fun J=>?_)
 ·
  have F:=J;refine AU ?_;refine aH 22 rfl (fun aa=>?_) (fun aa=>?_)
  · have F:=aI J aa;refine AU ?_;refine T4 ?_;exact key true _ _ _ (by simp only[vQ,J,aa,F1,F7,D9,D5]) (fF)
  have F:=aI J aa;refine AU ?_;refine aH 27 rfl (fun ab=>?_) (fun ab=>?_)
  · simp only[ab];refine T4 ?_;exact key true _ _ _ (by simp only[vQ,J,aa,ab,F1,F7,D9,D5]) (fF)
  simp only[ab];refine T4 ?_;exact key false _ _ _ (by simp only[vQ,J,aa,ab,F1,F7,D9,D5]) (fF)
 have F:=J;refine AU ?_;refine T4 ?_;exact key true _ _ _ (by simp only[vQ,J,F1,F7,D9,D5]) (fF)
end Go.Proofs.YthedbjfipmkpiaaGreatDoor
namespace Go.Pl
open Go Go.Hl
def refs (L:List Ln):List Int:=L.flatMap Ln.f
theorem jW (a b:List Ln):refs (a++b)=refs a++refs b:=by simp[refs]
structure Blk (o:Nat)(L:List Ln)(F:List Int)(a b:Nat):Prop where
 node: ∀x∈L,(a:Int)≤x.n∧x.n<b
 dist:(L.map Ln.n).Nodup
 kind: ∀x∈L,x.k≠5
 back: ∀p (h:p<L.length),∀n∈L[p].f,(o:Int)≤n∧n<o+p
 free: ∀n∈F,(o:Int)≤n∧n<o+L.length
 size:(refs L).length+F.length=L.length
 once: ∀n:Int,(refs L++F).count n=if(o:Int)≤n∧n<o+L.length then 1 else 0
theorem Blk.nil (o a:Nat):Blk o [] [] a a:=⟨by simp,by simp,by simp,by simp,by simp,by simp[refs],fun n=>by simp[refs]⟩
variable {F:List Int}{L:List Ln}{o:Nat}
theorem Blk.wide {a b c:Nat}(h:Blk o L F a b)(I:b≤c):Blk o L F a c:=
 ⟨fun x hx=>by have:=h.node x hx;omega,h.dist,h.kind,h.back,h.free,h.size,h.once⟩
theorem Blk.join {M:List Ln}{G:List Int}{a b c:Nat}(h:Blk o L F a b)(g:Blk (o+L.length) M G b c)(ab:a≤b)(aa:b≤c):Blk o (L++M) (F++G) a c:=by
 refine⟨fun x hx=>?_,?_,fun x hx=>?_,fun p hp n hn=>?_,fun n hn=>?_,?_,fun n=>?_⟩
 ·
  rcases D6.1 hx with hx|hx
  · have:=h.node x hx;omega
  · have:=g.node x hx;omega
 · rw[C5,DB];refine⟨h.dist,g.dist,fun x hx y U=>?_⟩;obtain⟨x',I,rfl⟩:=H0.1 hx;obtain⟨y',J,rfl⟩:=H0.1 U;have:=h.node x' I;have:=g.node y' J;omega
 ·
  rcases D6.1 hx with hx|hx
  · exact h.kind x hx
  · exact g.kind x hx
 ·
  rw[Y4]at hn;split at hn
  · exact h.back p _ n hn
  · have I:=g.back _ _ n hn;simp only[A3]at hp;omega
 ·
  rw[A3];rcases D6.1 hn with hn|hn
  · have:=h.free n hn;omega
  · have:=g.free n hn;omega
 · have I:=h.size;have J:=g.size;rw[jW];simp only[A3];omega
 · have I:=h.once n;have J:=g.once n;rw[jW];simp only[DC,A3]at I J⊢;grind
theorem Blk.line {o:Nat}{L:List Ln}{a b:Nat}(h:Blk o L F (a+1) b)(x:Ln)(hn:x.n=a)(hf:x.f=F)(hk:x.k≠5)(hb:a<b):Blk o (L++[x]) [((o+L.length:Nat):Int)] a b:=by
 refine⟨fun y J=>?_,?_,fun y J=>?_,fun p hp n I=>?_,fun n I=>?_,?_,fun n=>?_⟩
 ·
  rcases D6.1 J with J|J
  · have:=h.node y J;omega
  · rw[E5]at J;subst J;omega
 · rw[C5,DB];refine⟨h.dist,by simp,fun u hu v hv=>?_⟩;obtain⟨u',U,rfl⟩:=H0.1 hu;simp only[B8,F2,E5]at hv;have:=h.node u' U;omega
 ·
  rcases D6.1 J with J|J
  · exact h.kind y J
  · rw[E5]at J;subst J;exact hk
 ·
  rw[Y4]at I;split at I
  · exact h.back p _ n I
  ·
   rename_i ab;simp only[A3,A8,C0]at hp;have aa:p=L.length:=by omega
   subst aa;simp only[U3,O3]at I;rw[hf]at I;exact h.free n I
 · rw[E5]at I;subst I;simp only[A3,A8,C0];omega
 ·
  have U:=h.size;rw[jW];have e:refs [x]=F:=by simp[refs,hf]
  rw[e];simp only[A3,A8,C0];omega
 ·
  have U:=h.once n;rw[jW];have e:refs [x]=F:=by simp[refs,hf]
  rw[e];simp only[DC,A3,A8,C0,List.count_cons,List.count_nil]at U⊢;grind
theorem cL4 (n:Nd):eW n≠5∧eW n≠1:=by unfold eW;grind
theorem bR5 {l:List Nd}(I:IsTree l)(S:List Sp): ∀(f i:Nat) (out:List Ln),i<l.length→l.length-i≤f→ ∃L,prv l S f i out=out++L∧Blk out.length L [((prv l S f i out).length:Int)-1] i (aft l i)
 |0,i,out,hi,hf=>by omega
 |f+1,i,out,hi,hf=>by
  have ha:=gL I hi;rcases U4 ((l.getD i nd0).k=1)with h|h
  ·
   refine⟨[lD l S i],lX h,?_⟩;have h0:=((Blk.nil out.length (i+1)).line (a:=i) (lD l S i) rfl rfl (by simp[lD]) (by omega)).wide (c:=aft l i) (by omega);rw[lX h];simp only[J1,C0,L4,A3,A8]at h0⊢
   rwa [show((out.length+(0+1):Nat):Int)-1=(out.length:Int)from by omega]
  ·
   have key: ∀j,j≤l[i].c.toNat→ ∃M,(jM l S f i j out).1=out++M∧Blk out.length M (jM l S f i j out).2 (i+1) (cF l j (i+1)):=by
    intro j;induction j with
    |zero=>intro _;exact⟨[],by simp[jM,dL],Blk.nil _ _⟩
    |succ j ih=>
     intro hj;obtain⟨M,J,U⟩:=ih (by omega);have h3:=jC I hi (k:=j) (by omega);have h4:=gL I h3;have h6:=(iK I hi j (by omega)).2.2;rw[fI,dB,pJ];split
     ·
      obtain⟨N,g1,g2⟩:=bR5 I S f _ (jM l S f i j out).1 h3 (by omega);refine⟨M++N,?_,?_⟩
      · show prv l S f _ _=_;rw[g1,J,H5]
      ·
       have hlen:(jM l S f i j out).1.length=out.length+M.length:=by rw[J,A3]
       rw[hlen]at g2;exact U.join g2 h6 (by omega)
     · exact⟨M,J,U.wide (by omega)⟩
   obtain⟨M,J,U⟩:=key l[i].c.toNat (E3 _);rw[kP I hi]at U;have e:prv l S (f+1) i out=out++(M++[⟨eW (l.getD i nd0),i,[],(jM l S f i l[i].c.toNat out).2⟩]):=by
    rw[nT h,uL hi,J,H5]
   refine⟨_,e,?_⟩;have h0:=U.line ⟨eW (l.getD i nd0),i,[],(jM l S f i l[i].c.toNat out).2⟩ rfl rfl (cL4 _).1 (by omega);rw[e];simp only[A3,A8,C0]at h0⊢
   rwa [show((out.length+(M.length+(0+1)):Nat):Int)-1=((out.length+M.length:Nat):Int)from by omega]
structure NeedsV (X:List Ln):Prop where
 pos:0<X.length
 last:(X.getLast?.map Ln.k)=some 5
 back: ∀p (h:p<X.length),∀n∈X[p].f,0≤n∧n<p
 dist: ∀p (h:p<X.length),X[p].k≠5→ ∀q (h':q<p),X[q].n≠X[p].n
 size:(refs X).length<X.length
 once: ∀p:Nat,p+1<X.length→(refs X).count (p:Int)=1
variable {l:List Nd}
theorem vS {S:List Sp}(h:eV l (cJ S)=true):NeedsV (eL l S):=by
 have ht:IsTree l:=fN (by unfold eV at h;simp only[B3]at h;exact h.1);obtain⟨L,h1,I⟩:=bR5 ht S l.length 0 [] ht.ne (by omega);have e:qB l S=L:=by unfold qB;rw[h1];rfl
 rw[h1]at I;simp only[J1,C0]at I;unfold eL;rw[B1 h,e];have hL:0<L.length:=by
  rcases Nat.eq_zero_or_pos L.length with h0|h0
  · have:=I.free _ (E5.2 rfl);omega
  · exact h0
 refine⟨by simp,?_,fun p hp n hn=>?_,fun p hp hk q hq=>?_,?_,fun p hp=>?_⟩
 · simp
 ·
  rw[Y4]at hn;split at hn
  · have:=I.back p _ n hn;omega
  ·
   simp only[A3,A8,C0]at hp;have J:p=L.length:=by omega
   subst J;simp only[U3,O3,E5]at hn;omega
 ·
  simp only[A3,A8,C0]at hp;rcases H4 p L.length with U|U
  · rw[AB U,AB (by omega)];have hd:=P0.1 I.dist q p (by simp;omega) (by simpa using U) hq;simpa using hd
  ·
   have J:p=L.length:=by omega
   subst J;simp at hk
 · have h3:=I.size;rw[jW];simp only[refs,G3,I9,A3,A8,C0]at h3⊢;omega
 ·
  have h3:=I.once p;rw[jW];simp only[A3,A8,C0]at hp;have e2:refs [(⟨5,0,[],[(L.length:Int)-1]⟩:Ln)]=[(L.length:Int)-1]:=by simp[refs]
  rw[e2,h3,B1 (by omega)]
variable {j:Nat}
theorem bC9 (J:j<l.length)(I:l[j].k=1):(fB 0 l)[lv (l.take j)]? =some j:=by
 have e:fB 0 l=fB 0 (l.take j)++fB j (l.drop j):=by
  conv=>lhs;rw[←List.take_append_drop j l,oT]
  rw[F0,E1,M6 (by omega)]
 rw[e,L6 (by rw[iO];exact E3 _),iO,U3,F5 J,fB,B1 I];rfl
theorem bD0 : ∀(l:List Nd) (o:Nat),(fB o l).Pairwise (· <·)∧ ∀x∈fB o l,o≤x
 |[],o=>by simp[fB]
 |n::l,o=>by
  have h:=bD0 l (o+1);rw[fB];split
  ·
   refine⟨Q1.2 ⟨fun x hx=>?_,h.1⟩,fun x hx=>?_⟩
   · have:=h.2 x hx;omega
   ·
    rcases E0.1 hx with rfl|hx
    · omega
    · have:=h.2 x hx;omega
  · exact⟨h.1,fun x hx=>by have:=h.2 x hx;omega⟩
theorem bZ4 {k:Nat}(hj:j<l.length)(hk:l[j].k=1)(h:(fB 0 l)[k]? =some j):k=lv (l.take j):=by
 have h1:=bC9 hj hk;obtain⟨J,a2⟩:=H3.1 h;obtain⟨U,b2⟩:=H3.1 h1;have hp:=P0.1 (bD0 l 0).1;rcases Nat.lt_trichotomy k (lv (l.take j))with I|I|I
 · have:=hp _ _ J U I;omega
 · exact I
 · have:=hp _ _ U J I;omega
theorem aF4 {P:Nat→List Ln→List Ln}{v:Nat→Bool}{w:Nat}(J: ∀j out,∃L,P j out=out++L): ∀(I:List Nat) (st:List Ln×List Int),∃L,(I.foldl (pJ P v w) st).1=st.1++L
 |[],st=>⟨[],by simp⟩
 |k::I,st=>by
  obtain⟨L,h⟩:=aF4 (v:=v) (w:=w) J I (pJ P v w st k);obtain⟨M,g⟩:=J k st.1;rw[AQ,h,pJ];split
  · exact⟨M++L,by simp only;rw[g,H5]⟩
  · exact⟨L,rfl⟩
theorem bR6 (l:List Nd)(S:List Sp): ∀(f i:Nat) (out:List Ln),∃L,prv l S f i out=out++L
 |0,_,out=>⟨[],by simp[prv]⟩
 |f+1,i,out=>by
  rw[prv];split
  · exact⟨_,rfl⟩
  · obtain⟨L,h⟩:=aF4 (v:=dZ l (cJ S)) (w:=wantN (l.getD i nd0)) (fun j o=>bR6 l S f j o) (aS4 l i) (out,[]);simp only at h⊢;rw[h];exact⟨L++_,by rw[H5]⟩
theorem cL5 (l:List Nd)(S:List Sp)(f i j:Nat)(out:List Ln): ∃L,(jM l S f i j out).1=out++L:=
 aF4 (fun j o=>bR6 l S f j o) _ _
end Go.Pl
