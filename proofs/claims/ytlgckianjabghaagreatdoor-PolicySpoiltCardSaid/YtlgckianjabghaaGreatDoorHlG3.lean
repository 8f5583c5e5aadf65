/- A function that reads tables, with three results. By an AI agent. -/
import Derived.Shelf.LaysM
import Derived.Shelf.Strconv.Itoa4
import Derived.Test.YtlgckianjabghaaGreatDoorHpTp
set_option maxRecDepth 100000
set_option maxHeartbeats 16000000
set_option linter.unusedSimpArgs false
set_option linter.unusedVariables false
set_option linter.defProp false
namespace Go.Proofs.YtlgckianjabghaaGreatDoor
open Go Go.Hl Go.Pl
def cQ3 (ls:List (List aH))(a n:Nat)(T:List Nd)(X:Option (List Nd)×List (List aH))(r:HV)(os':List HO):Prop:=
 ∃T':List Nd,r= .tup [.own 1 T'.length,.c (.bool X.1.isSome)]∧os'=[.box 66 (.c (rdr ls (ls.length-X.2.length))),.row 56 7 (T'.map Nd.cv)]∧(∀t,X.1=some t→T'=T++t)∧0<T'.length∧T'.length+X.2.length≤n+(ls.length-a)
theorem dA0 (ls:List (List aH))(a:Nat)(T:List Nd):lst [.box 66 (.c (rdr ls a)),.row 56 7 (T.map Nd.cv)]=fob [(0,.box 66 (.c (rdr ls a))),(1,.row 56 7 (T.map Nd.cv))]:=by
 funext i
 match i with
 |0=>rfl
 |1=>rfl
 |i+2=>simp[lst,fob,upd]
theorem bT1 (n:Nat)(ob:Ob)(e:TypeId)(sz:Nat)(v:CV)(L:List CV)(t:TypeId):jG (sub [0,1] n) ob 0 [.box t (.c v),.row e sz L]=upd (upd ob 0 (some (.box t (.c v)))) 1 (some (.row e sz L)):=rfl
theorem aY8 (n m:Nat)(v:CV):HV.ren (sub [0,1] n) (.tup [.own 1 m,.c v])= .tup [.own 1 m,.c v]:=rfl
theorem innR_c {w:List aH}{n:Nd}(h:eL w=some n):n.c=0:=by
 unfold eL at h;split at h
 · cases h;rfl
 split at h
 · cases h;rfl
 split at h
 ·
  cases hn:bP (wd w 1)with
  |none=>rw[hn]at h;cases h
  |some x=>rw[hn]at h;cases h;rfl
 cases h
theorem qS {ob:Ob}{ls:List (List aH)}{a b n m:Nat}{T T':List Nd}{L:List CV}{bo:Bool}{X:Option (List Nd)×List (List aH)}(h0:ob 0=some (.box 66 (.c (rdr ls b))))(h1:ob 1=some (.row 56 7 L))(hm:m=T'.length)(hL:L=T'.map Nd.cv)(hb:b=ls.length-X.2.length)(hbo:bo=X.1.isSome)
  (hT: ∀t,X.1=some t→T'=T++t) (hp:0<T'.length) (hl:T'.length+X.2.length≤n+(ls.length-a)):
  lC 2 (.tup [.own 1 m,.c (.bool bo)]) ob (fun r ob'=> ∃os',ob'=lst os'∧(2≤os'.length∧os'.length≤2+4)∧cQ3 ls a n T X r os'):=by
 subst hb hbo hm hL;exact dS [] [] (.tup [.own 1 T'.length,.c (.bool X.1.isSome)]) [.box 66 (.c (rdr ls (ls.length-X.2.length))),.row 56 7 (T'.map Nd.cv)] rfl (by simp) ⟨⟨by simp,by simp,_,h0,by simp[fC,rdr,aR]⟩,⟨by simp,by simp,_,h1,rfl⟩,trivial⟩ rfl I3 (by simp) (by simp) ⟨T',rfl,rfl,hT,hp,hl⟩
theorem cN4 (f:Nat): ∀(ls:List (List aH)) (a:Nat) (T:List Nd),a≤ls.length→2*(ls.length-a)+1≤f→0<T.length→ls.length<2^39→T.length+(ls.length-a)<2^39→
  HGe Tryz.prog 78 [.ptr 0 0,.own 1 T.length] [.box 66 (.c (rdr ls a)),.row 56 7 (T.map Nd.cv)] (cQ3 ls a T.length T (rdN f (ls.drop a))):=by
 induction f using Nat.strongRecOn with
 |ind f ih=>?_
 intro ls a T hal hfu hT0 hls hTl;refine cA (args:=[.ptr 0 0,.own 1 T.length]) Tryz.func78 rfl (by kernel_rfl) (eM rfl (by simp[dO]) (by simp)) (C4 rfl) ?_;show Hw _ _ 2 _ _ _ (lst _) 2;rw[dA0];refine R0 ?_;refine aC fun K hK=>?_;refine aC fun K hK=>Rg ?_;refine S0 ?_;refine HS rfl rfl fun K' hK'=>T5 ?_;refine fD (args:=[]) (aY6 ls a (by omega)) rfl (by simp) ⟨rfl,rfl,rfl,rfl⟩ ?_;rintro u x v' ⟨rfl,rfl,rfl⟩;refine AX (hK' _ _ ?_);clear hK' K';refine AU ?_;refine T2 (hK _ _ _ ?_);clear hK K;refine R0 ?_;refine aF (b:=(lM ls a).isSome) rfl (fun hb=>?_) (fun hb=>?_)
 ·
  obtain⟨q,hq⟩:=G3.1 hb;obtain⟨hl,hq2⟩: ∃h:a<ls.length,dN ls[a]=some q:=by
   unfold lM at hq;split at hq
   · exact⟨by assumption,hq⟩
   cases hq
  obtain⟨g,rfl⟩: ∃g,f=g+1:=⟨f-1,by omega⟩;rw[B2 hl,pH hq2];simp only[hq,G2,F7,E0];refine AU ?_;refine aE (RT Tryz.results78 ?_);exact qS (T':=T++[⟨1,0,0,q⟩]) rfl rfl (by simp) (by simp) (by simp only[B8];omega) rfl (fun t h=>by cases h;rfl) (by simp) (by simp only[A3,B0,E5,B8];omega)
 have hno:lM ls a=none:=by simpa using hb
 simp only[hno,J9,E7,J2,O3];clear hb;refine aJ ?_;refine T0 (hK _ _ _ ?_);clear hK K;refine aC fun K hK=>Rg ?_;refine S0 ?_;refine HS rfl rfl fun K' hK'=>T5 ?_;refine fD (args:=[]) (aY7 ls a (by omega)) rfl (by simp) ⟨rfl,rfl,rfl,rfl⟩ ?_;rintro u x v' ⟨rfl,rfl,rfl⟩;refine AX (hK' _ _ ?_);clear hK' K';refine AU ?_;refine T2 (hK _ _ _ ?_);clear hK K;refine aC fun K hK=>?_;refine R0 ?_;refine aF (b:=!(lH ls a).isSome) rfl (fun hb=>?_) (fun hb=>?_)
 ·
  have hi:lH ls a=none:=by simpa using hb
  have hX:rdN f (ls.drop a)=(none,ls.drop a):=by
   obtain⟨g,rfl⟩: ∃g,f=g+1:=⟨f-1,by omega⟩;rcases H0 a ls.length with hl|hl
   · rw[iH hl]at hno;unfold lH at hi;rw[EG hl]at hi;rw[B2 hl,pI hno hi]
   rw[H9 hl];rfl
  rw[hX];simp only[hi,J9,E7,J2];refine R0 ?_;refine aE (RT Tryz.results78 ?_);exact qS (T':=T) rfl rfl rfl rfl (by simp only[B8];omega) rfl (fun t h=>by cases h) hT0 (by simp only[B8];omega)
 refine aJ ?_;refine T0 (hK _ _ _ ?_);clear hK K;obtain⟨nd,hi⟩: ∃nd,lH ls a=some nd:=by
  cases h:lH ls a with
  |none=>rw[h]at hb;simp at hb
  |some nd=>exact⟨nd,rfl⟩
 obtain⟨hl,hi2⟩: ∃h:a<ls.length,eL ls[a]=some nd:=by
  unfold lH at hi;split at hi
  · exact⟨by assumption,hi⟩
  cases hi
 rw[iH hl]at hno;have hc0:=innR_c hi2;have hnd:({k:=nd.k,n:=nd.n,c:=0,q:=nd.q}:Nd)=nd:=by cases nd;simp only at hc0;rw[hc0]
 have hst:=KdSt.init hl hfu hno hi2;simp only[hi,G2,F7,E0];clear hb;refine R0 ?_;refine RS ?_;iterate 5 refine S0 ?_
 refine RE ?_;refine aC fun K hK=>?_;refine aM ?_;refine bN (α:={y:Nat×List Nd×Nat×Nat//KdSt f ls a nd y.1 y.2.1 y.2.2.1 y.2.2.2}) (fun y=>(fin [(0,.ptr 0 0),(1,.own 1 (T.length+1+y.1.2.1.length)),(10,.c (.int .i64 T.length))],fob [(0,.box 66 (.c (rdr ls y.1.2.2.2))),(1,.row 56 7 ((T++{nd with c:=(y.1.2.2.1:Int)}::y.1.2.1).map Nd.cv))])) 2000 (fun y=>y.1.1) ⟨(f-1,[],0,a+1),hst⟩ (fG (by simp[hnd])) ?_;rintro⟨⟨g,ts,k,p⟩,hΦ⟩;simp only at hΦ;refine aC fun K hK=>?_;refine aC fun K hK=>Rg ?_;refine S0 ?_;refine HS rfl rfl fun K' hK'=>T5 ?_;refine cC (args:=[_,_]) (pN ls p wEnd (by omega)) rfl (by simp) ⟨rfl,rfl,rfl,rfl⟩ ?_;rintro u v' ⟨rfl,rfl⟩;refine AX (hK' _ _ ?_);clear hK' K';refine S0 ?_;refine T2 (hK _ _ _ ?_);clear hK K;refine aF (b:=!isV ls p wEnd 1) rfl (fun hb=>?_) (fun hb=>?_)
 ·
  have hev:isV ls p wEnd 1=false:=by simpa using hb
  obtain⟨Tq,hTq⟩: ∃Tq,Tq=T++{nd with c:=(k:Int)}::ts:=⟨_,rfl⟩;have hTql:T.length+1+ts.length=Tq.length:=by rw[hTq];simp;omega
  have hp1:=hΦ.le;have hp2:=hΦ.fuel;have hp3:=hΦ.lt;have hp4:=hΦ.len;have hp5:=hΦ.kids;rw[←hTq,hTql,hev];simp only[E7,J2];clear hb;refine aJ ?_;refine T0 (hK _ _ _ ?_);clear hK K;refine aM ?_;refine aC fun K hK=>?_;refine aC fun K hK=>Rg ?_;refine AU ?_;refine HS rfl rfl fun K' hK'=>T5 ?_;refine eG [0,1] (ih (g-1) (by omega) ls p Tq hp1 (by omega) (by omega) hls (by omega)) rfl ⟨rfl,rfl,trivial⟩ (by simp) (by simp) ⟨rfl,rfl,rfl,rfl⟩ (by simp[dO]) (by simp) ?_;rintro r os' ⟨T',rfl,rfl,h1,h2,h3⟩;rw[bT1,aY8];refine AX (hK' _ _ ?_);clear hK' K';refine AU ?_;refine T2 (hK _ _ _ ?_);clear hK K;refine R0 ?_;refine aF (b:=!(rdN (g-1) (ls.drop p)).1.isSome) rfl (fun hb=>?_) (fun hb=>?_)
  ·
   have hn2:(rdN (g-1) (ls.drop p)).1=none:=by simpa using hb
   rw[hΦ.no hev hn2];refine R0 ?_;refine aE (RT Tryz.results78 ?_);exact qS (T':=T') rfl rfl rfl rfl rfl rfl (fun t h=>by cases h) h2 (by simp only;omega)
  obtain⟨t,ht⟩: ∃t,(rdN (g-1) (ls.drop p)).1=some t:=by
   cases h:(rdN (g-1) (ls.drop p)).1 with
   |none=>rw[h]at hb;simp at hb
   |some t=>exact⟨t,rfl⟩
  have hst2:=hΦ.some_ hev ht;have hT':=h1 t ht;have hlt:T.length<T'.length:=by rw[hT',A3];omega
  have hge:T'[T.length]={nd with c:=(k:Int)}:=by simp[hT',hTq]
  have hw:IntKind.i64.wrap ((k:Int)+1)=((k+1:Nat):Int):=A8 _ (by omega);have hmne:(T'.map Nd.cv=[])=False:=by simp;intro h;rw[h]at hlt;cases hlt
  clear hb;refine aJ ?_;refine T0 (hK _ _ _ ?_);clear hK K;refine Rg ?_;have F:=aI @A0 (aI @A4 (aI hlt (aI (nM hlt) (aI hge (aI hw (aI hmne (aI U3 @A2.{0,0})))))));refine AU ?_;refine T4 ?_;refine⟨⟨(g-1,ts++t,k+1,ls.length-(rdN (g-1) (ls.drop p)).2.length),hst2⟩,?_,?_⟩
  ·
   have hrow:(List.map Nd.cv T').set T.length (Nd.cv {nd with c:=((k+1:Nat):Int)})=List.map Nd.cv (T++{nd with c:=((k+1:Nat):Int)}::(ts++t)):=by
    rw[hT',hTq,←List.map_set];simp[List.set_append]
   have hlen:T'.length=T.length+1+(ts++t).length:=by rw[hT',hTq];simp;omega
   simp only[];rw[←hrow,←hlen];exact fF
  show g-1<g;omega
 have hev:isV ls p wEnd 1=true:=by simpa using hb
 obtain⟨hp,hX⟩:=hΦ.end_ hev;have hp4:=hΦ.len;rw[hev];simp only[F7];refine bG (T3 ?_);clear hK K;refine AX (hK _ _ _ ?_);clear hK K;refine R0 ?_;refine aE (RT Tryz.results78 ?_);rw[hX];exact qS (T':=T++{nd with c:=(k:Int)}::ts) rfl rfl (by simp;omega) rfl (by simp only[B8];omega) rfl (fun t h=>by cases h;rfl) (by simp;omega) (by simp only[A3,B0,B8];omega)
theorem bT2 (N n:Nat)(ob:Ob)(e:TypeId)(sz:Nat)(v:CV)(L:List CV)(t:TypeId):jG (sub [0,N] n) ob 0 [.box t (.c v),.row e sz L]=upd (upd ob 0 (some (.box t (.c v)))) N (some (.row e sz L)):=rfl
theorem aI4 (N n m:Nat)(v:CV):HV.ren (sub [0,N] n) (.tup [.own 1 m,.c v])= .tup [.own N m,.c v]:=rfl
theorem cF6 (f:Nat)(ls:List (List aH))(a:Nat)(hal:a≤ls.length)(hfu:2*(ls.length-a)+1≤f)(hls:ls.length<2^39):
  wG Tryz.prog 78 66 (rdr ls a) [.nils] (fun u x v'=> ∃T':List Nd,u= .slc (T'.map Nd.cv)∧x= .bool (rdN f (ls.drop a)).1.isSome∧v'=rdr ls (ls.length-(rdN f (ls.drop a)).2.length)∧ ∀t,(rdN f (ls.drop a)).1=some t→T'=t):=by
 refine cA Tryz.func78 rfl (by kernel_rfl) (dV _ _ _) (C4 rfl) ?_;refine R0 ?_;refine aC fun K hK=>?_;refine aC fun K hK=>Rg ?_;refine S0 ?_;refine HS rfl rfl fun K' hK'=>T5 ?_;refine fD (args:=[]) (aY6 ls a (by omega)) rfl (by simp) ⟨rfl,rfl,rfl,rfl⟩ ?_;rintro u x v' ⟨rfl,rfl,rfl⟩;refine AX (hK' _ _ ?_);clear hK' K';refine AU ?_;refine T2 (hK _ _ _ ?_);clear hK K;refine R0 ?_;refine aF (b:=(lM ls a).isSome) rfl (fun hb=>?_) (fun hb=>?_)
 ·
  obtain⟨q,hq⟩:=G3.1 hb;obtain⟨hl,hq2⟩: ∃h:a<ls.length,dN ls[a]=some q:=by
   unfold lM at hq;split at hq
   · exact⟨by assumption,hq⟩
   cases hq
  obtain⟨g,rfl⟩: ∃g,f=g+1:=⟨f-1,by omega⟩;rw[B2 hl,pH hq2];simp only[hq,G2,F7,E0];refine AU ?_;refine aE (RT Tryz.results78 ?_);exact cI [61] (.slc [Nd.cv ⟨1,0,0,q⟩]) (.bool true) (rdr ls (a+1)) (by simp[denilL_Nd]) rfl (by simp[rdr,aR]) (by simp) ⟨[⟨1,0,0,q⟩],rfl,rfl,by simp only[B8];congr 1;omega,fun t h=>by cases h;rfl⟩
 have hno:lM ls a=none:=by simpa using hb
 simp only[hno,J9,E7,J2,O3];clear hb;refine aJ ?_;refine T0 (hK _ _ _ ?_);clear hK K;refine aC fun K hK=>Rg ?_;refine S0 ?_;refine HS rfl rfl fun K' hK'=>T5 ?_;refine fD (args:=[]) (aY7 ls a (by omega)) rfl (by simp) ⟨rfl,rfl,rfl,rfl⟩ ?_;rintro u x v' ⟨rfl,rfl,rfl⟩;refine AX (hK' _ _ ?_);clear hK' K';refine AU ?_;refine T2 (hK _ _ _ ?_);clear hK K;refine aC fun K hK=>?_;refine R0 ?_;refine aF (b:=!(lH ls a).isSome) rfl (fun hb=>?_) (fun hb=>?_)
 ·
  have hi:lH ls a=none:=by simpa using hb
  have hX:rdN f (ls.drop a)=(none,ls.drop a):=by
   obtain⟨g,rfl⟩: ∃g,f=g+1:=⟨f-1,by omega⟩;rcases H0 a ls.length with hl|hl
   · rw[iH hl]at hno;unfold lH at hi;rw[EG hl]at hi;rw[B2 hl,pI hno hi]
   rw[H9 hl];rfl
  rw[hX];simp only[hi,J9,E7,J2];refine R0 ?_;refine aE (RT Tryz.results78 ?_);exact cI [] (.slc []) (.bool false) (rdr ls a) (by simp[denilL_Nd]) rfl (by simp[rdr,aR]) (by simp) (by refine⟨[],rfl,rfl,?_⟩;first|exact(by simp only[B8];congr 1;omega)|exact⟨by simp only[B8];congr 1;omega,fun t h=>by cases h⟩)
 refine aJ ?_;refine T0 (hK _ _ _ ?_);clear hK K;obtain⟨nd,hi⟩: ∃nd,lH ls a=some nd:=by
  cases h:lH ls a with
  |none=>rw[h]at hb;simp at hb
  |some nd=>exact⟨nd,rfl⟩
 obtain⟨hl,hi2⟩: ∃h:a<ls.length,eL ls[a]=some nd:=by
  unfold lH at hi;split at hi
  · exact⟨by assumption,hi⟩
  cases hi
 rw[iH hl]at hno;have hc0:=innR_c hi2;have hnd:({k:=nd.k,n:=nd.n,c:=0,q:=nd.q}:Nd)=nd:=by cases nd;simp only at hc0;rw[hc0]
 have hst:=KdSt.init hl hfu hno hi2;simp only[hi,G2,F7,E0];clear hb;refine R0 ?_;refine RS ?_;iterate 5 refine S0 ?_
 refine RE ?_;refine aC fun K hK=>?_;refine aM ?_;refine bN (α:={y:Nat×List Nd×Nat×Nat//KdSt f ls a nd y.1 y.2.1 y.2.2.1 y.2.2.2}) (fun y=>(fin [(0,.ptr 0 0),(1,.own 109 (1+y.1.2.1.length)),(10,.c (.int .i64 0))],fob [(0,.box 66 (.c (rdr ls y.1.2.2.2))),(109,.row 56 7 (({nd with c:=(y.1.2.2.1:Int)}::y.1.2.1).map Nd.cv))])) 2000 (fun y=>y.1.1) ⟨(f-1,[],0,a+1),hst⟩ (fG (by simp[hnd])) ?_;rintro⟨⟨g,ts,k,p⟩,hΦ⟩;simp only at hΦ;refine aC fun K hK=>?_;refine aC fun K hK=>Rg ?_;refine S0 ?_;refine HS rfl rfl fun K' hK'=>T5 ?_;refine cC (args:=[_,_]) (pN ls p wEnd (by omega)) rfl (by simp) ⟨rfl,rfl,rfl,rfl⟩ ?_;rintro u v' ⟨rfl,rfl⟩;refine AX (hK' _ _ ?_);clear hK' K';refine S0 ?_;refine T2 (hK _ _ _ ?_);clear hK K;refine aF (b:=!isV ls p wEnd 1) rfl (fun hb=>?_) (fun hb=>?_)
 ·
  have hev:isV ls p wEnd 1=false:=by simpa using hb
  obtain⟨Tq,hTq⟩: ∃Tq,Tq={nd with c:=(k:Int)}::ts:=⟨_,rfl⟩;have hTql:1+ts.length=Tq.length:=by rw[hTq];simp;omega
  have hp1:=hΦ.le;have hp2:=hΦ.fuel;have hp3:=hΦ.lt;have hp4:=hΦ.len;have hp5:=hΦ.kids;have hTm:Nd.cv {nd with c:=(k:Int)}::List.map Nd.cv ts=List.map Nd.cv Tq:=by rw[hTq];rfl
  rw[hTm,hTql,hev];simp only[E7,J2];clear hb;refine aJ ?_;refine T0 (hK _ _ _ ?_);clear hK K;refine aM ?_;refine aC fun K hK=>?_;refine aC fun K hK=>Rg ?_;refine AU ?_;refine HS rfl rfl fun K' hK'=>T5 ?_;refine eG [0,109] (cN4 (g-1) ls p Tq hp1 (by omega) (by omega) hls (by omega)) rfl ⟨rfl,rfl,trivial⟩ (by simp) (by simp) ⟨rfl,rfl,rfl,rfl⟩ (by simp[dO]) (by simp) ?_;rintro r os' ⟨T',rfl,rfl,h1,h2,h3⟩;rw[bT2,aI4];refine AX (hK' _ _ ?_);clear hK' K';refine AU ?_;refine T2 (hK _ _ _ ?_);clear hK K;refine R0 ?_;refine aF (b:=!(rdN (g-1) (ls.drop p)).1.isSome) rfl (fun hb=>?_) (fun hb=>?_)
  ·
   have hn2:(rdN (g-1) (ls.drop p)).1=none:=by simpa using hb
   rw[hΦ.no hev hn2];refine R0 ?_;refine aE (RT Tryz.results78 ?_);exact cI [109] (.slc (T'.map Nd.cv)) (.bool false) (rdr ls (ls.length-(rdN (g-1) (ls.drop p)).2.length)) (by simp[denilL_Nd]) rfl (by simp[rdr,aR]) (by simp) (by refine⟨T',rfl,rfl,?_⟩;first|exact rfl|exact⟨rfl,fun t h=>by cases h⟩)
  obtain⟨t,ht⟩: ∃t,(rdN (g-1) (ls.drop p)).1=some t:=by
   cases h:(rdN (g-1) (ls.drop p)).1 with
   |none=>rw[h]at hb;simp at hb
   |some t=>exact⟨t,rfl⟩
  have hst2:=hΦ.some_ hev ht;have hT':=h1 t ht;have hlt:0<T'.length:=by rw[hT',A3];omega
  have hge:T'[0]={nd with c:=(k:Int)}:=by simp[hT',hTq]
  have hw:IntKind.i64.wrap ((k:Int)+1)=((k+1:Nat):Int):=A8 _ (by omega);have hmne:(T'.map Nd.cv=[])=False:=by simp;intro h;rw[h]at hlt;cases hlt
  clear hb;refine aJ ?_;refine T0 (hK _ _ _ ?_);clear hK K;refine Rg ?_;have F:=aI @A0 (aI @A4 (aI hlt (aI (nM hlt) (aI hge (aI hw (aI hmne (aI U3 @A2.{0,0})))))));refine AU ?_;refine T4 ?_;refine⟨⟨(g-1,ts++t,k+1,ls.length-(rdN (g-1) (ls.drop p)).2.length),hst2⟩,?_,?_⟩
  ·
   have hrow:(List.map Nd.cv T').set 0 (Nd.cv {nd with c:=((k+1:Nat):Int)})=List.map Nd.cv ({nd with c:=((k+1:Nat):Int)}::(ts++t)):=by
    rw[hT',hTq,←List.map_set];simp
   have hlen:T'.length=1+(ts++t).length:=by rw[hT',hTq];simp;omega
   simp only[];rw[←hrow,←hlen];exact fF
  show g-1<g;omega
 have hev:isV ls p wEnd 1=true:=by simpa using hb
 obtain⟨hp,hX⟩:=hΦ.end_ hev;have hp4:=hΦ.len;rw[hev];simp only[F7];refine bG (T3 ?_);clear hK K;refine AX (hK _ _ _ ?_);clear hK K;refine R0 ?_;refine aE (RT Tryz.results78 ?_);rw[hX];exact cI [109] (.slc (({nd with c:=(k:Int)}::ts).map Nd.cv)) (.bool true) (rdr ls (p+1)) (by simp[show 1+ts.length=ts.length+1 from by omega,denilL_Nd]) rfl (by simp[rdr,aR]) (by simp) ⟨_,rfl,rfl,by simp only[B8];congr 1;omega,fun t h=>by cases h;rfl⟩
def pr0 :Pr:=⟨[],[],[],0,[]⟩
theorem bT3 (ls:List (List aH))(a:Nat)(hal:a≤ls.length)(hls:ls.length<2^39):
  wG Tryz.prog 51 66 (rdr ls a) [] (fun u x v'=> ∃q:Pr,u=q.cv∧x= .bool (rdR (ls.drop a)).1.isSome∧v'=rdr ls (ls.length-(rdR (ls.drop a)).2.length)∧ ∀p,(rdR (ls.drop a)).1=some p→q=p):=by
 refine cA Tryz.func51 rfl (by kernel_rfl) (dV _ _ _) (C4 rfl) ?_;refine R0 ?_;refine aC fun K hK=>?_;refine aC fun K hK=>Rg ?_;refine S0 ?_;refine HS rfl rfl fun K' hK'=>T5 ?_;refine cC (args:=[_,_]) (aI3 ls a 5 wRule (by omega)) rfl (by simp) ⟨rfl,rfl,rfl,rfl⟩ ?_;rintro u v' ⟨rfl,rfl⟩;refine AX (hK' _ _ ?_);clear hK' K';refine S0 ?_;refine T2 (hK _ _ _ ?_);clear hK K;refine aF (b:=!isV ls a wRule 5) rfl (fun hb=>?_) (fun hb=>?_)
 · have hX:=cU2 hal (show isV ls a wRule 5=false by simpa using hb);refine AU ?_;refine aE (RT Tryz.results51 ?_);rw[hX];exact cI [] pr0.cv (.bool false) (rdr ls a) rfl rfl (by simp[rdr,aR]) (by simp) (by refine⟨pr0,rfl,rfl,?_⟩;first|exact(by simp only[B8];congr 1;omega)|exact⟨by simp only[B8];congr 1;omega,fun t h=>by cases h⟩)
 refine aJ ?_;refine T0 (hK _ _ _ ?_);clear hK K;obtain⟨hl,hl1,hl2⟩:=iG (show isV ls a wRule 5=true by simpa using hb);have h1:1<ls[a].length:=by omega
 have h2:2<ls[a].length:=by omega
 have h3:3<ls[a].length:=by omega
 have hw:IntKind.i64.wrap ((a:Int)+1)=((a+1:Nat):Int):=A8 _ (by omega);clear hb;refine aC fun K hK=>QR ?_;iterate 11 refine S0 ?_ (e:=fun _ h_=>by simp only[sH,↓sP,sA,tyS,simprocAttr,rdr,A0,A4,hl,aV hl,dB];exact AX h_)
 refine T2 (hK _ _ _ ?_);clear hK K;refine aC fun K hK=>Rg ?_;refine S0 ?_;refine HS rfl rfl fun K' hK'=>T5 ?_;refine fD (args:=[_]) (nE ls a 4 hl (by omega)) rfl (by simp) ⟨rfl,rfl,rfl,rfl⟩ ?_;rintro u x v' ⟨rfl,rfl,rfl⟩;refine AX (hK' _ _ ?_);clear hK' K';refine AU ?_;refine T2 (hK _ _ _ ?_);clear hK K;refine aC fun K hK=>?_;refine R0 ?_;refine aF (b:=!(bP (wd ls[a] 4)).isSome) rfl (fun hb=>?_) (fun hb=>?_)
 · have hX:=cM7 hl hl1 hl2 (show bP (wd ls[a] 4)=none by simpa using hb);refine AU ?_;refine aE (RT Tryz.results51 ?_);rw[hX];exact cI [] pr0.cv (.bool false) (rdr ls a) rfl rfl (by simp[rdr,aR]) (by simp) (by refine⟨pr0,rfl,rfl,?_⟩;first|exact(by simp only[B8];congr 1;omega)|exact⟨by simp only[B8];congr 1;omega,fun t h=>by cases h⟩)
 refine aJ ?_;refine T0 (hK _ _ _ ?_);clear hK K;obtain⟨g,hg⟩: ∃g,bP (wd ls[a] 4)=some g:=by
  cases h:bP (wd ls[a] 4)with
  |none=>rw[h]at hb;simp at hb
  |some g=>exact⟨g,rfl⟩
 have hX:=cD8 hl hl1 hl2 hg;clear hb;simp only[hg,E0];have hN:wG Tryz.prog 78 66 (rdr ls (a+1)) [.nils] (fun u x v'=> ∃T':List Nd,u= .slc (T'.map Nd.cv)∧x= .bool (rdT (ls.drop (a+1))).1.isSome∧v'=rdr ls (ls.length-(rdT (ls.drop (a+1))).2.length)∧ ∀t,(rdT (ls.drop (a+1))).1=some t→T'=t):=cF6 (2*(ls.drop (a+1)).length+2) ls (a+1) hl (by simp only[B8];omega) hls;refine RS ?_;iterate 8 refine S0 ?_ (e:=fun _ h_=>by simp only[sH,↓sP,sA,tyS,simprocAttr,rdr,hw];exact AX h_)
 refine RE ?_;refine aC fun K hK=>aZ (by kernel_rfl) ?_;simp only[sR,simprocAttr];refine SG0 ?_;refine wD (g:=none) rfl rfl fun K' hK'=>?_;simp only[sN,↓hopH.eq_def,sH,↓sP,sA,tyS,simprocAttr];refine fD (args:=[_]) hN rfl (by simp) ⟨rfl,rfl,rfl,rfl⟩ ?_;rintro u x v' ⟨T',rfl,rfl,rfl,hT⟩;refine AX (hK' _ _ ?_);clear hK' K';iterate 5 refine SG0 ?_
 refine T2 (hK _ _ _ ?_);clear hK K;refine aC fun K hK=>DW [(0,[],[]),(1,[],[]),(2,[],[]),(3,[],[]),(4,[],[]),(5,[],[]),(6,[],[]),(7,[],[]),(8,[],[]),(9,[],[]),(10,[],[]),(11,[],[]),(12,[],[]),(13,[],[12]),(14,[],[])] [0,1,3,0,8,24,0,64,192,0,0,2047,0,4095,16383] ?_;iterate 15 refine W0 ?_ (e:=fun _ h_=>by simp only[sH,↓sP,sA,tyS,simprocAttr,lsC,Q5,cH h1,cH h2,cH h3,hl1];exact AX h_)
 refine T2 (hK _ _ _ ?_);clear hK K;refine aE (RT Tryz.results51 ?_);rw[hX];exact cI [] (Pr.cv ⟨wd ls[a] 1,wd ls[a] 2,wd ls[a] 3,g,T'⟩) (.bool (rdT (ls.drop (a+1))).1.isSome) (rdr ls (ls.length-(rdT (ls.drop (a+1))).2.length)) (by simp[Pr.cv,denilL_Nd]) rfl (by simp[rdr,aR]) (by simp) ⟨_,rfl,by simp,rfl,fun p h=>by
  cases h4:(rdT (ls.drop (a+1))).1 with
  |none=>simp[h4]at h
  |some t=>simp[h4]at h;rw[←h,hT t h4]⟩
theorem cF7 (ls:List (List aH))(hls:ls.length<2^39):
  wG Tryz.prog 24 66 (rdr ls 0) [] (fun u x v'=> ∃q:Po,u=q.cv∧x= .bool (rdP ls).1.isSome∧v'=rdr ls (ls.length-(rdP ls).2.length)∧ ∀p,(rdP ls).1=some p→q=p):=by
 refine cA Tryz.func24 rfl (by kernel_rfl) (dV _ _ _) (C4 rfl) ?_;refine R0 ?_;refine aC fun K hK=>?_;refine aC fun K hK=>Rg ?_;refine S0 ?_;refine HS rfl rfl fun K' hK'=>T5 ?_;refine cC (args:=[_,_]) (aI3 ls 0 3 wPolicy (by omega)) rfl (by simp) ⟨rfl,rfl,rfl,rfl⟩ ?_;rintro u v' ⟨rfl,rfl⟩;refine AX (hK' _ _ ?_);clear hK' K';refine S0 ?_;refine T2 (hK _ _ _ ?_);clear hK K;refine aF (b:=!isV ls 0 wPolicy 3) rfl (fun hb=>?_) (fun hb=>?_)
 · have hX:=cU3 (show isV ls 0 wPolicy 3=false by simpa using hb);refine AU ?_;refine aE (RT Tryz.results24 ?_);rw[hX];exact cI [] po0.cv (.bool false) (rdr ls 0) (by simp[po0,Po.cv,denilL_Pr]) rfl (by simp[rdr,aR]) (by simp) (by refine⟨po0,rfl,rfl,?_⟩;first|exact(by simp only[B8];congr 1;omega)|exact rfl|exact⟨by simp,fun t h=>by cases h⟩)
 refine aJ ?_;refine T0 (hK _ _ _ ?_);clear hK K;obtain⟨hl,hl1,hl2⟩:=iG (show isV ls 0 wPolicy 3=true by simpa using hb);have h1:1<ls[0].length:=by omega
 clear hb;refine aC fun K hK=>Rg ?_;refine S0 ?_;refine HS rfl rfl fun K' hK'=>T5 ?_;refine fD (args:=[_]) (nE ls 0 2 hl (by omega)) rfl (by simp) ⟨rfl,rfl,rfl,rfl⟩ ?_;rintro u x v' ⟨rfl,rfl,rfl⟩;refine AX (hK' _ _ ?_);clear hK' K';refine AU ?_;refine T2 (hK _ _ _ ?_);clear hK K;refine aC fun K hK=>?_;refine R0 ?_;refine aF (b:=!(bP (wd ls[0] 2)).isSome) rfl (fun hb=>?_) (fun hb=>?_)
 · have hX:=cM8 hl hl1 hl2 (show bP (wd ls[0] 2)=none by simpa using hb);refine AU ?_;refine aE (RT Tryz.results24 ?_);rw[hX];exact cI [] po0.cv (.bool false) (rdr ls 0) (by simp[po0,Po.cv,denilL_Pr]) rfl (by simp[rdr,aR]) (by simp) (by refine⟨po0,rfl,rfl,?_⟩;first|exact(by simp only[B8];congr 1;omega)|exact rfl|exact⟨by simp,fun t h=>by cases h⟩)
 refine aJ ?_;refine T0 (hK _ _ _ ?_);clear hK K;obtain⟨v,hv⟩: ∃v,bP (wd ls[0] 2)=some v:=by
  cases h:bP (wd ls[0] 2)with
  |none=>rw[h]at hb;simp at hb
  |some v=>exact⟨v,rfl⟩
 obtain⟨X,hX,hst⟩:=cD9 hl hl1 hl2 hv;clear hb;simp only[hv,E0];refine RS ?_;iterate 12 refine S0 ?_ (e:=fun _ h_=>by simp only[sH,↓sP,sA,tyS,simprocAttr,rdr,hl,aV hl,lsC,cH h1,Q5,hl1,Q9];exact AX h_)
 refine RE ?_;refine aC fun K hK=>?_;refine RS ?_;iterate 8 refine S0 ?_ (e:=fun _ h_=>by simp only[sH,↓sP,sA,tyS,simprocAttr,rdr];exact AX h_)
 refine RE ?_;refine aM ?_;refine pY 97 2 48 5 rfl rfl rfl rfl ?_;refine bN (α:={y:List Pr×Nat//RsSt ls X y.1 y.2}) (fun y=>(fin [(0,.ptr 0 0),(2,.ptr 1 0),(6,.ptr 97 0)],fob [(0,.box 66 (.c (rdr ls y.1.2))),(1,.box 29 (.c (.agg [.str [],.int .i64 0,.nils]))),(97,.box 29 (.agg [.c (.str (wd ls[0] 1)),.c (.int .i64 v),.own 137 y.1.1.length])),(137,.row 48 5 (y.1.1.map Pr.cv))])) 2000 (fun y=>ls.length-y.1.2) ⟨([],1),hst⟩ (fG (by simp[rdr,show IntKind.i64.wrap 1=1 from rfl])) ?_;rintro⟨⟨acc,p⟩,hΦ⟩;simp only at hΦ;refine aC fun K hK=>?_;refine aC fun K hK=>QR ?_;iterate 10 refine S0 ?_ (e:=fun _ h_=>by simp only[sH,↓sP,sA,tyS,simprocAttr,rdr];exact AX h_)
 refine T2 (hK _ _ _ ?_);clear hK K;refine aF (b:=decide ((p:Int)<ls.length)) rfl (fun hb=>?_) (fun hb=>?_)
 ·
  have hp:p<ls.length:=by simpa using hb
  have hp1:=hΦ.le;have hp2:=hΦ.len;clear hb;refine aJ ?_;refine T0 (hK _ _ _ ?_);clear hK K;refine aM ?_;refine aC fun K hK=>Rg ?_;refine S0 ?_;refine HS rfl rfl fun K' hK'=>T5 ?_;refine fD (args:=[]) (bT3 ls p hp1 hls) rfl (by simp) ⟨rfl,rfl,rfl,rfl⟩ ?_;rintro u x v' ⟨q,rfl,rfl,rfl,hq⟩;refine AX (hK' _ _ ?_);clear hK' K';refine AU ?_;refine T2 (hK _ _ _ ?_);clear hK K;refine aC fun K hK=>?_;refine R0 ?_;refine aF (b:=!(rdR (ls.drop p)).1.isSome) rfl (fun hb=>?_) (fun hb=>?_)
  ·
   have hno:(rdR (ls.drop p)).1=none:=by simpa using hb
   have hXn:=hΦ.no hp hno;refine AU ?_;refine aE (RT Tryz.results24 ?_);rw[hX,hXn];exact cI [] po0.cv (.bool false) (rdr ls (ls.length-(rdR (ls.drop p)).2.length)) (by simp[po0,Po.cv,denilL_Pr]) rfl (by simp[rdr,aR]) (by simp) (by refine⟨po0,rfl,rfl,?_⟩;first|exact(by simp only[B8];congr 1;omega)|exact rfl|exact⟨by simp,fun t h=>by cases h⟩)
  obtain⟨x,hx⟩: ∃x,(rdR (ls.drop p)).1=some x:=by
   cases h:(rdR (ls.drop p)).1 with
   |none=>rw[h]at hb;simp at hb
   |some x=>exact⟨x,rfl⟩
  obtain⟨hst2,hlt2⟩:=hΦ.some_ hp hx;obtain rfl:=hq x hx;clear hb;refine aJ ?_;refine T0 (hK _ _ _ ?_);clear hK K;refine Rg ?_;refine AU ?_;refine T4 ?_;refine⟨⟨(acc++[q],ls.length-(rdR (ls.drop p)).2.length),hst2⟩,fG (by simp[C5]),?_⟩;show ls.length-(ls.length-(rdR (ls.drop p)).2.length)<ls.length-p;omega
 have hp: ¬p<ls.length:=by simpa using hb
 obtain⟨rfl,hXs⟩:=hΦ.done hp;refine bG (T3 ?_);clear hK K;refine AX (hK _ _ _ ?_);clear hK K;refine AU ?_;refine aE (RT Tryz.results24 ?_);rw[hX,hXs];refine⟨rfl,?_⟩;exact cI [137] (Po.cv ⟨wd ls[0] 1,v,acc⟩) (.bool true) (rdr ls ls.length) (by simp[po0,Po.cv,denilL_Pr]) rfl (by simp[rdr,aR]) (by simp) (by exact⟨_,rfl,rfl,by simp,fun p h=>by cases h;rfl⟩)
end Go.Proofs.YtlgckianjabghaaGreatDoor
namespace Go.Proofs.YtlgckianjabghaaGreatDoor
open Go Go.Hl Go.Pl Go.RowKit Go.Shelf
def cN5 :Go.Shelf.Ren:=⟨fun|173=>79|246=>105|283=>117|284=>118|285=>119|286=>120|129=>124|317=>123|318=>125|319=>126|320=>127|337=>128|338=>129|n=>n,fun|2=>2|3=>3|9=>9|4=>4|171=>159|0=>0|53=>84|37=>23|5=>5|173=>162|212=>170|51=>153|20=>20|213=>171|46=>90|232=>175|233=>176|n=>n,fun|17=>3|18=>4|19=>5|n=>n⟩
theorem cV0 :Go.Proofs.LaysM.n173 Tryz.prog cN5:={
  mixed:=by kernel_rfl
  f129:=Tryz.func124.trans (congrArg some (by kernel_rfl))
  f173:=Tryz.func79.trans (congrArg some (by kernel_rfl))
  f246:=Tryz.func105.trans (congrArg some (by kernel_rfl))
  f283:=Tryz.func117.trans (congrArg some (by kernel_rfl))
  f284:=Tryz.func118.trans (congrArg some (by kernel_rfl))
  f285:=Tryz.func119.trans (congrArg some (by kernel_rfl))
  f286:=Tryz.func120.trans (congrArg some (by kernel_rfl))
  f317:=Tryz.func123.trans (congrArg some (by kernel_rfl))
  f318:=Tryz.func125.trans (congrArg some (by kernel_rfl))
  f319:=Tryz.func126.trans (congrArg some (by kernel_rfl))
  f320:=Tryz.func127.trans (congrArg some (by kernel_rfl))
  f337:=Tryz.func128.trans (congrArg some (by kernel_rfl))
  f338:=Tryz.func129.trans (congrArg some (by kernel_rfl))
  t0:=Tryz.underlying0
  a0:=Tryz.isAgg0
  z0:=Tryz.sizeOf0
  v0:=Tryz.zeroValue0
  t2:=Tryz.underlying2
  a2:=Tryz.isAgg2
  z2:=Tryz.sizeOf2
  v2:=Tryz.zeroValue2
  t3:=Tryz.underlying3
  a3:=Tryz.isAgg3
  z3:=Tryz.sizeOf3
  v3:=Tryz.zeroValue3
  t4:=Tryz.underlying4
  a4:=Tryz.isAgg4
  z4:=Tryz.sizeOf4
  v4:=Tryz.zeroValue4
  t5:=Tryz.underlying5
  a5:=Tryz.isAgg5
  z5:=Tryz.sizeOf5
  v5:=Tryz.zeroValue5
  t9:=Tryz.underlying9
  a9:=Tryz.isAgg9
  z9:=Tryz.sizeOf9
  v9:=Tryz.zeroValue9
  t20:=Tryz.underlying20
  a20:=Tryz.isAgg20
  z20:=Tryz.sizeOf20
  v20:=Tryz.zeroValue20
  t37:=Tryz.underlying23
  a37:=Tryz.isAgg23
  z37:=Tryz.sizeOf23
  v37:=Tryz.zeroValue23
  t46:=Tryz.underlying90
  a46:=Tryz.isAgg90
  z46:=Tryz.sizeOf90
  v46:=Tryz.zeroValue90
  t51:=Tryz.underlying153
  a51:=Tryz.isAgg153
  z51:=Tryz.sizeOf153
  v51:=Tryz.zeroValue153
  t53:=Tryz.underlying84
  a53:=Tryz.isAgg84
  z53:=Tryz.sizeOf84
  v53:=Tryz.zeroValue84
  t171:=Tryz.underlying159
  a171:=Tryz.isAgg159
  z171:=Tryz.sizeOf159
  v171:=Tryz.zeroValue159
  t173:=Tryz.underlying162
  a173:=Tryz.isAgg162
  z173:=Tryz.sizeOf162
  v173:=Tryz.zeroValue162
  t212:=Tryz.underlying170
  a212:=Tryz.isAgg170
  z212:=Tryz.sizeOf170
  v212:=Tryz.zeroValue170
  t213:=Tryz.underlying171
  a213:=Tryz.isAgg171
  z213:=Tryz.sizeOf171
  t232:=Tryz.underlying175
  a232:=Tryz.isAgg175
  z232:=Tryz.sizeOf175
  v232:=Tryz.zeroValue175
  t233:=Tryz.underlying176
  a233:=Tryz.isAgg176
  z233:=Tryz.sizeOf176
  v233:=Tryz.zeroValue176
  g17:=by kernel_rfl
  g18:=by kernel_rfl
  g19:=by kernel_rfl
  i0:=by kernel_rfl
  i2:=by kernel_rfl
  i3:=by kernel_rfl
  i4:=by kernel_rfl
  i5:=by kernel_rfl
  i9:=by kernel_rfl
  i20:=by kernel_rfl
  i37:=by kernel_rfl
  i46:=by kernel_rfl
  i51:=by kernel_rfl
  i53:=by kernel_rfl
  i171:=by kernel_rfl
  i173:=by kernel_rfl
  i212:=by kernel_rfl
  i232:=by kernel_rfl
  i233:=by kernel_rfl
  m17:=by kernel_rfl
  m18:=by kernel_rfl
  m19:=by kernel_rfl}
theorem aO6 :Tryz.prog.globalNamed "internal/strconv.uint64pow10" =some 3:=by kernel_rfl
def tabs :mH:=[(3,Lib.pow10Tab.map fun z=>Value.int .u64 z)]
theorem bT4 (n:Int)(h: -9223372036854775808≤n∧n≤9223372036854775807):nQ Tryz.prog 79 tabs [.int .i64 n,.int .i64 10] (fun v=>v= .str (numW n)):=
  bC3 (by kernel_rfl) aO6 (F6) (fun w hw=>Any.strconv_FormatInt_10 cV0 n h.1 h.2 w hw)
end Go.Proofs.YtlgckianjabghaaGreatDoor
namespace Go.Proofs.YtlgckianjabghaaGreatDoor
open Go Go.Hl Go.Pl
theorem uB (n:Int)(hn: -9223372036854775808≤n∧n≤9223372036854775807):cG Tryz.prog 15 [.int .i64 n] (fun v=>v= .str (numW n)):=by
 refine FW Tryz.func15 ?_;refine R0 ?_;refine aC fun K hK=>?_;refine R0 ?_;refine aF (b:=n==0) rfl (fun hb=>?_) (fun hb=>?_)
 · refine R0 ?_;refine aE (RT Tryz.results15 ?_);exact aK [] (.str [48]) rfl (by rw[show n=0 from by simpa using hb,bQ1])
 refine aJ ?_;refine T0 (hK _ _ _ ?_);clear hK K;have hne:n≠0:=by simpa using hb
 clear hb;refine RS ?_;iterate 4 refine S0 ?_
 refine RE ?_;refine aC fun K hK=>?_;have key: ∀(sg:aH) (u:Nat) fr ob nx,(u<18446744073709551616∧u≠0∧sg.length≤1∧numW n=sg++Lib.decDigits u)→Fits 0 fr ob (fin [(3,.c (.str sg)),(4,.c (.int .u64 u))]) (fob []) 600→K fr ob nx:=by
  rintro sg u fr ob nx ⟨hu,hu0,hsg,hnum⟩ hf;refine hK _ _ _ (bB hf ?_);clear hf hK K;have hdl:=bZ1 hu;refine R0 ?_;refine aC fun K hK=>?_;refine aM ?_;refine bN (α:={y:Nat×aH//y.1≤u∧(if y.1=0 then []else Lib.decDigits y.1)++y.2=Lib.decDigits u}) (fun y=>(fin [(3,.c (.str sg)),(4,.c (.int .u64 y.1.1)),(5,.c (.str y.1.2))],fob [])) 100 (fun y=>y.1.1) ⟨(u,[]),by simp,by simp[hu0]⟩ (fF) ?_;rintro⟨⟨v,s⟩,hv,hs⟩;simp only at hv hs⊢;have hsl:s.length≤20:=by
   have:=congrArg List.length hs;rw[A3]at this;omega
  refine aC fun K hK=>?_;refine R0 ?_;refine aF (b:=decide ((0:Int)<v)) rfl (fun hb=>?_) (fun hb=>?_)
  ·
   have hv0:v≠0:=by simp at hb;omega
   clear hb;have hv64:v<18446744073709551616:=by omega
   have h10:((10:Int)=0)↔False:=by simp
   have hsl1:[UInt8.ofNat (48+v%10)].length+s.length≤9223372036854775807:=by simp;omega
   rw[A7 hv0,bZ0 hv0]at hs;refine aJ ?_;refine T0 (hK _ _ _ ?_);clear hK K;refine aM ?_;refine aC fun K hK=>aZ (by kernel_rfl) ?_;simp only[sR,simprocAttr];have F:=aI @zG (aI @eK (aI h10 hsl1));iterate 4 refine SGF ?_
   refine cU (g:=none) 124 rfl rfl fun K' hK'=>?_;simp only[fI,iM,sH,↓sP,sA,tyS,simprocAttr,zG,eK,h10,hsl1];repeat refine AI ?_
   refine cK (by first|rfl|simp) ?_;try simp only[sH,↓sP,sA,tyS,simprocAttr,zG,eK,h10,hsl1]
   refine AX (hK' _ _ ?_);clear hK' K';iterate 4 refine SGF ?_
   refine T2 (hK _ _ _ ?_);clear hK K;refine aL (by kernel_rfl) ?_;simp only[↓sP,sA,tyS,simprocAttr,cK4 hv64,h10];refine⟨⟨(v/10,[UInt8.ofNat (48+v%10)]++s),by simp only;omega,by simp only;rw[←hs,E8]⟩,fF,?_⟩;show v/10<v;omega
  have hv0:v=0:=by simp at hb;omega
  clear hb;subst hv0;rw[B6 rfl,I9]at hs;subst hs;have hle:sg.length+(Lib.decDigits u).length≤9223372036854775807:=by omega
  refine bG (T3 ?_);clear hK K;refine AX (hK _ _ _ ?_);clear hK K;refine RS ?_;have F:=hle;refine AU ?_;refine aE (RT Tryz.results15 ?_);exact aK [] (.str _) rfl (by rw[hnum])
 refine R0 ?_;refine aF (b:=decide (n<0)) rfl (fun hb=>?_) (fun hb=>?_)
 ·
  have hlt:n<0:=by simpa using hb
  refine Rg ?_;have F:=aM2 hlt hn.1;refine AU ?_;refine T4 ?_;first
   |exact key [45] n.natAbs _ _ _ ⟨by omega,by omega,by simp,aV1 (by simpa using hb)⟩ (by rw[←aM2 (by simpa using hb) hn.1];exact fF)
   |(have h0:0≤n:=(by simp at hb;omega);exact key [] n.natAbs _ _ _ ⟨by omega,by omega,by simp,tN h0⟩ (by rw[←bI7 h0 hn.2];exact fF))
 refine aJ (T3 ?_);first
  |exact key [45] n.natAbs _ _ _ ⟨by omega,by omega,by simp,aV1 (by simpa using hb)⟩ (by rw[←aM2 (by simpa using hb) hn.1];exact fF)
  |(have h0:0≤n:=(by simp at hb;omega);exact key [] n.natAbs _ _ _ ⟨by omega,by omega,by simp,tN h0⟩ (by rw[←bI7 h0 hn.2];exact fF))
theorem zY (n:Int)(hn: -9223372036854775808≤n∧n≤9223372036854775807):nQ Tryz.prog 52 tabs [.int .i64 n] (fun v=>v= .str (numW n)):=by
 refine cA (args:=[.c (.int .i64 n)]) Tryz.func52 rfl (by kernel_rfl) (gT tabs [.int .i64 n]) (C4 rfl) ?_;refine R0 ?_;refine aC fun K hK=>Rg ?_;refine S0 ?_;refine HS rfl rfl fun K' hK'=>T5 ?_;refine gM (args:=[_,_]) 0 (bT4 n hn) (iD _ 0) (by simp) ⟨rfl,rfl,rfl,rfl⟩ ?_;rintro u rfl;refine AX (hK' _ _ ?_);clear hK' K';refine S0 ?_;refine T2 (hK _ _ _ ?_);clear hK K;refine aE (RT Tryz.results52 ?_);exact eX [] (.str _) rfl (iD _ 0) (by simp) rfl
def cN6 (n:Int):Prop:= -9223372036854775808≤n∧n≤9223372036854775807
theorem cF8 (q:Rq)(hn:cN6 q.n)(hm:cN6 q.m):nQ Tryz.prog 80 tabs [q.cv] (fun v=>v=lsC (wlR q)):=by
 refine cA (args:=[.c q.cv]) Tryz.func80 rfl (by kernel_rfl) (gT tabs [q.cv]) (C4 rfl) ?_;unfold fX;refine R0 ?_;refine aC fun K hK=>Rg ?_;refine AU ?_;refine HS rfl rfl fun K' hK'=>T5 ?_;refine gM (args:=[_]) 0 (zY q.n hn) rfl (by simp) ⟨rfl,rfl,rfl,rfl⟩ ?_;rintro u rfl;refine AX (hK' _ _ ?_);clear hK' K';refine S0 ?_;refine T2 (hK _ _ _ ?_);clear hK K;refine aC fun K hK=>?_;refine R0 ?_;refine aM ?_;refine R0 ?_;refine aF (b:=(q.k==1)) rfl (fun hb=>?_) (fun hb=>?_)
 ·
  have hk:q.k=1:=by simpa using hb
  clear hb;refine R0 ?_;refine aE (RT Tryz.results80 ?_);exact eX [45] (lsC (wlR q)) (by rw[show wlR q=[bO,numW q.n]from by simp[wlR, *]];simp[lsC];rfl) rfl (by simp) rfl
 have hk1: ¬q.k=1:=by simpa using hb
 clear hb;refine R0 ?_;refine aF (b:=(q.k==2)) rfl (fun hb=>?_) (fun hb=>?_)
 ·
  have hk:q.k=2:=by simpa using hb
  clear hb;refine AU ?_;refine aE (RT Tryz.results80 ?_);exact eX [57] (lsC (wlR q)) (by rw[show wlR q=[bL,q.t]from by simp[wlR, *]];simp[lsC];rfl) rfl (by simp) rfl
 have hk2: ¬q.k=2:=by simpa using hb
 clear hb;refine R0 ?_;refine aF (b:=(q.k==3)) rfl (fun hb=>?_) (fun hb=>?_)
 ·
  have hk:q.k=3:=by simpa using hb
  clear hb;refine R0 ?_;refine aE (RT Tryz.results80 ?_);exact eX [61] (lsC (wlR q)) (by rw[show wlR q=[bQ,numW q.n]from by simp[wlR, *]];simp[lsC];rfl) rfl (by simp) rfl
 have hk3: ¬q.k=3:=by simpa using hb
 clear hb;refine R0 ?_;refine aF (b:=(q.k==4)) rfl (fun hb=>?_) (fun hb=>?_)
 ·
  have hk:q.k=4:=by simpa using hb
  clear hb;refine aC fun K hK=>Rg ?_;refine AU ?_;refine HS rfl rfl fun K' hK'=>T5 ?_;refine gM (args:=[_]) 0 (zY q.m hm) rfl (by simp) ⟨rfl,rfl,rfl,rfl⟩ ?_;rintro u rfl;refine AX (hK' _ _ ?_);clear hK' K';refine AU ?_;refine T2 (hK _ _ _ ?_);clear hK K;refine aE (RT Tryz.results80 ?_);exact eX [81] (lsC (wlR q)) (by rw[show wlR q=[bW,numW q.n,numW q.m]from by simp[wlR, *]];simp[lsC];rfl) rfl (by simp) rfl
 have hk4: ¬q.k=4:=by simpa using hb
 clear hb;refine R0 ?_;refine aF (b:=(q.k==5)) rfl (fun hb=>?_) (fun hb=>?_)
 ·
  have hk:q.k=5:=by simpa using hb
  clear hb;refine R0 ?_;refine aE (RT Tryz.results80 ?_);exact eX [77] (lsC (wlR q)) (by rw[show wlR q=[cF,numW q.n]from by simp[wlR, *]];simp[lsC];rfl) rfl (by simp) rfl
 have hk5: ¬q.k=5:=by simpa using hb
 clear hb;refine R0 ?_;refine aF (b:=(q.k==6)) rfl (fun hb=>?_) (fun hb=>?_)
 ·
  have hk:q.k=6:=by simpa using hb
  clear hb;refine R0 ?_;refine aE (RT Tryz.results80 ?_);exact eX [85] (lsC (wlR q)) (by rw[show wlR q=[cQ,numW q.n]from by simp[wlR, *]];simp[lsC];rfl) rfl (by simp) rfl
 have hk6: ¬q.k=6:=by simpa using hb
 clear hb;refine R0 ?_;refine aF (b:=(q.k==7)) rfl (fun hb=>?_) (fun hb=>?_)
 ·
  have hk:q.k=7:=by simpa using hb
  clear hb;refine R0 ?_;refine aE (RT Tryz.results80 ?_);exact eX [93] (lsC (wlR q)) (by rw[show wlR q=[cR,numW q.n]from by simp[wlR, *]];simp[lsC];rfl) rfl (by simp) rfl
 have hk7: ¬q.k=7:=by simpa using hb
 clear hb;refine aJ ?_;refine T0 (hK _ _ _ ?_);clear hK K;refine R0 ?_;refine aE (RT Tryz.results80 ?_);exact eX [89] (lsC (wlR q)) (by rw[show wlR q=[bX]from by simp[wlR, *]];simp[lsC];rfl) rfl (by simp) rfl
theorem dA1 (L:List (List aH)):lst [.tab tabs,.row 37 1 (L.map lsC)]=fob [(0,.tab tabs),(1,.row 37 1 (L.map lsC))]:=by
 funext i
 match i with
 |0=>rfl
 |1=>rfl
 |i+2=>simp[lst,fob,upd]
theorem bF3 (n:Nat)(ob:Ob)(e:TypeId)(sz:Nat)(T:mH)(L:List CV):jG (sub [0,1] n) ob 0 [.tab T,.row e sz L]=upd (upd ob 0 (some (.tab T))) 1 (some (.row e sz L)):=rfl
theorem zZ {ob:Ob}{L:List CV}{M:List (List aH)}{m:Nat}{a:Nat}(h0:ob 0=some (.tab tabs))(h1:ob 1=some (.row 37 1 L))(hm:m=M.length)(hL:L=M.map lsC):
  lC 2 (.tup [.own 1 m,.c (.int .i64 a)]) ob (fun r ob'=> ∃os',ob'=lst os'∧(2≤os'.length∧os'.length≤2+4)∧r= .tup [.own 1 M.length,.c (.int .i64 a)]∧os'=[.tab tabs,.row 37 1 (M.map lsC)]):=by
 subst hm hL;exact dS [] [] (.tup [.own 1 M.length,.c (.int .i64 a)]) [.tab tabs,.row 37 1 (M.map lsC)] rfl (by simp) ⟨⟨by simp,by simp,_,h0,rfl⟩,⟨by simp,by simp,_,h1,rfl⟩,trivial⟩ rfl I3 (by simp) (by simp) ⟨rfl,rfl⟩
theorem cF9 (l:List Nd)(ht:IsTree l)(m:Nat): ∀(L:List (List aH)) (i:Nat) (hi:i<l.length),l.length-i≤m→0<L.length→L.length+2*(l.length-i)<2^40→
  HGe Tryz.prog 53 [.own 1 L.length,.c (.slc (l.map Nd.cv)),.c (.int .i64 i)] [.tab tabs,.row 37 1 (L.map lsC)] (fun r os'=>r= .tup [.own 1 (L++fY l i).length,.c (.int .i64 (aft l i:Nat))]∧os'=[.tab tabs,.row 37 1 ((L++fY l i).map lsC)]):=by
 induction m using Nat.strongRecOn with
 |ind m ih=>?_
 intro L i hi hfu hL0 hLl;refine cA (args:=[.own 1 L.length,.c (.slc (l.map Nd.cv)),.c (.int .i64 i)]) Tryz.func53 rfl (by kernel_rfl) (eM rfl (by simp[dO]) (by simp)) (C4 rfl) ?_;show Hw _ _ 2 _ _ _ (lst _) 2;rw[dA1];have hnode:=ht.node _ (C0 hi);obtain⟨c1,c2,c3,c4⟩:=eF hnode;have hll:=ht.len;have hwi:IntKind.i64.wrap ((i:Int)+1)=((i+1:Nat):Int):=A8 _ (by omega);obtain⟨a1,a2,a3⟩:=jL ht hi;refine R0 ?_;refine RS ?_;have F:=aI @A0 (aI @A4 (aI hi (nM hi)));iterate 6 refine SF ?_
 refine RE ?_;have F:=hwi;refine RF ?_;refine aC fun K hK=>?_;have key: ∀fr ob nx,l[i].k≠1→Fits 2 fr ob (fin [(0,.own 1 (L.length+1)),(1,.c (.slc (l.map Nd.cv))),(2,.c (.int .i64 ((i+1:Nat):Int))),(8,.ptr 26 0)]) (fob [(0,.tab tabs),(1,.row 37 1 ((L++[wlN l[i]]).map lsC)),(26,.box 56 (.c l[i].cv))]) 300→K fr ob nx:=by
  rintro fr ob nx hk1 hf;refine hK _ _ _ (bB hf ?_);clear hf hK K;refine aC fun K hK=>?_;refine R0 ?_;refine aM ?_;refine bN (α:={k:Nat//k≤l[i].c.toNat}) (fun k=>(fin [(0,.own 1 (L.length+1+(dT l i k.1).length)),(1,.c (.slc (l.map Nd.cv))),(2,.c (.int .i64 (eH l k.1 (i+1):Nat))),(48,.c (.int .i64 l[i].c)),(49,.c (.int .i64 k.1))],fob [(0,.tab tabs),(1,.row 37 1 ((L++wlN l[i]::dT l i k.1).map lsC))])) 2000 (fun k=>l[i].c.toNat-k.1) ⟨0,by omega⟩ (fG (by simp[nT,eH])) ?_;rintro⟨k,hk⟩;obtain⟨k1,k2,k3⟩:=iR ht hi k hk;have hkl:=wP ht hi hk hk1;refine R0 ?_;refine aC fun K hK=>?_;refine aF (b:=decide ((k:Int)<l[i].c)) rfl (fun hb=>?_) (fun hb=>?_)
  ·
   have hlt:k<l[i].c.toNat:=by simp at hb;omega
   have hkid:=mU ht hi hlt;clear hb;obtain⟨M,hM⟩: ∃M,M=L++wlN l[i]::dT l i k:=⟨_,rfl⟩;have hMl:L.length+1+(dT l i k).length=M.length:=by rw[hM];simp;omega
   rw[←hM,hMl];refine aJ ?_;refine T0 (hK _ _ _ ?_);clear hK K;refine aC fun K hK=>?_;refine aM ?_;refine Rg ?_;refine AU ?_;refine HS rfl rfl fun K' hK'=>T5 ?_;refine eG [0,1] (ih (l.length-eH l k (i+1)) (by omega) M (eH l k (i+1)) hkid (by omega) (by omega) (by omega)) rfl ⟨rfl,rfl,trivial⟩ (by simp) (by simp) ⟨rfl,rfl,rfl,rfl⟩ (by simp[dO]) (by simp) ?_;rintro r os' ⟨rfl,rfl⟩;rw[bF3,aY8];refine AX (hK' _ _ ?_);clear hK' K';refine AU ?_;refine T2 (hK _ _ _ ?_);clear hK K;refine aL (by kernel_rfl) ?_;refine TQ (A8 ((k:Int)+1) (by omega)) ?_;refine⟨⟨k+1,hlt⟩,?_,?_⟩
   ·
    have e1:M++fY l (eH l k (i+1))=L++wlN l[i]::dT l i (k+1):=by rw[hM,nU ht hi hlt];simp
    have e2:(M++fY l (eH l k (i+1))).length=L.length+1+(dT l i (k+1)).length:=by rw[e1];simp;omega
    simp only[];rw[←e1,←e2,iQ];exact fF
   show l[i].c.toNat-(k+1)<l[i].c.toNat-k;omega
  refine bG (T3 ?_);clear hK K;refine AX (hK _ _ _ ?_);clear hK K;have hke:k=l[i].c.toNat:=by simp at hb;omega
  subst hke;rw[tY ht hi]at hkl k3;clear hb;refine aC fun K hK=>aZ (by kernel_rfl) ?_;simp only[sR,simprocAttr];have F:=aI @fL @dB;refine SGF ?_;refine cU (g:=none) 2008 rfl rfl fun K' hK'=>?_;simp only[fI,iM,sH,↓sP,sA,tyS,simprocAttr,fL,dB];repeat refine AI ?_
  refine cK (by first|rfl|simp) ?_;try simp only[sH,↓sP,sA,tyS,simprocAttr,fL,dB]
  refine AX (hK' _ _ ?_);clear hK' K';iterate 5 refine SGF ?_
  refine T2 (hK _ _ _ ?_);clear hK K;refine aE (RT Tryz.results53 ?_);rw[pE ht hi hk1,tY ht hi];exact zZ (M:=L++wlN l[i]::(dT l i l[i].c.toNat++[[wEnd]])) rfl rfl (by simp) (by simp[lsC,wEnd])
 refine R0 ?_;refine aM ?_;refine R0 ?_;refine aF (b:=(l[i].k==1)) rfl (fun hb=>?_) (fun hb=>?_)
 ·
  have hk:l[i].k=1:=by simpa using hb
  obtain⟨⟨r1,r2⟩,r3,r4⟩:=aX6 (bK5 hnode hk);clear hb;refine aC fun K hK=>Rg ?_;have F:=aI @fL @dB;refine AU ?_;refine HS rfl rfl fun K' hK'=>T6 ?_;refine gM (args:=[_]) 0 (cF8 l[i].q ⟨by omega,by omega⟩ ⟨by omega,by omega⟩) rfl (by simp) ⟨rfl,rfl,rfl,rfl⟩ ?_;rintro u rfl;refine AX (hK' _ _ ?_);clear hK' K';refine AU ?_;refine T2 (hK _ _ _ ?_);clear hK K;refine aE (RT Tryz.results53 ?_);rw[rQ hi hk,zV ht hi hk];exact zZ (M:=L++[wlR l[i].q]) rfl rfl (by simp) (by simp)
 have hk1:l[i].k≠1:=by simpa using hb
 clear hb;refine R0 ?_;refine aF (b:=(l[i].k==2)) rfl (fun hb=>?_) (fun hb=>?_)
 ·
  have hk:l[i].k=2:=by simpa using hb
  have hwl:wlN l[i]=[fE]:=by simp[wlN,hk]
  clear hb;refine aZ (by kernel_rfl) ?_;simp only[sR,simprocAttr];refine SG0 ?_;refine cU (g:=none) 74 rfl rfl fun K' hK'=>?_;simp only[fI,iM,sH,↓sP,sA,tyS,simprocAttr];repeat refine AI ?_
  refine cK (by first|rfl|simp) ?_;try simp only[sH,↓sP,sA,tyS,simprocAttr]
  refine AX (hK' _ _ ?_);clear hK' K';iterate 3 refine SG0 ?_
  refine T4 ?_;exact key _ _ _ hk1 (by rw[hwl];exact fG (by simp[lsC,fE,fH,bT]))
 have hk2:l[i].k≠2:=by simpa using hb
 clear hb;refine R0 ?_;refine aF (b:=(l[i].k==3)) rfl (fun hb=>?_) (fun hb=>?_)
 ·
  have hk:l[i].k=3:=by simpa using hb
  have hwl:wlN l[i]=[fH]:=by simp[wlN,hk]
  clear hb;refine aZ (by kernel_rfl) ?_;simp only[sR,simprocAttr];refine SG0 ?_;refine cU (g:=none) 82 rfl rfl fun K' hK'=>?_;simp only[fI,iM,sH,↓sP,sA,tyS,simprocAttr];repeat refine AI ?_
  refine cK (by first|rfl|simp) ?_;try simp only[sH,↓sP,sA,tyS,simprocAttr]
  refine AX (hK' _ _ ?_);clear hK' K';iterate 3 refine SG0 ?_
  refine T4 ?_;exact key _ _ _ hk1 (by rw[hwl];exact fG (by simp[lsC,fE,fH,bT]))
 have hk3:l[i].k≠3:=by simpa using hb
 have hk4:=bK4 hnode hk1 hk2 hk3;clear hb;refine R0 ?_;refine aF (b:=(l[i].k==4)) rfl (fun hb=>?_) (fun hb=>?_)
 ·
  have hwl:wlN l[i]=[bT,numW l[i].n]:=by simp[wlN,hk2,hk3]
  have hnn:=bK6 hnode hk4;clear hb;refine aZ (by kernel_rfl) ?_;simp only[sR,simprocAttr];iterate 3 refine SG0 ?_
  refine bU (g:=none) rfl rfl fun K' hK'=>T5 ?_;refine gM (args:=[_]) 0 (zY l[i].n ⟨by omega,by omega⟩) rfl (by simp) ⟨rfl,rfl,rfl,rfl⟩ ?_;rintro u rfl;refine AX (hK' _ _ ?_);clear hK' K';refine cU (g:=none) 102 rfl rfl fun K' hK'=>?_;simp only[fI,iM,sH,↓sP,sA,tyS,simprocAttr];repeat refine AI ?_
  refine cK (by first|rfl|simp) ?_;try simp only[sH,↓sP,sA,tyS,simprocAttr]
  refine AX (hK' _ _ ?_);clear hK' K';iterate 3 refine SG0 ?_
  refine T4 ?_;exact key _ _ _ hk1 (by rw[hwl];exact fG (by simp[lsC,fE,fH,bT]))
 rw[hk4]at hb;cases hb
theorem vL (p:Po)(hp:PoSz p):cG Tryz.prog 31 [p.cv] (fun v=>v= .bool (fA p)):=by
 have hpn:=hp.n;have hpr:=hp.r;refine FW Tryz.func31 ?_;refine R0 ?_;refine aC fun K hK=>?_;refine aC fun K hK=>?_;have key: ∀(b:Bool) fr ob nx,b=wZ p→Fits 0 fr ob (fin [(1,.ptr 0 0),(21,.c (.bool b))]) (fob [(0,.box 29 (.c p.cv))]) 600→K fr ob nx:=by
  rintro b fr ob nx rfl hf;refine hK _ _ _ (bB hf ?_);clear hf hK K;refine aF (b:=wZ p) rfl (fun hb=>?_) (fun hb=>?_)
  · refine R0 ?_;refine aE (RT Tryz.results31 ?_);exact aK [] (.bool false) rfl (by rw[aH7 hb])
  refine aJ ?_;refine T0 (hK _ _ _ ?_);clear hK K;refine R0 ?_;refine aC fun K hK=>?_;refine AU ?_;refine aM ?_;have hhead:=hb;clear hb;refine bN (α:={i:Nat//RlSt p.r i}) (fun i=>(fin [(3,.mapr 600),(24,.c (.slc (p.r.map Pr.cv))),(25,.c (.int .i64 p.r.length)),(26,.c (.int .i64 i.1))],fob [(600,.mp 0 0 (nmD (p.r.take i.1)))])) 2000 (fun i=>p.r.length-i.1) ⟨0,RlSt.zero p.r⟩ (fG (by simp[nmD])) ?_;rintro⟨i,hΦ⟩;refine R0 ?_;refine aC fun K hK=>?_;refine aF (b:=decide ((i:Int)<p.r.length)) rfl (fun hb=>?_) (fun hb=>?_)
  ·
   have hlt:i<p.r.length:=by simpa using hb
   clear hb;obtain⟨r,hr⟩: ∃r,r=p.r[i]:=⟨_,rfl⟩;have hmem:r∈p.r:=by rw[hr];exact C0 hlt
   have hra:=hp.a r hmem;have hrt:=hp.t r hmem;have hra2:r.a.length≤maxLen:=by simp[maxLen];omega
   have hiv:oH (dA (nmD (p.r.take i)) r.a)=true:=by rw[bK8];split<;>rfl
   have hva:Go.Hl.aC6 (CV.bool false) (dA (nmD (p.r.take i)) r.a)=CV.bool (((p.r.take i).map Pr.a).contains r.a):=by rw[bK8];split<;>simp_all[Go.Hl.aC6]
   refine aJ ?_;refine T0 (hK _ _ _ ?_);clear hK K;refine aC fun K hK=>?_;refine aM ?_;refine RS ?_;iterate 4 refine S0 ?_ (e:=fun _ h_=>by simp only[sH,↓sP,sA,tyS,simprocAttr,A0,A4,hlt,aV hlt,←hr];exact AX h_)
   refine RE ?_;refine aC fun K hK=>?_;refine aC fun K hK=>?_;have key: ∀(b:Bool) fr ob nx,b=pJ (((p.r.take i).map Pr.a).contains r.a) r→Fits 0 fr ob (fin [(3,.mapr 600),(24,.c (.slc (p.r.map Pr.cv))),(25,.c (.int .i64 p.r.length)),(26,.c (.int .i64 i)),(5,.ptr 2012 0),(63,.c (.bool b))]) (fob [(600,.mp 0 0 (nmD (p.r.take i))),(2012,.box 48 (.c r.cv))]) 3000→K fr ob nx:=by
    rintro b fr ob nx rfl hf;refine hK _ _ _ (bB hf ?_);clear hf hK K;refine aF (b:=pJ (((p.r.take i).map Pr.a).contains r.a) r) rfl (fun hb=>?_) (fun hb=>?_)
    · refine R0 ?_;refine aE (RT Tryz.results31 ?_);exact aK [] (.bool false) rfl (by rw[aO2 (aO1 hlt (by rw[←aX7,←hr];exact hb))])
    have hΦ2:=hΦ.succ hlt (by rw[←aX7,←hr];exact hb);have hnm:lJ (nmD (p.r.take i)) r.a (.val (.bool true))=nmD (p.r.take (i+1)):=by rw[B3 hlt,cE0,hr]
    clear hb;refine aJ ?_;refine T0 (hK _ _ _ ?_);clear hK K;refine Rg ?_;have F:=aI hra2 (aI hiv hnm);refine AU ?_;refine T2 (hK _ _ _ ?_);clear hK K;refine aL (by kernel_rfl) ?_;refine TQ (A8 ((i:Int)+1) (by omega)) ?_;refine⟨⟨i+1,hΦ2⟩,fF,?_⟩;show p.r.length-(i+1)<p.r.length-i;omega
   refine Rg ?_;have F:=aI hra2 (aI hiv hva);refine AU ?_;refine aG 33 rfl (fun h7_33=>?_) (fun h7_33=>?_)
   · have F:=aI hra2 (aI hiv (aI hva h7_33));refine AU ?_;refine T4 ?_;exact key true _ _ _ (by simp only[pJ,h7_33,D8,D7,B4,A9]) (fF)
   have F:=aI hra2 (aI hiv (aI hva h7_33));refine AU ?_;refine SCF (aL5 r.a (by omega)) ?_;refine AU ?_;refine aG 37 rfl (fun h7_37=>?_) (fun h7_37=>?_)
   ·
    have F:=aI hra2 (aI hiv (aI hva (aI h7_33 h7_37)));refine AU ?_;refine SCF (bJ4 r.b) ?_;refine AU ?_;refine aG 43 rfl (fun h7_43=>?_) (fun h7_43=>?_)
    ·
     have F:=aI hra2 (aI hiv (aI hva (aI h7_33 (aI h7_37 h7_43))));refine AU ?_;refine SCF (bJ4 r.c) ?_;refine AU ?_;refine aG 49 rfl (fun h7_49=>?_) (fun h7_49=>?_)
     ·
      have F:=aI hra2 (aI hiv (aI hva (aI h7_33 (aI h7_37 (aI h7_43 h7_49)))));refine AU ?_;refine SCF (jO _ _ _) ?_;refine AU ?_;refine aG 55 rfl (fun h7_55=>?_) (fun h7_55=>?_)
      ·
       have F:=aI hra2 (aI hiv (aI hva (aI h7_33 (aI h7_37 (aI h7_43 (aI h7_49 h7_55))))));refine AU ?_;refine SCF (xI r.t hrt) ?_;refine AU ?_;refine aG 61 rfl (fun h7_61=>?_) (fun h7_61=>?_)
       · simp only[h7_61];refine T4 ?_;exact key false _ _ _ (by simp only[pJ,h7_33,h7_37,h7_43,h7_49,h7_55,h7_61,D8,D7,B4,A9]) (fF)
       simp only[h7_61];refine T4 ?_;exact key true _ _ _ (by simp only[pJ,h7_33,h7_37,h7_43,h7_49,h7_55,h7_61,D8,D7,B4,A9]) (fF)
      have F:=aI hra2 (aI hiv (aI hva (aI h7_33 (aI h7_37 (aI h7_43 (aI h7_49 h7_55))))));refine AU ?_;refine T4 ?_;exact key true _ _ _ (by simp only[pJ,h7_33,h7_37,h7_43,h7_49,h7_55,D8,D7,B4,A9]) (fF)
     have F:=aI hra2 (aI hiv (aI hva (aI h7_33 (aI h7_37 (aI h7_43 h7_49)))));refine AU ?_;refine T4 ?_;exact key true _ _ _ (by simp only[pJ,h7_33,h7_37,h7_43,h7_49,D8,D7,B4,A9]) (fF)
    have F:=aI hra2 (aI hiv (aI hva (aI h7_33 (aI h7_37 h7_43))));refine AU ?_;refine T4 ?_;exact key true _ _ _ (by simp only[pJ,h7_33,h7_37,h7_43,D8,D7,B4,A9]) (fF)
   have F:=aI hra2 (aI hiv (aI hva (aI h7_33 h7_37)));refine AU ?_;refine T4 ?_;exact key true _ _ _ (by simp only[pJ,h7_33,h7_37,D8,D7,B4,A9]) (fF)
  refine bG (T3 ?_);clear hK K;refine AX (hK _ _ _ ?_);clear hK K;refine R0 ?_;refine aE (RT Tryz.results31 ?_);have hie:i=p.r.length:=by have:=hΦ.le;simp at hb;omega
  subst hie;exact aK [] (.bool true) rfl (by rw[aX8 hhead hΦ])
 refine Rg ?_;refine AU ?_;refine SC (aL5 p.n (by omega)) ?_;refine AU ?_;refine aG 8 rfl (fun h1_8=>?_) (fun h1_8=>?_)
 ·
  have F:=h1_8;refine AU ?_;refine SCF (jO _ _ _) ?_;refine AU ?_;refine aG 13 rfl (fun h1_13=>?_) (fun h1_13=>?_)
  ·
   have F:=aI h1_8 h1_13;refine AU ?_;refine aG 20 rfl (fun h1_20=>?_) (fun h1_20=>?_)
   · simp only[h1_20];refine T4 ?_;exact key true _ _ _ (by simp only[wZ,h1_8,h1_13,h1_20,D8,D7,B4,A9]) (fF)
   simp only[h1_20];refine T4 ?_;exact key false _ _ _ (by simp only[wZ,h1_8,h1_13,h1_20,D8,D7,B4,A9]) (fF)
  have F:=aI h1_8 h1_13;refine AU ?_;refine T4 ?_;exact key true _ _ _ (by simp only[wZ,h1_8,h1_13,D8,D7,B4,A9]) (fF)
 have F:=h1_8;refine AU ?_;refine T4 ?_;exact key true _ _ _ (by simp only[wZ,h1_8,D8,D7,B4,A9]) (fF)
theorem cG0 (ls:List (List aH))(h0:ls.length<2^40)(h1: ∀l∈ls,l.length<2^40):gB Tryz.prog 54 [.slc (ls.map lsC)] (fun u v=>u= .slc ((lK ls).map dG)∧v= .int .i64 (gL ls)):=cS8 ls h0 h1
theorem bF4 (N n:Nat)(ob:Ob)(e:TypeId)(sz:Nat)(T:mH)(L:List CV):jG (sub [0,N] n) ob 0 [.tab T,.row e sz L]=upd (upd ob 0 (some (.tab T))) N (some (.row e sz L)):=rfl
theorem bL4 (p:Po)(hp:PoSz p):bH9 Tryz.prog 25 tabs [p.cv] (fun u v=>u= .slc ((mI p).map dG)∧v= .int .i64 (qU p)):=by
 refine cA (args:=[.c p.cv]) Tryz.func25 rfl (by kernel_rfl) (gT tabs [p.cv]) (C4 rfl) ?_;unfold fX;refine R0 ?_;refine aC fun K hK=>?_;refine AU ?_;refine SC (vL p hp) ?_;refine AU ?_;refine aF (b:=!fA p) rfl (fun hb=>?_) (fun hb=>?_)
 ·
  refine R0 ?_;refine aE (RT Tryz.results25 ?_);have hv:fA p=false:=by simpa using hb
  refine wH [] (.slc []) (.int .i64 1) ?_ rfl (by simp) ⟨by rw[mI,hv];rfl,by rw[qU,hv];rfl⟩;simp
 refine aJ ?_;refine T0 (hK _ _ _ ?_);clear hK K;have hv:fA p=true:=by simpa using hb
 clear hb;obtain⟨⟨v1,v2⟩,hr16,_,hrules⟩:=qL hv;refine aC fun K hK=>cP mixed [(0,[],[]),(1,[],[]),(2,[],[]),(3,[],[]),(4,[],[0,1]),(5,[],[]),(6,[],[]),(7,[],[])] [0,1,0,4,12,31,63,127] (by kernel_rfl) (by kernel_rfl) (by kernel_rfl) (by kernel_rfl) rfl (by kernel_rfl) ?_;iterate 4 refine WG0 ?_
 refine bR (g:=none) rfl rfl fun K' hK'=>T5 ?_;refine gM (args:=[_]) 0 (zY p.v ⟨by omega,by omega⟩) rfl (by simp) ⟨rfl,rfl,rfl,rfl⟩ ?_;rintro u rfl;refine AX (hK' _ _ ?_);clear hK' K';refine eS (g:=none) 45 rfl rfl fun K' hK'=>?_;simp only[fI,iM,sH,↓sP,sA,tyS,simprocAttr];repeat refine AI ?_
 refine cK (by first|rfl|simp) ?_;try simp only[sH,↓sP,sA,tyS,simprocAttr]
 refine AX (hK' _ _ ?_);clear hK' K';iterate 2 refine WG0 ?_
 refine T2 (hK _ _ _ ?_);clear hK K;refine aC fun K hK=>?_;refine AU ?_;refine aM ?_;refine bN (α:={i:Nat//i≤p.r.length}) (fun i=>(fin [(4,.own 49 (mJ p i.1).length),(18,.c (.slc (p.r.map Pr.cv))),(19,.c (.int .i64 p.r.length)),(20,.c (.int .i64 i.1))],fob [(0,.tab tabs),(49,.row 37 1 ((mJ p i.1).map lsC))])) 2000 (fun i=>p.r.length-i.1) ⟨0,by omega⟩ (fG (by simp[mJ,lsC,wPolicy])) ?_;rintro⟨i,hi⟩;have hll:=zX hrules i hi;have hl0:0<(mJ p i).length:=by simp[mJ]
 refine R0 ?_;refine aC fun K hK=>?_;refine aF (b:=decide ((i:Int)<p.r.length)) rfl (fun hb=>?_) (fun hb=>?_)
 ·
  have hlt:i<p.r.length:=by simpa using hb
  clear hb;obtain⟨r,hr⟩: ∃r,r=p.r[i]:=⟨_,rfl⟩;have hrule:=hrules r (by rw[hr];exact C0 hlt);obtain⟨⟨g1,g2⟩,ht,_⟩:=jC hrule;have ht0:0<r.t.length:=ht.ne;have htl:=ht.len;obtain⟨L,hL⟩: ∃L,L=mJ p i:=⟨_,rfl⟩;rw[←hL]at hll hl0⊢;refine aJ ?_;refine T0 (hK _ _ _ ?_);clear hK K;refine aC fun K hK=>?_;refine aM ?_;refine RS ?_;iterate 4 refine S0 ?_ (e:=fun _ h_=>by simp only[sH,↓sP,sA,tyS,simprocAttr,A0,A4,hlt,aV hlt,←hr];exact AX h_)
  refine RE ?_;refine aC fun K hK=>cP mixed [(0,[],[]),(1,[],[]),(2,[],[]),(3,[],[]),(4,[],[]),(5,[],[]),(6,[],[]),(7,[],[]),(8,[],[]),(9,[],[0,1,2,3,4,5,6]),(10,[],[]),(11,[],[]),(12,[],[]),(13,[],[])] [0,0,2,0,8,0,32,0,128,384,1022,2046,4095,8191] (by kernel_rfl) (by kernel_rfl) (by kernel_rfl) (by kernel_rfl) rfl (by kernel_rfl) ?_;iterate 9 refine WG0 ?_
  refine bR (g:=none) rfl rfl fun K' hK'=>T5 ?_;refine gM (args:=[_]) 0 (zY r.g ⟨by omega,by omega⟩) rfl (by simp) ⟨rfl,rfl,rfl,rfl⟩ ?_;rintro u rfl;refine AX (hK' _ _ ?_);clear hK' K';refine eS (g:=none) 2060 rfl rfl fun K' hK'=>?_;simp only[fI,iM,sH,↓sP,sA,tyS,simprocAttr];repeat refine AI ?_
  refine cK (by first|rfl|simp) ?_;try simp only[sH,↓sP,sA,tyS,simprocAttr]
  refine AX (hK' _ _ ?_);clear hK' K';iterate 3 refine WG0 ?_
  refine T2 (hK _ _ _ ?_);clear hK K;obtain⟨M,hM⟩: ∃M,M=L++[[wRule,r.a,r.b,r.c,numW r.g]]:=⟨_,rfl⟩;have hMm:List.map lsC L++[CV.slc [CV.str [114,117,108,101],CV.str r.a,CV.str r.b,CV.str r.c,CV.str (numW r.g)]]=List.map lsC M:=by rw[hM];simp[lsC,wRule]
  have hMl:L.length+1=M.length:=by rw[hM];simp
  rw[hMm];simp only[A2];refine Rg ?_;refine AU ?_;refine HS rfl rfl fun K' hK'=>T5 ?_;refine eG [0,49] (cF9 r.t ht r.t.length M 0 ht0 (by omega) (by rw[hM];simp) (by rw[hM];simp;omega)) rfl ⟨rfl,rfl,trivial⟩ (by simp) (by simp) ⟨rfl,rfl,rfl,rfl⟩ (by simp[dO]) (by simp) ?_;rintro q os' ⟨rfl,rfl⟩;rw[bF4,aI4];refine AX (hK' _ _ ?_);clear hK' K';refine AU ?_;refine T2 (hK _ _ _ ?_);clear hK K;refine aL (by kernel_rfl) ?_;refine TQ (A8 ((i:Int)+1) (by omega)) ?_;refine⟨⟨i+1,hlt⟩,?_,?_⟩
  ·
   have e1:M++fY r.t 0=mJ p (i+1):=by rw[vK hlt,hM,hL,sC,←hr];simp[jB]
   rw[e1];exact fF
  show p.r.length-(i+1)<p.r.length-i;omega
 refine bG (T3 ?_);clear hK K;refine AX (hK _ _ _ ?_);clear hK K;have hei:i=p.r.length:=by simp at hb;omega
 subst hei;clear hb;rw[uA];refine cM [49] (bB (fr2:=fin [(4,.c (.slc ((jM p).map lsC)))]) (ob2:=fob [(0,.tab tabs)]) (nx2:=3000) (aP (by omega) (by simp[aR]) (by simp)) ?_);rw[uA]at hll;refine aC fun K hK=>Rg ?_;have F:=@aR;refine SF ?_;refine HS rfl rfl fun K' hK'=>T6 ?_;refine D1 (cG0 (jM p) (by omega) (bL2 p)) ?_;rintro u v ⟨rfl,rfl⟩;refine AX (hK' _ _ ?_);clear hK' K';refine AU ?_;refine T2 (hK _ _ _ ?_);clear hK K;refine aE (RT Tryz.results25 ?_);exact wH [] (.slc ((lK (jM p)).map dG)) (.int .i64 (gL (jM p))) (by simp[dE]) rfl (by simp) ⟨by rw[mI,B6 hv],by rw[qU,B6 hv]⟩
end Go.Proofs.YtlgckianjabghaaGreatDoor
namespace Go.Hl
open Go
def bL5 (P:Program)(f:FuncId)(T:mH)(args:List CV)(R:CV→CV→CV→Prop):Prop:=
 HFn P f (args.map .c) 1 (fX T) (fun r ob'=> ∃u v x,r= .tup [.c u,.c v,.c x]∧ob'=fX T∧R u v x)
variable {R:CV→CV→CV→Prop}{T:mH}{ob:Ob}
theorem kC {r:HV}(cl:List Nat)(u v x:CV)(h:(r.close ob cl).norm= .tup [.c u,.c v,.c x])(hb:ob 0=some (.tab T))(h0:0∉cl)(hR:R u v x):
  lC 1 r ob (fun r ob'=> ∃u v x,r= .tup [.c u,.c v,.c x]∧ob'=fX T∧R u v x):=
 ⟨cl,id,.tup [.c u,.c v,.c x],fX T,⟨u,v,x,rfl,rfl,hR⟩,by grind[HV.ren,HV.renL],fun _ _=>rfl,fun _ _ _ _ h=>h,by simp[HV.men,HV.menL],bC2 hb h0⟩
theorem wQ {P:Program}{av:List Nat}{f:FuncId}{nid:Nat}{K:HV→Ob→Prop}{args:List CV}(id:Nat)(h:bL5 P f T args R)(hid:ob id=some (.tab T))(hav:id∉av)
  (hfree:ob nid=none∧ob (nid+1)=none∧ob (nid+2)=none∧ob (nid+3)=none) (hK: ∀u v x,R u v x→K (.tup [.c u,.c v,.c x]) ob):HCall P av f (args.map .c) ob nid K:=by
 refine⟨[id],args.map .c,_,_,h,gT T args,⟨by simp,by grind⟩,(HV.renL_c _ _).symm,uW hid,fun r lob' hR _=>?_⟩;obtain⟨u,v,x,rfl,rfl,hR⟩:=hR;rw[oT hid hfree];exact hK u v x hR
end Go.Hl
