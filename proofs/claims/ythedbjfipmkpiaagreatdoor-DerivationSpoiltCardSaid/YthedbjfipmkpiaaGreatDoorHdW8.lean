/- Part of a proof: walks of functions of the program, by contracts, and the rules they use. By an AI agent. -/
import Derived.Test.YthedbjfipmkpiaaGreatDoorHdZ6
set_option maxRecDepth 10000
set_option maxHeartbeats 16000000
set_option linter.unusedSimpArgs false
set_option linter.unusedVariables false
set_option linter.defProp false
namespace Go.Proofs.YthedbjfipmkpiaaGreatDoor
open Go Go.Hl Go.Pl
variable {ob:Ob}
theorem cZ2 {ls:List (List aK)}{r:HV}(J:jZ ls=dU ls)(U:r= .tup [.own 28 (dU ls).length,.c (.int .i64 0)])(h0:ob 28=some (.row 5 1 ((dU ls).map cM))):
  gR 0 r ob (fun r ob'=> ∃I,ob'=lst I∧(0≤I.length∧I.length≤0+4)∧(r= .tup [.own 0 (jZ ls).length,.c (.int .i64 0)]∧I=[.row 5 1 ((jZ ls).map cM)])):=by
 subst U;rw[J];refine eM [] [28] (.tup [.own 0 (dU ls).length,.c (.int .i64 0)]) [.row 5 1 ((dU ls).map cM)] ?_ (by simp) ⟨⟨by simp,by simp,_,(by simpa[tau]using h0),rfl⟩,trivial⟩ rfl (by simp) (by simp) (by simp) ⟨rfl,rfl⟩;first|rfl|simp[tau]
theorem cP7 (ls:List (List aK))(h0:ls.length<2^40)(h1: ∀l∈ls,l.length<2^40)(hz:jN ls=0):HGe Tryz.prog 35 [.c (.slc (ls.map lsC))] [] (fun r ba=>r= .tup [.own 0 (jZ ls).length,.c (.int .i64 0)]∧ba=[.row 5 1 ((jZ ls).map cM)]):=by
 refine bO (args:=[.c (.slc (ls.map lsC))]) Tryz.func35 rfl (by kernel_rfl) (dQ rfl (by simp[cV]) (by simp)) (C7 rfl) ?_;show Hw _ _ 0 _ _ _ (lst _) 0;rw[cP5];refine R0 ?_;refine aC fun K J=>?_;refine R0 ?_;refine aJ (b:=decide ((1000:Int)<ls.length)) rfl (fun I=>?_) (fun I=>?_)
 · refine R0 ?_;refine aE (RT Tryz.results35 ?_);have hE:=nY (ls:=ls) (by simp at I;omega);exact absurd (hz.symm.trans hE) (by decide)
 refine aG ?_;refine T0 (J _ _ _ ?_);clear J K;have hn:ls.length≤1000:=by simp at I;omega
 clear I;refine R0 ?_;refine aC fun K J=>?_;refine R0 ?_;refine aL ?_;refine eH 4 0 5 1 rfl rfl rfl rfl ?_;refine bB (α:={i:Nat//i≤ls.length∧ ∀x∈ls.take i,okL x=true}) (fun i=>(fin [(0,.c (.slc (ls.map lsC))),(4,.own 28 (dU (ls.take i.1)).length),(5,.c (.int .i64 i.1))],fob [(28,.row 5 1 ((dU (ls.take i.1)).map cM))])) 100 (fun i=>ls.length-i.1) ⟨0,by omega,by simp⟩ (fF) ?_;rintro⟨i,hi,hk⟩;refine aC fun K J=>?_;refine AU ?_;refine aJ (b:=decide ((i:Int)<ls.length)) rfl (fun I=>?_) (fun I=>?_)
 ·
  have aa:i<ls.length:=by simpa using I
  clear I;have ax:=h1 ls[i] (B5 aa);have ay: ∀l∈ls.take i,l≠[]:=fun l hl=>((eG l).1 (hk l hl)).1;have bc:=zN hk;rw[E1]at bc;have bd:=kX ay;have ai:=rE aa;obtain⟨l,hl⟩: ∃l,l=ls[i]:=⟨_,rfl⟩;have ad:nth (ls.map lsC) i= .slc (l.map .str):=by rw[aW aa,hl];rfl
  rw[←hl]at ai ax;have aq:(i:Int)<ls.length:=by omega
  refine aG ?_;refine T0 (J _ _ _ ?_);clear J K;refine aC fun K J=>?_;refine aL ?_;refine aC fun K J=>?_;refine RS ?_;have F:=aI @A1 (aI @A4 (aI aa ad));refine AU ?_;refine aJ (b:=(l.length:Int)==0) rfl (fun I=>?_) (fun I=>?_)
  ·
   refine R0 ?_;refine aE (RT Tryz.results35 ?_);have hc:gZ l=1:=by rw[gZ,B1 (by simp at I;simp[I])]
   have hE:=fY hn aa hk (by rw[←hl,okL,hc];rfl);rw[←hl,hc]at hE;exact absurd (hz.symm.trans hE) (by decide)
  refine aG ?_;refine T0 (J _ _ _ ?_);clear J K;refine aC fun K J=>?_;have an:l.length≠0:=by simp at I;simp[I]
  clear I;refine AU ?_;refine aJ (b:=decide ((120:Int)<l.length)) rfl (fun I=>?_) (fun I=>?_)
  ·
   refine R0 ?_;refine aE (RT Tryz.results35 ?_);have hc:gZ l=3:=by rw[gZ,A7 an,B1 (by simp at I;omega)]
   have hE:=fY hn aa hk (by rw[←hl,okL,hc];rfl);rw[←hl,hc]at hE;exact absurd (hz.symm.trans hE) (by decide)
  refine aG ?_;refine T0 (J _ _ _ ?_);clear J K;refine aC fun K J=>?_;have az:l.length≤120:=by simp at I;omega
  clear I;refine R0 ?_;refine aL ?_;refine bB (α:={k:Nat//k≤l.length∧ ∀x∈l.take k,x.length≤32768}) (fun k=>(fin [(0,.c (.slc (ls.map lsC))),(4,.own 28 (dU (ls.take i)++fR (l.take k.1)).length),(5,.c (.int .i64 i)),(6,.c (.int .i64 k.1))],fob [(28,.row 5 1 ((dU (ls.take i)++fR (l.take k.1)).map cM))])) 200 (fun k=>l.length-k.1) ⟨0,by omega,by simp⟩ (fF) ?_;rintro⟨k,bj,aj⟩;have bb:=uV (l.take k) aj;rw[E1]at bb;refine aC fun K J=>?_;refine RS ?_;have F:=aI @A1 (aI aq ad);refine AU ?_;refine aJ (b:=decide ((k:Int)<l.length)) rfl (fun I=>?_) (fun I=>?_)
  ·
   have U:k<l.length:=by simpa using I
   clear I;refine aG ?_;refine T0 (J _ _ _ ?_);clear J K;refine aC fun K J=>?_;refine aL ?_;refine aC fun K J=>?_;refine RS ?_;have F:=aI @A1 (aI @A4 (aI aa (aI ad (aI U (nM U)))));refine AU ?_;refine aJ (b:=decide ((32768:Int)<l[k].length)) rfl (fun I=>?_) (fun I=>?_)
   ·
    refine R0 ?_;refine aE (RT Tryz.results35 ?_);have hc:gZ l=3:=by rw[gZ,A7 an,A7 (by omega),B1];simp only[R4,C4];exact⟨_,B5 U,by simp at I;omega⟩
    have hE:=fY hn aa hk (by rw[←hl,okL,hc];rfl);rw[←hl,hc]at hE;exact absurd (hz.symm.trans hE) (by decide)
   refine aG ?_;refine T0 (J _ _ _ ?_);clear J K;refine aC fun K J=>?_;have ar:l[k].length≤32768:=by simp at I;omega
   clear I;have bh:=mA l[k];have bg:=dA l[k];have bf:=nW l[k];have ae:0<(gY l[k]).length:=by omega
   have ak:=nX U;have af:(dU (ls.take i)).length+(fR (l.take k)).length+(gY l[k]).length≤140737488355328:=by omega
   have ab:(dU (ls.take i)).length+(fR (l.take k)).length+1+(gY l[k]).length≤140737488355328:=by omega
   refine R0 ?_;refine aJ (b:=decide ((0:Int)<k)) rfl (fun I=>?_) (fun I=>?_)
   ·
    refine Rg ?_;have F:=aI @A3.{0} @A0.{0,0};refine AU ?_;refine T2 (J _ _ _ ?_);clear J K;refine Rg ?_;iterate 8 refine S0 ?_ (e:=fun _ h_=>by simp only[sH,↓sP,sA,tyS,simprocAttr,A1,A4,aa,ad,U,aW U,A3,A0,ae,af,ab];exact AX h_)
    refine HS rfl rfl fun K' ah=>?_;simp only[sH,↓sP,sA,tyS,simprocAttr,A1,A4,aa,ad,U,aW U,A3,A0,ae,af,ab];refine C1 (lB l[k] (by omega)) ?_;rintro u rfl;refine AX (ah _ _ ?_);clear ah K';iterate 2 refine S0 ?_ (e:=fun _ h_=>by simp only[sH,↓sP,sA,tyS,simprocAttr,A1,A4,aa,ad,U,aW U,A3,A0,ae,af,ab];exact AX h_)
    refine T2 (J _ _ _ ?_);clear J K;refine aM (by kernel_rfl) ?_;refine TQ (cW k) ?_;have ag:k≠0:=by simp at I;omega
    refine⟨⟨k+1,U,fJ (p:=fun x=>x.length≤32768) U ar aj⟩,bA (by omega) ?_ ?_,?_⟩
    · rw[ak,A7 ag];simp;omega
    · rw[ak,A7 ag];simp only[C5,←List.append_assoc];exact⟨rfl,by omega,trivial,trivial⟩
    show l.length-(k+1)<l.length-k;omega
   refine aG ?_;refine T0 (J _ _ _ ?_);clear J K;refine Rg ?_;iterate 8 refine S0 ?_ (e:=fun _ h_=>by simp only[sH,↓sP,sA,tyS,simprocAttr,A1,A4,aa,ad,U,aW U,A3,A0,ae,af,ab];exact AX h_)
   refine HS rfl rfl fun K' ah=>?_;simp only[sH,↓sP,sA,tyS,simprocAttr,A1,A4,aa,ad,U,aW U,A3,A0,ae,af,ab];refine C1 (lB l[k] (by omega)) ?_;rintro u rfl;refine AX (ah _ _ ?_);clear ah K';iterate 2 refine S0 ?_ (e:=fun _ h_=>by simp only[sH,↓sP,sA,tyS,simprocAttr,A1,A4,aa,ad,U,aW U,A3,A0,ae,af,ab];exact AX h_)
   refine T2 (J _ _ _ ?_);clear J K;refine aM (by kernel_rfl) ?_;refine TQ (cW k) ?_;have ag:k=0:=by simp at I;omega
   refine⟨⟨k+1,U,fJ (p:=fun x=>x.length≤32768) U ar aj⟩,bA (by omega) ?_ ?_,?_⟩
   · rw[ak,B1 ag];simp;omega
   · rw[ak,B1 ag,J1];simp only[C5,←List.append_assoc];exact⟨rfl,by omega,trivial,trivial⟩
   show l.length-(k+1)<l.length-k;omega
  have au:k=l.length:=by simp at I;omega
  subst au;clear I;rw[C6]at*;have ao:okL l=true:=(eG l).2 ⟨fun h=>an (by rw[h];rfl),az,aj⟩;refine aV (T3 ?_);clear J K;refine AX (J _ _ _ ?_);clear J K;refine Rg ?_;have F:=aI @A3.{0} (aI @A0.{0,0} @C6.{0});refine AU ?_;refine T2 (J _ _ _ ?_);clear J K;refine aM (by kernel_rfl) ?_;refine TQ (cW i) ?_;refine⟨⟨i+1,aa,fJ (p:=fun x=>okL x=true) aa (by rw[←hl];exact ao) hk⟩,bA (by omega) ?_ ?_,?_⟩
  · rw[ai,rX];simp;try omega
  · rw[ai,rX];simp only[C5,←List.append_assoc,C6];exact⟨rfl,by omega,trivial,trivial⟩
  show ls.length-(i+1)<ls.length-i;omega
 have aw:i=ls.length:=by simp at I;omega
 subst aw;clear I;rw[C6]at hk;have hE:=oY hn hk;refine aV (T3 ?_);clear J K;refine AX (J _ _ _ ?_);clear J K;refine aC fun K J=>?_;have F:=aI @C6.{0} @A0.{0,0};refine RF ?_;refine aJ (b:=decide ((262144:Int)<(dU ls).length)) rfl (fun I=>?_) (fun I=>?_)
 · refine R0 ?_;refine aE (RT Tryz.results35 ?_);rw[B1 (by simp at I;omega)]at hE;exact absurd (hz.symm.trans hE) (by decide)
 refine aG ?_;refine T0 (J _ _ _ ?_);clear J K;refine R0 ?_;refine aE (RT Tryz.results35 ?_);rw[A7 (by simp at I;omega)]at hE;exact cZ2 (uW hE) rfl rfl
def ShN (T:List Nd):Prop:= ∀n∈T,n.q.t.length<2^63
variable {T:List Nd}
theorem ShN.set (h:ShN T)(i:Nat){x:Nd}(hx:x.q.t.length<2^63):ShN (T.set i x):=fun n hn=>by
 rcases M8 hn with I|rfl
 · exact h n I
 exact hx
theorem cP8 (n:Nat):HV.ren (sub [] n) (.ptr 0 0)= .ptr n 0:=by simp[HV.ren,sub]
theorem cB2 (n:Nat)(ob:Ob)(t:TypeId)(v:CV):iL (sub [] n) ob 0 [.box t (.c v)]=upd ob n (some (.box t (.c v))):=by simp[iL,sub,HO.ren,HV.ren]
def aB :Nat→Nat
 |0=>4
 |d+1=>8+3*aB d
theorem bF5 : ∀d,d≤3→aB d≤400:=by decide
theorem dC0 : ∀d,d≤3→4≤aB d:=by decide
variable {d:Nat}
theorem dH1 {n:Nat}(I:d≤3){p:Nat×Nat}(h:p∈pos d n):p.1≤60:=by
 rcases H4 n 9 with hn|hn
 ·
  have key: ∀d,d<4→ ∀n,n<9→ ∀p∈pos d n,p.1≤60:=by decide+kernel
  exact key d (by omega) n hn p h
 cases d with
 |zero=>simp[pos]at h;subst h;simp
 |succ d=>
  rw[pos,rR,A7 (by omega)]at h;simp at h;subst h;simp
theorem bF6 {n:Nat}{t:List Nd}(h:Made d n t)(I:d≤3):t.length≤60:=dH1 I h.pos
variable {X:List CV}{L:List Int}
theorem bF7 {a m J:Nat}{t:List Nd}(U:ob 0=some (.box 76 (.c (tp L J))))(h1:ob 1=some (.row 89 7 X))(hm:m=(T++t).length)(hX:X=(T++t).map Nd.cv)(hM:Made d T.length t)(ha:J≤a+aB d):
  gR 2 (.own 1 m) ob (fun r ob'=> ∃I,ob'=lst I∧(2≤I.length∧I.length≤2+4)∧ ∃(t:List Nd) (J:Nat),r= .own 1 (T++t).length∧I=[.box 76 (.c (tp L J)),.row 89 7 ((T++t).map Nd.cv)]∧Made d T.length t∧J≤a+aB d):=by
 subst hm hX;exact eM [] [] (.own 1 (T++t).length) [.box 76 (.c (tp L J)),.row 89 7 ((T++t).map Nd.cv)] rfl (by simp) ⟨⟨by simp,by simp,_,U,by simp[nU,tp,denilL_int]⟩,⟨by simp,by simp,_,h1,rfl⟩,trivial⟩ rfl N3 (by simp) (by simp) ⟨t,J,rfl,rfl,hM,ha⟩
theorem cP9 (n:Nat)(ob:Ob)(e:TypeId)(sz:Nat)(v:CV)(L:List CV)(t:TypeId):iL (sub [0,1] n) ob 0 [.box t (.c v),.row e sz L]=upd (upd ob 0 (some (.box t (.c v)))) 1 (some (.row e sz L)):=rfl
theorem cZ3 (n m:Nat):HV.ren (sub [0,1] n) (.own 1 m)= .own 1 m:=rfl
theorem dL9 (L:List Int)(a:Nat)(T:List Nd):lst [.box 76 (.c (tp L a)),.row 89 7 (T.map Nd.cv)]=fob [(0,.box 76 (.c (tp L a))),(1,.row 89 7 (T.map Nd.cv))]:=by
 funext i
 match i with
 |0=>rfl
 |1=>rfl
 |i+2=>simp[lst,fob,upd]
abbrev dO5 (L:List Int)(a d:Nat)(T:List Nd)(r:HV)(os':List HO):Prop:=
 ∃(t:List Nd) (a':Nat),r= .own 1 (T++t).length∧os'=[.box 76 (.c (tp L a')),.row 89 7 ((T++t).map Nd.cv)]∧Made d T.length t∧a'≤a+aB d
theorem dH2 (d:Nat): ∀(L:List Int) (a:Nat) (T:List Nd),d≤3→a+aB d<2^38→0<T.length→T.length<2^38→
  HGe Tryz.prog 36 [.ptr 0 0,.own 1 T.length,.c (.int .i64 d)] [.box 76 (.c (tp L a)),.row 89 7 (T.map Nd.cv)] (dO5 L a d T):=by
 induction d using Nat.strongRecOn with
 |ind d ih=>?_
 intro L a T hd ha bo bn;refine bO (args:=[.ptr 0 0,.own 1 T.length,.c (.int .i64 d)]) Tryz.func36 rfl (by kernel_rfl) (dQ rfl (by simp[cV]) (by simp)) (C7 rfl) ?_;show Hw _ _ 2 _ _ _ (lst _) 2;rw[dL9];have bl:=bF5 d hd;have ak: ∀x:Int,0≤x→x<100→IntKind.i64.wrap (1+x)=1+x:=fun x h1 h2=>B0 _ (by omega);have aw: ∀x:Int,0≤x→x<100→IntKind.i64.wrap (2+x)=2+x:=fun x h1 h2=>B0 _ (by omega);refine R0 ?_;refine aC fun K U=>?_;refine aC fun K U=>?_;have key: ∀(b:Bool) (a1:Nat) fr ob nx,(b=false→0<d∧T.length≤8)→a1≤a+1→Fits 2 fr ob (fin [(0,.ptr 0 0),(1,.own 1 T.length),(2,.c (.int .i64 d)),(20,.c (.bool b))]) (fob [(0,.box 76 (.c (tp L a1))),(1,.row 89 7 (T.map Nd.cv))]) 200→K fr ob nx:=by
  rintro b a1 fr ob nx ae bk hf;refine U _ _ _ (aZ hf ?_);clear hf U K;refine aJ (b:=b) rfl (fun hb=>?_) (fun hb=>?_)
  · clear ae;refine aC fun K U=>Rg ?_;refine AU ?_;refine HS rfl rfl fun K' I=>T5 ?_;refine bP (args:=[]) (bS9 L a1 (by omega)) rfl (by simp) ⟨rfl,rfl,rfl,rfl⟩ ?_;rintro u v' ⟨q,a2,rfl,rfl,s1,s2⟩;refine AX (I _ _ ?_);clear I K';refine AU ?_;refine T2 (U _ _ _ ?_);clear U K;refine aE (RT Tryz.results36 ?_);have:=dC0 d hd;exact bF7 (t:=[⟨1,0,0,q⟩]) rfl rfl (by simp) (by simp) (aO9 s2) (by omega)
  obtain⟨bj,aq⟩:=ae hb;clear ae hb;refine aG ?_;refine T0 (U _ _ _ ?_);clear U K;refine aC fun K U=>Rg ?_;refine S0 ?_;refine HS rfl rfl fun K' I=>T5 ?_;refine bP (args:=[_]) (dS L a1 3 (by omega) (by omega)) rfl (by simp) ⟨rfl,rfl,rfl,rfl⟩ ?_;rintro u v' ⟨x,a2,rfl,rfl,h1,h2,h3,h4⟩;refine AX (I _ _ ?_);clear I K';refine AU ?_;refine HS rfl rfl fun K' I=>T5 ?_;refine bP (args:=[_]) (dS L a2 3 (by omega) (by omega)) rfl (by simp) ⟨rfl,rfl,rfl,rfl⟩ ?_;rintro u v' ⟨y,a3,rfl,rfl,g1,g2,g3,g4⟩;refine AX (I _ _ ?_);clear I K';refine AU ?_;refine T2 (U _ _ _ ?_);clear U K;refine aC fun K U=>?_;have ad: ∀(k c N:Int) (a4:Nat) fr ob nx,(1≤c∧c≤3)→k≠1→dK ⟨k,N,c,rq0⟩=true→a4≤a+4→Fits 2 fr ob (fin [(0,.ptr 0 0),(1,.own 1 T.length),(2,.c (.int .i64 d)),(7,.ptr 228 0)]) (fob [(0,.box 76 (.c (tp L a4))),(1,.row 89 7 (T.map Nd.cv)),(228,.box 89 (.c (Nd.cv ⟨k,N,c,rq0⟩)))]) 700→K fr ob nx:=by
   rintro k c N a4 fr ob nx ⟨bb,az⟩ ar ag bc hf;refine U _ _ _ (aZ hf ?_);clear hf U K;refine RS ?_;iterate 5 refine S0 ?_
   refine RE ?_;refine aC fun K U=>?_;refine R0 ?_;refine aL ?_;refine bB (α:={w:List Nd×Nat×Nat//MadeK (d-1) T.length w.2.1 w.1∧w.2.2≤a+4+w.2.1*aB (d-1)∧(w.2.1:Int)≤c∧w.1.length≤60*w.2.1}) (fun w=>(fin [(0,.ptr 0 0),(1,.own 1 (T.length+1+w.1.1.length)),(2,.c (.int .i64 d)),(7,.ptr 228 0),(8,.c (.int .i64 w.1.2.1))],fob [(0,.box 76 (.c (tp L w.1.2.2))),(1,.row 89 7 ((T++⟨k,N,c,rq0⟩::w.1.1).map Nd.cv)),(228,.box 89 (.c (Nd.cv ⟨k,N,c,rq0⟩)))])) 2000 (fun w=>10-w.1.2.1) ⟨([],0,a4),MadeK.zero _ _,by simp only;omega,by simp only;omega,by simp⟩ (fF) ?_;rintro⟨⟨ts,j,a5⟩,i1,i2,i3,i4⟩;simp only at i1 i2 i3 i4;refine aC fun K U=>?_;refine AU ?_;refine aJ (b:=decide ((j:Int)<c)) rfl (fun hb=>?_) (fun hb=>?_)
   ·
    have ah:(j:Int)<c:=by simpa using hb
    clear hb;obtain⟨M,hM⟩: ∃M,M=T++⟨k,N,c,rq0⟩::ts:=⟨_,rfl⟩;have ai:T.length+1+ts.length=M.length:=by rw[hM];simp;omega
    rw[←hM,ai];have au:IntKind.i64.wrap ((d:Int)-1)=((d-1:Nat):Int):=by rw[B0 _ (by omega)];omega
    have ax:=bF5 (d-1) (by omega);have af:j≤2:=by omega
    have an:j*aB (d-1)≤2*aB (d-1):=I3 _ af;have bf:aB d=8+3*aB (d-1):=by
     obtain⟨e,rfl⟩: ∃e,d=e+1:=⟨d-1,by omega⟩;rfl
    refine aG ?_;refine T0 (U _ _ _ ?_);clear U K;refine aC fun K U=>?_;refine aL ?_;refine Rg ?_;have F:=au;refine AU ?_;refine HS rfl rfl fun K' I=>T6 ?_;refine dR [0,1] (ih (d-1) (by omega) L a5 M (by omega) (by omega) (by omega) (by omega)) rfl ⟨rfl,rfl,trivial⟩ (by simp) (by simp) ⟨rfl,rfl,rfl,rfl⟩ (by simp[cV]) (by simp) ?_;rintro r bp ⟨t,a6,rfl,rfl,ht,ba⟩;rw[cP9,cZ3];refine AX (I _ _ ?_);clear I K';refine SF ?_;refine T2 (U _ _ _ ?_);clear U K;refine aM (by kernel_rfl) ?_;refine TQ (B0 ((j:Int)+1) (by omega)) ?_;have bd:=bF6 ht (by omega);have ao:=i1.next (t:=t) (by rw[ai];exact ht);refine⟨⟨(ts++t,j+1,a6),ao,by simp only[N0,Nat.one_mul];omega,by simp only;omega,by simp only[A3];omega⟩,?_,?_⟩
    ·
     have e1:M++t=T++⟨k,N,c,rq0⟩::(ts++t):=by rw[hM];simp
     have e2:(M++t).length=T.length+1+(ts++t).length:=by rw[e1];simp;omega
     simp only[];rw[←e1,←e2];exact fF
    show 10-(j+1)<10-j;omega
   have ah:(j:Int)=c:=by simp at hb;omega
   have af:j≤3:=by omega
   have an:j*aB (d-1)≤3*aB (d-1):=I3 _ af;obtain⟨d',rfl⟩: ∃d',d=d'+1:=⟨d-1,by omega⟩;simp only[N9]at i1 i2 an;have hm:=i1.fin (x:=⟨k,N,c,rq0⟩) aq ag ar ah.symm (by omega) (by omega);refine aV (T3 ?_);clear U K;refine AX (U _ _ _ ?_);clear U K;refine R0 ?_;refine aE (RT Tryz.results36 ?_);exact bF7 (t:=⟨k,N,c,rq0⟩::ts) rfl rfl (by simp;omega) rfl hm (by simp only[aB];omega)
  have bh:=h4 (by omega);have bg:=g4 (by omega);obtain⟨k,hk⟩: ∃k,k=IntKind.i64.wrap (2+x):=⟨_,rfl⟩;obtain⟨c,hc⟩: ∃c,c=IntKind.i64.wrap (1+y):=⟨_,rfl⟩;have ay:k=2+x:=by rw[hk,aw x h2 (by omega)]
  have bm:c=1+y:=by rw[hc,ak y g2 (by omega)]
  rw[←hk,←hc];clear hk hc h3 h4 g3 g4;refine R0 ?_;refine aJ (b:=_) rfl (fun hb=>?_) (fun hb=>?_)
  ·
   refine Rg ?_;refine AU ?_;refine HS rfl rfl fun K' I=>T5 ?_;refine bP (args:=[_]) (dS L a3 c (by omega) (by omega)) rfl (by simp) ⟨rfl,rfl,rfl,rfl⟩ ?_;rintro u v' ⟨z,a4,rfl,rfl,f1,f2,f3,f4⟩;refine AX (I _ _ ?_);clear I K';refine AU ?_;refine T4 ?_;have f5:=f4 (by omega);have aj:k=4:=by simpa using hb
   exact ad k c (IntKind.i64.wrap (1+z)) a4 _ _ _ ⟨by omega,by omega⟩ (by omega) (by rw[ak z f2 (by omega),dK,A7 (by simp only;omega),A7 (by simp only;omega),B1 aj];simp[inB,iH];omega) (by omega) (fG (by simp[Nd.cv,rq0]))
  refine aG (T3 ?_);have aj: ¬k=4:=by simpa using hb
  exact ad k c 0 a3 _ _ _ ⟨by omega,by omega⟩ (by omega) (by rw[dK,A7 (by simp only;omega),B1 (by simp only;omega)];simp[inB,iH];omega) (by omega) (fG (by simp[Nd.cv,rq0]))
 refine Rg ?_;refine AU ?_;refine aH 10 rfl (fun J=>?_) (fun J=>?_)
 · have F:=J;refine AU ?_;refine T4 ?_;exact key true a _ _ _ (fun h=>by cases h) (by omega) (fF)
 have F:=J;refine SF ?_;refine aX (g:=some (11,false)) rfl rfl fun K' I=>T6 ?_;refine bP (args:=[_]) (dS L a 3 (by omega) (by omega)) rfl (by simp) ⟨rfl,rfl,rfl,rfl⟩ ?_;rintro u v' ⟨x,a1,rfl,rfl,h1,h2,h3,h4⟩;refine AX (I _ _ ?_);clear I K';refine AU ?_;refine aH 14 rfl (fun ab=>?_) (fun ab=>?_)
 · have F:=aI J ab;refine AU ?_;refine T4 ?_;exact key true a1 _ _ _ (fun h=>by cases h) h1 (fF)
 have F:=aI J ab;refine AU ?_;refine aH 19 rfl (fun aa=>?_) (fun aa=>?_)
 · simp only[aa];refine T4 ?_;exact key true a1 _ _ _ (fun h=>by cases h) h1 (fF)
 simp only[aa];refine T4 ?_;exact key false a1 _ _ _ (fun _=>⟨by simp at J;omega,by simp at aa;omega⟩) h1 (fF)
theorem cB3 (N n:Nat)(ob:Ob)(e:TypeId)(sz:Nat)(v:CV)(L:List CV)(t:TypeId):iL (sub [0,N] n) ob 0 [.box t (.c v),.row e sz L]=upd (upd ob 0 (some (.box t (.c v)))) N (some (.row e sz L)):=rfl
theorem cQ0 (N n m:Nat):HV.ren (sub [0,N] n) (.own 1 m)= .own N m:=rfl
theorem dM0 (L:List Int)(a:Nat):lst [.box 76 (.c (tp L a))]=fob [(0,.box 76 (.c (tp L a)))]:=by
 funext i
 match i with
 |0=>rfl
 |i+1=>simp[lst,fob,upd]
abbrev MkR (L:List Int)(a d:Nat)(r:HV)(os':List HO):Prop:=
 ∃(t:List Nd) (a':Nat),r= .own 1 t.length∧os'=[.box 76 (.c (tp L a')),.row 89 7 (t.map Nd.cv)]∧Made d 0 t∧a'≤a+aB d
theorem aP8 {a m J:Nat}{t:List Nd}(N:Nat)(hN:1≤N)(U:ob 0=some (.box 76 (.c (tp L J))))(h1:ob N=some (.row 89 7 X))(hm:m=t.length)(hX:X=t.map Nd.cv)(hM:Made d 0 t)(ha:J≤a+aB d):
  gR 1 (.own N m) ob (fun r ob'=> ∃I,ob'=lst I∧(1≤I.length∧I.length≤1+4)∧ ∃(t:List Nd) (J:Nat),r= .own 1 t.length∧I=[.box 76 (.c (tp L J)),.row 89 7 (t.map Nd.cv)]∧Made d 0 t∧J≤a+aB d):=by
 subst hm hX;have e1:tau 1 [N] 1=N:=rfl;exact eM [] [N] (.own 1 t.length) [.box 76 (.c (tp L J)),.row 89 7 (t.map Nd.cv)] (by simp[e1]) (by simp) ⟨⟨by simp,by simp,_,U,by simp[nU,tp,denilL_int]⟩,⟨by simp,by simp,_,h1,rfl⟩,trivial⟩ rfl (by simp) (by simpa using hN) (by simp) ⟨t,J,rfl,rfl,hM,ha⟩
theorem cZ4 (d:Nat)(L:List Int)(a:Nat)(hd:d≤3)(ha:a+aB d<2^38):
  HGe Tryz.prog 36 [.ptr 0 0,.c .nils,.c (.int .i64 d)] [.box 76 (.c (tp L a))] (MkR L a d):=by
 refine bO (args:=[.ptr 0 0,.c .nils,.c (.int .i64 d)]) Tryz.func36 rfl (by kernel_rfl) (dQ rfl (by simp[cV]) (by simp)) (C7 rfl) ?_;show Hw _ _ 1 _ _ _ (lst _) 1;rw[dM0];have bn:=bF5 d hd;have ak: ∀x:Int,0≤x→x<100→IntKind.i64.wrap (1+x)=1+x:=fun x h1 h2=>B0 _ (by omega);have aw: ∀x:Int,0≤x→x<100→IntKind.i64.wrap (2+x)=2+x:=fun x h1 h2=>B0 _ (by omega);refine R0 ?_;refine aC fun K U=>?_;refine aC fun K U=>?_;have key: ∀(b:Bool) (a1:Nat) fr ob nx,(b=false→0<d)→a1≤a+1→Fits 1 fr ob (fin [(0,.ptr 0 0),(1,.c .nils),(2,.c (.int .i64 d)),(20,.c (.bool b))]) (fob [(0,.box 76 (.c (tp L a1)))]) 200→K fr ob nx:=by
  rintro b a1 fr ob nx ae bd hf;refine U _ _ _ (aZ hf ?_);clear hf U K;refine aJ (b:=b) rfl (fun hb=>?_) (fun hb=>?_)
  · clear ae;refine aC fun K U=>Rg ?_;refine AU ?_;refine HS rfl rfl fun K' I=>T5 ?_;refine bP (args:=[]) (bS9 L a1 (by omega)) rfl (by simp) ⟨rfl,rfl,rfl,rfl⟩ ?_;rintro u v' ⟨q,a2,rfl,rfl,s1,s2⟩;refine AX (I _ _ ?_);clear I K';refine AU ?_;refine T2 (U _ _ _ ?_);clear U K;refine aE (RT Tryz.results36 ?_);have:=dC0 d hd;exact aP8 220 (by decide) (t:=[⟨1,0,0,q⟩]) rfl rfl (by simp) (by simp) (aO9 s2) (by omega)
  have bm:=ae hb;clear ae hb;refine aG ?_;refine T0 (U _ _ _ ?_);clear U K;refine aC fun K U=>Rg ?_;refine S0 ?_;refine HS rfl rfl fun K' I=>T5 ?_;refine bP (args:=[_]) (dS L a1 3 (by omega) (by omega)) rfl (by simp) ⟨rfl,rfl,rfl,rfl⟩ ?_;rintro u v' ⟨x,a2,rfl,rfl,h1,h2,h3,h4⟩;refine AX (I _ _ ?_);clear I K';refine AU ?_;refine HS rfl rfl fun K' I=>T5 ?_;refine bP (args:=[_]) (dS L a2 3 (by omega) (by omega)) rfl (by simp) ⟨rfl,rfl,rfl,rfl⟩ ?_;rintro u v' ⟨y,a3,rfl,rfl,g1,g2,g3,g4⟩;refine AX (I _ _ ?_);clear I K';refine AU ?_;refine T2 (U _ _ _ ?_);clear U K;refine aC fun K U=>?_;have ad: ∀(k c N:Int) (a4:Nat) fr ob nx,(1≤c∧c≤3)→k≠1→dK ⟨k,N,c,rq0⟩=true→a4≤a+4→Fits 1 fr ob (fin [(0,.ptr 0 0),(1,.c .nils),(2,.c (.int .i64 d)),(7,.ptr 228 0)]) (fob [(0,.box 76 (.c (tp L a4))),(228,.box 89 (.c (Nd.cv ⟨k,N,c,rq0⟩)))]) 700→K fr ob nx:=by
   rintro k c N a4 fr ob nx ⟨az,bh⟩ aq ag bk hf;refine U _ _ _ (aZ hf ?_);clear hf U K;refine RS ?_;iterate 5 refine S0 ?_
   refine RE ?_;refine aC fun K U=>?_;refine R0 ?_;refine aL ?_;refine bB (α:={w:List Nd×Nat×Nat//MadeK (d-1) 0 w.2.1 w.1∧w.2.2≤a+4+w.2.1*aB (d-1)∧(w.2.1:Int)≤c∧w.1.length≤60*w.2.1}) (fun w=>(fin [(0,.ptr 0 0),(1,.own 712 (1+w.1.1.length)),(2,.c (.int .i64 d)),(7,.ptr 228 0),(8,.c (.int .i64 w.1.2.1))],fob [(0,.box 76 (.c (tp L w.1.2.2))),(712,.row 89 7 ((⟨k,N,c,rq0⟩::w.1.1:List Nd).map Nd.cv)),(228,.box 89 (.c (Nd.cv ⟨k,N,c,rq0⟩)))])) 2000 (fun w=>10-w.1.2.1) ⟨([],0,a4),MadeK.zero _ _,by simp only;omega,by simp only;omega,by simp⟩ (fF) ?_;rintro⟨⟨ts,j,a5⟩,i1,i2,i3,i4⟩;simp only at i1 i2 i3 i4;refine aC fun K U=>?_;refine AU ?_;refine aJ (b:=decide ((j:Int)<c)) rfl (fun hb=>?_) (fun hb=>?_)
   ·
    have ah:(j:Int)<c:=by simpa using hb
    clear hb;obtain⟨M,hM⟩: ∃M:List Nd,M=⟨k,N,c,rq0⟩::ts:=⟨_,rfl⟩;have ai:1+ts.length=M.length:=by rw[hM];simp;omega
    have ar:Nd.cv ⟨k,N,c,rq0⟩::List.map Nd.cv ts=List.map Nd.cv M:=by rw[hM];rfl
    rw[ar,ai];have au:IntKind.i64.wrap ((d:Int)-1)=((d-1:Nat):Int):=by rw[B0 _ (by omega)];omega
    have ax:=bF5 (d-1) (by omega);have af:j≤2:=by omega
    have an:j*aB (d-1)≤2*aB (d-1):=I3 _ af;have bl:aB d=8+3*aB (d-1):=by
     obtain⟨e,rfl⟩: ∃e,d=e+1:=⟨d-1,by omega⟩;rfl
    refine aG ?_;refine T0 (U _ _ _ ?_);clear U K;refine aC fun K U=>?_;refine aL ?_;refine Rg ?_;have F:=au;refine AU ?_;refine HS rfl rfl fun K' I=>T6 ?_;refine dR [0,712] (dH2 (d-1) L a5 M (by omega) (by omega) (by omega) (by omega)) rfl ⟨rfl,rfl,trivial⟩ (by simp) (by simp) ⟨rfl,rfl,rfl,rfl⟩ (by simp[cV]) (by simp) ?_;rintro r bg ⟨t,a6,rfl,rfl,ht,bj⟩;rw[cB3,cQ0];refine AX (I _ _ ?_);clear I K';refine SF ?_;refine T2 (U _ _ _ ?_);clear U K;refine aM (by kernel_rfl) ?_;refine TQ (B0 ((j:Int)+1) (by omega)) ?_;have ba:=bF6 ht (by omega);have ao:=i1.next (t:=t) (by rw[F0,ai];exact ht);refine⟨⟨(ts++t,j+1,a6),ao,by simp only[N0,Nat.one_mul];omega,by simp only;omega,by simp only[A3];omega⟩,?_,?_⟩
    ·
     have e1:Nd.cv ⟨k,N,c,rq0⟩::List.map Nd.cv (ts++t)=List.map Nd.cv (M++t):=by rw[hM];simp
     have e2:(M++t).length=1+(ts++t).length:=by rw[hM];simp;omega
     simp only[];rw[e1,←e2];exact fF
    show 10-(j+1)<10-j;omega
   have ah:(j:Int)=c:=by simp at hb;omega
   have af:j≤3:=by omega
   have an:j*aB (d-1)≤3*aB (d-1):=I3 _ af;obtain⟨d',rfl⟩: ∃d',d=d'+1:=⟨d-1,by omega⟩;simp only[N9]at i1 i2 an;have hm:=i1.fin (x:=⟨k,N,c,rq0⟩) (by omega) ag aq ah.symm (by omega) (by omega);refine aV (T3 ?_);clear U K;refine AX (U _ _ _ ?_);clear U K;refine R0 ?_;refine aE (RT Tryz.results36 ?_);exact aP8 712 (by decide) (t:=⟨k,N,c,rq0⟩::ts) rfl rfl (by simp;omega) rfl hm (by simp only[aB];omega)
  have bc:=h4 (by omega);have bb:=g4 (by omega);obtain⟨k,hk⟩: ∃k,k=IntKind.i64.wrap (2+x):=⟨_,rfl⟩;obtain⟨c,hc⟩: ∃c,c=IntKind.i64.wrap (1+y):=⟨_,rfl⟩;have ay:k=2+x:=by rw[hk,aw x h2 (by omega)]
  have bf:c=1+y:=by rw[hc,ak y g2 (by omega)]
  rw[←hk,←hc];clear hk hc h3 h4 g3 g4;refine R0 ?_;refine aJ (b:=_) rfl (fun hb=>?_) (fun hb=>?_)
  ·
   refine Rg ?_;refine AU ?_;refine HS rfl rfl fun K' I=>T5 ?_;refine bP (args:=[_]) (dS L a3 c (by omega) (by omega)) rfl (by simp) ⟨rfl,rfl,rfl,rfl⟩ ?_;rintro u v' ⟨z,a4,rfl,rfl,f1,f2,f3,f4⟩;refine AX (I _ _ ?_);clear I K';refine AU ?_;refine T4 ?_;have f5:=f4 (by omega);have aj:k=4:=by simpa using hb
   exact ad k c (IntKind.i64.wrap (1+z)) a4 _ _ _ ⟨by omega,by omega⟩ (by omega) (by rw[ak z f2 (by omega),dK,A7 (by simp only;omega),A7 (by simp only;omega),B1 aj];simp[inB,iH];omega) (by omega) (fG (by simp[Nd.cv,rq0]))
  refine aG (T3 ?_);have aj: ¬k=4:=by simpa using hb
  exact ad k c 0 a3 _ _ _ ⟨by omega,by omega⟩ (by omega) (by rw[dK,A7 (by simp only;omega),B1 (by simp only;omega)];simp[inB,iH];omega) (by omega) (fG (by simp[Nd.cv,rq0]))
 refine Rg ?_;refine AU ?_;refine aH 10 rfl (fun J=>?_) (fun J=>?_)
 · have F:=J;refine AU ?_;refine T4 ?_;exact key true a _ _ _ (fun h=>by cases h) (by omega) (fF)
 have F:=J;refine SF ?_;refine aX (g:=some (11,false)) rfl rfl fun K' I=>T6 ?_;refine bP (args:=[_]) (dS L a 3 (by omega) (by omega)) rfl (by simp) ⟨rfl,rfl,rfl,rfl⟩ ?_;rintro u v' ⟨x,a1,rfl,rfl,h1,h2,h3,h4⟩;refine AX (I _ _ ?_);clear I K';refine AU ?_;refine aH 14 rfl (fun ab=>?_) (fun ab=>?_)
 · have F:=aI J ab;refine AU ?_;refine T4 ?_;exact key true a1 _ _ _ (fun h=>by cases h) h1 (fF)
 have F:=aI J ab;refine SF ?_;refine aX (g:=some (16,false)) rfl rfl fun K' I=>T6 ?_;obtain⟨z,hz⟩: ∃z:Int,z=0:=⟨_,rfl⟩;rw[←hz];refine AX (I _ _ ?_);clear I K';refine AU ?_;refine aH 19 rfl (fun aa=>?_) (fun aa=>?_)
 · simp only[aa];refine T4 ?_;exact key true a1 _ _ _ (fun h=>by cases h) h1 (fF)
 simp only[aa];refine T4 ?_;exact key false a1 _ _ _ (fun _=>(by simp at J;omega)) h1 (fF)
theorem cZ5 (n:Nat)(ob:Ob)(e:TypeId)(sz:Nat)(v:CV)(L:List CV)(t:TypeId):iL (sub [0] n) ob 0 [.box t (.c v),.row e sz L]=upd (upd ob 0 (some (.box t (.c v)))) n (some (.row e sz L)):=rfl
theorem dH3 (n m:Nat):HV.ren (sub [0] n) (.own 1 m)= .own n m:=rfl
theorem cB4 (L:List Int)(a:Nat)(ha:a<2^37):aI4 Tryz.prog 11 76 (tp L a) [] (fun u v'=> ∃(t:List Nd) (J:Nat),u= .slc (t.map Nd.cv)∧v'=tp L J∧Made 3 0 t∧J≤a+400):=by
 refine bO Tryz.func11 rfl (by kernel_rfl) (gU _ _ _) (C7 rfl) ?_;have ad:=bF5 3 (by decide);refine R0 ?_;refine aC fun K U=>aY (by kernel_rfl) ?_;simp only[sR,simprocAttr];refine SG0 ?_;refine yM (g:=none) rfl rfl fun K' I=>?_;simp only[sN,↓hopH.eq_def,sH,↓sP,sA,tyS,simprocAttr];refine dR [0] (cZ4 3 L a (by decide) (by omega)) rfl ⟨rfl,trivial⟩ (by simp) (by simp) ⟨rfl,rfl,rfl,rfl⟩ (by simp[cV]) (by simp) ?_;rintro r aa ⟨t,J,rfl,rfl,ht,ab⟩;rw[cZ5,dH3];refine AX (I _ _ ?_);clear I K';refine SG0 ?_;refine T2 (U _ _ _ ?_);clear U K;refine aE (RT Tryz.results11 ?_);exact iZ [9] (.slc (t.map Nd.cv)) (tp L J) (by simp[denilL_Nd]) rfl (by simp[tp,denilL_int]) (by simp) ⟨t,J,rfl,rfl,ht,by omega⟩
end Go.Proofs.YthedbjfipmkpiaaGreatDoor
namespace Go.Pl
open Go Go.Hl
end Go.Pl
namespace Go.Proofs.YthedbjfipmkpiaaGreatDoor
open Go Go.Hl Go.Pl
theorem bF8 (L:List Int)(a:Nat)(T:List Nd)(hn: ∀n∈T,n.q.t.length<2^63)(an:(eB T).length≤16)(ab:Int)(ho:ab<2^40)(ha:a<2^38):aI4 Tryz.prog 12 76 (tp L a) [.slc (T.map Nd.cv),.int .i64 ab] (fun u v'=> ∃(S:List Sp) (a':Nat),u= .slc (S.map Sp.cv)∧v'=tp L a'∧S.length=(eB T).length∧(∀x∈S,x.d.length≤2)∧a'≤a+64):=by
 refine bO Tryz.func12 rfl (by kernel_rfl) (gU _ _ _) (C7 rfl) ?_;refine R0 ?_;refine R0 ?_;refine aC fun K U=>?_;refine R0 ?_;refine aL ?_;refine eH 7 0 64 3 rfl rfl rfl rfl ?_;refine bB (α:={y:Nat×List Sp×Nat//y.1≤(eB T).length∧y.2.1.length=y.1∧(∀x∈y.2.1,x.d.length≤2)∧y.2.2≤a+4*y.1}) (fun y=>(fin [(0,.ptr 0 0),(1,.c (.slc (T.map Nd.cv))),(2,.c (.int .i64 ab)),(7,.own 13 y.1.2.1.length),(8,.c (.int .i64 y.1.1))],fob [(0,.box 76 (.c (tp L y.1.2.2))),(13,.row 64 3 (y.1.2.1.map Sp.cv))])) 200 (fun y=>(eB T).length-y.1.1) ⟨(0,[],a),by simp,rfl,by simp,by simp⟩ (fF) ?_;rintro⟨⟨i,S,b⟩,hi,hS,hd,ad⟩;simp only at hi hS hd ad⊢;refine aC fun K U=>?_;refine RS ?_;have F:=aI @denilL_Nd @A0.{0,0};refine AU ?_;refine SCF (xQ T hn) ?_;refine AU ?_;refine aJ (b:=decide ((i:Int)<(eB T).length)) rfl (fun hb=>?_) (fun hb=>?_)
 ·
  have aj:i<(eB T).length:=by have:=F9 hb;omega
  clear hb;refine aG ?_;refine T0 (U _ _ _ ?_);clear U K;refine aC fun K U=>?_;refine aL ?_;refine aC fun K U=>Rg ?_;refine AU ?_;refine HS rfl rfl fun K' aa=>T5 ?_;refine bP (args:=[_]) (dS L b ab (by omega) (by omega)) rfl (by simp) ⟨rfl,rfl,rfl,rfl⟩ ?_;rintro u v' ⟨x,a1,rfl,rfl,h1,h2,h3,h4⟩;refine AX (aa _ _ ?_);clear aa K';refine AU ?_;refine T2 (U _ _ _ ?_);clear U K;refine aC fun K U=>?_;refine aC fun K U=>Rg ?_;refine S0 ?_;refine HS rfl rfl fun K' aa=>T5 ?_;refine bP (args:=[_]) (dS L a1 3 (by omega) (by omega)) rfl (by simp) ⟨rfl,rfl,rfl,rfl⟩ ?_;rintro u v' ⟨y,a2,rfl,rfl,g1,g2,g3,g4⟩;obtain⟨m,rfl⟩: ∃m:Nat,y=m:=⟨y.toNat,by omega⟩;have hm:m≤2:=by have:=g4 (by omega);omega
  clear g2 g3 g4;refine AX (aa _ _ ?_);clear aa K';refine S0 ?_;refine T2 (U _ _ _ ?_);clear U K;refine aL ?_;obtain⟨hh,ae⟩: ∃c,c=decide (0<x):=⟨_,rfl⟩;rw[←ae];refine bW [] ?_;refine bB (α:={z:Nat×List Dig×Nat//z.1+z.2.1.length≤2∧z.2.2+z.1≤a2+2}) (fun z=>(fin [(0,.ptr 0 0),(1,.c (.slc (T.map Nd.cv))),(2,.c (.int .i64 ab)),(7,.own 13 S.length),(8,.c (.int .i64 i)),(9,.ptr 240 0),(10,.c (.int .i64 z.1.1))],fob [(0,.box 76 (.c (tp L z.1.2.2))),(13,.row 64 3 (S.map Sp.cv)),(240,.box 64 (.c (Sp.cv ⟨hh,z.1.2.1,0⟩)))])) 500 (fun z=>z.1.1) ⟨(m,[],a2),by simp;omega,by simp;omega⟩ (fG (by simp[tp,denilL_int,denilL_Nd,Sp.cv])) ?_;rintro⟨⟨n,D,a3⟩,ah,ag⟩;simp only at ah ag⊢;refine aC fun K U=>?_;refine AU ?_;refine aH 26 rfl (fun I=>?_) (fun I=>?_)
  ·
   have F:=I;refine AU ?_;refine aH 29 rfl (fun J=>?_) (fun J=>?_)
   ·
    simp only[J];refine RE ?_;refine CT rfl ?_;refine aG ?_;refine T0 (U _ _ _ ?_);clear U K;refine aC fun K U=>?_;refine aL ?_;refine DW [(0,[],[]),(1,[],[]),(2,[],[]),(3,[],[0,1]),(4,[],[]),(5,[],[]),(6,[],[]),(7,[],[]),(8,[],[]),(9,[],[])] [0,1,0,4,12,28,60,127,255,511] ?_;have F:=aI @denilL_dg (aI I J);iterate 3 refine WF ?_
    refine bL (g:=none) rfl rfl fun K' aa=>T6 ?_;refine bP (args:=[_]) (dS L a3 9 (by omega) (by omega)) rfl (by simp) ⟨rfl,rfl,rfl,rfl⟩ ?_;rintro u v' ⟨x2,a4,rfl,rfl,k1,k2,k3,k4⟩;have ak:=k4 (by omega);have e1:IntKind.i64.wrap (1+x2)=1+x2:=B0 _ (by omega);have e2:IntKind.u8.wrap (1+x2)=1+x2:=K7 _ (by omega);refine AX (aa _ _ ?_);clear aa K';have F:=aI @denilL_dg (aI e1 (aI e2 (aI I J)));iterate 3 refine WF ?_
    refine bL (g:=none) rfl rfl fun K' aa=>T6 ?_;rw[wU (show 0≤1+x2 by omega) (by omega)];refine C2 (cY3 D (dg1 (UInt8.ofNat (1+x2).toNat)) (by omega)) ?_;rintro u ⟨Q,rfl,hQ⟩;have ai:Q.length≤D.length+1:=by
     have h1:=cE4 (dws D) (dg1 (UInt8.ofNat (1+x2).toNat)).1;rw[←hQ,iE,iE]at h1;exact h1
    refine AX (aa _ _ ?_);clear aa K';iterate 2 refine WF ?_
    refine T2 (U _ _ _ ?_);clear U K;refine aM (by kernel_rfl) ?_;simp only[↓sP,sA,tyS,simprocAttr];have ao:0<n:=by have:=F9 I;omega
    have ew:IntKind.i64.wrap ((n:Int)-1)=((n-1:Nat):Int):=by rw[B0 _ (by omega)];omega
    subst J;rw[ew];refine⟨⟨(n-1,Q,a4),by simp only;omega,by simp only;omega⟩,fF,by simp only;omega⟩
   simp only[J];refine RE ?_;refine CF rfl ?_;refine aV (T3 ?_);clear U K;refine AX (U _ _ _ ?_);clear U K;refine Rg ?_;have F:=aI I J;refine AU ?_;refine T2 (U _ _ _ ?_);clear U K;refine aM (by kernel_rfl) ?_;simp only[↓sP,sA,tyS,simprocAttr];have ew:IntKind.i64.wrap ((i:Int)+1)=((i+1:Nat):Int):=by rw[B0 _ (by omega)];rfl
   rw[ew];refine⟨⟨(i+1,S++[⟨false,D,0⟩],a3),by simp only;omega,by simp only[A3,A8,C0];omega,fun z hz=>?_,by simp only;omega⟩,(fF),by simp only;omega⟩;rcases D6.1 hz with hz|hz
   · exact hd z hz
   rw[E5.1 hz];simp only;omega
  have F:=I;refine AU ?_;refine CF rfl ?_;refine aV (T3 ?_);clear U K;refine AX (U _ _ _ ?_);clear U K;refine Rg ?_;refine AU ?_;refine T2 (U _ _ _ ?_);clear U K;refine aM (by kernel_rfl) ?_;simp only[↓sP,sA,tyS,simprocAttr];have ew:IntKind.i64.wrap ((i:Int)+1)=((i+1:Nat):Int):=by rw[B0 _ (by omega)];rfl
  rw[ew];refine⟨⟨(i+1,S++[⟨hh,D,0⟩],a3),by simp only;omega,by simp only[A3,A8,C0];omega,fun z hz=>?_,by simp only;omega⟩,(fF),by simp only;omega⟩;rcases D6.1 hz with hz|hz
  · exact hd z hz
  rw[E5.1 hz];simp only;omega
 have af:i=(eB T).length:=by have:=G7 hb;omega
 subst af;clear hb;refine aV (T3 ?_);clear U K;refine AX (U _ _ _ ?_);clear U K;refine R0 ?_;refine aE (RT Tryz.results12 ?_);refine iZ [13] (.slc (S.map Sp.cv)) (tp L b) (by simp[denilL_Sp]) rfl (by simp[tp,denilL_int]) (by simp) ⟨S,b,rfl,rfl,hS,hd,by omega⟩
theorem aP9 (S:List Sp)(hl:S.length<2^40):bM Tryz.prog 31 [.slc (S.map Sp.cv)] (fun v=>v= .slc ((cJ S).map bC)):=by
 refine FW Tryz.func31 ?_;refine R0 ?_;refine R0 ?_;refine aC fun K I=>?_;refine R0 ?_;refine aL ?_;refine eH 3 0 4 1 rfl rfl rfl rfl ?_;refine bB (α:={i:Nat//i≤S.length}) (fun i=>(fin [(0,.c (.slc (S.map Sp.cv))),(3,.own 12 i.1),(4,.c (.int .i64 i.1))],fob [(12,.row 4 1 ((cJ (S.take i.1)).map bC))])) 100 (fun i=>S.length-i.1) ⟨0,by omega⟩ (fG (by simp[cJ])) ?_;rintro⟨i,hi⟩;have U:(cJ (S.take i)).length=i:=by simp[cJ];omega
 refine aC fun K I=>?_;refine RS ?_;have F:=@A0.{0,0};refine AU ?_;refine aJ (b:=decide ((i:Int)<S.length)) rfl (fun hb=>?_) (fun hb=>?_)
 ·
  have J:i<S.length:=by have:=F9 hb;omega
  have ab:cJ (S.take (i+1))=cJ (S.take i)++[S[i].h]:=by rw[A5 J];unfold cJ;rw[C5];rfl
  clear hb;refine aG ?_;refine T0 (I _ _ _ ?_);clear I K;refine aC fun K I=>?_;refine aL ?_;refine Rg ?_;have F:=aI @A1 (aI @A4 (aI J (aI (nM J) U)));refine AU ?_;refine T2 (I _ _ _ ?_);clear I K;refine aM (by kernel_rfl) ?_;refine TQ (cW i) ?_;refine⟨⟨i+1,by omega⟩,(fG (by simp[ab,bC,U])),?_⟩;show S.length-(i+1)<S.length-i;omega
 have aa:i=S.length:=by have:=G7 hb;omega
 subst aa;refine aV (T3 ?_);clear I K;refine AX (I _ _ _ ?_);clear I K;refine R0 ?_;refine aE (RT Tryz.results31 ?_);have ad:(cJ S).length=S.length:=by simp[cJ]
 exact aF [12] (.slc ((cJ S).map bC)) (by simp[ad,C6]) rfl
theorem dO6 (a n:Nat)(ob:Ob)(e:TypeId)(sz:Nat)(L:List CV):iL (sub [a] n) ob 0 [.row e sz L]=upd ob a (some (.row e sz L)):=rfl
theorem cQ1 (a n k:Nat):HV.ren (sub [a] n) (.own 0 k)= .own a k:=rfl
abbrev osL (W:List Ln):List HO:=[.row 41 4 (W.map Ln.cv)]
theorem dM1 (W:List Ln):lst (osL W)=fob [(0,.row 41 4 (W.map Ln.cv))]:=by
 funext i
 match i with
 |0=>rfl
 |i+1=>simp[lst,fob,upd]
theorem bF9 {ob:Ob}{u:HV}{W:List Ln}{R:HV→List HO→Prop}(hu:u= .own 0 W.length)(J:ob 0=some (.row 41 4 (W.map Ln.cv)))(U:R (.own 0 W.length) (osL W)):
  gR 1 u ob (fun r ob'=> ∃I,ob'=lst I∧(1≤I.length∧I.length≤1+4)∧R r I):=by
 subst hu;exact eM [] [] (.own 0 W.length) (osL W) rfl (by simp) ⟨⟨by simp,by simp,_,J,rfl⟩,trivial⟩ rfl N3 (by simp) (by simp) U
structure RvSt (l:List Nd)(S:List Sp)(g i:Nat)(W:List Ln)(j:Nat)(W':List Ln)(F:List Int):Prop where
 len:W'.length+(i+1)≤W.length+cF l j (i+1)
 out:W'=(jM l S g i j W).1
 fr:F=(jM l S g i j W).2
theorem cB5 (l:List Nd)(ay:eJ l=true)(hn: ∀n∈l,n.q.t.length<2^63)(S:List Sp)(hS:S.length<2^40)(hd: ∀x∈S,x.d.length<2^42)(f:Nat): ∀(W:List Ln) (i:Nat),i<l.length→l.length-i≤f→W.length+(aft l i-i)<2^39→dZ l (cJ S) i=true→
  HGe Tryz.prog 40 [.c (.slc (l.map Nd.cv)),.c (.slc (S.map Sp.cv)),.c (.int .i64 i),.own 0 W.length] (osL W) (fun r ax=>r= .own 0 (prv l S f i W).length∧ax=osL (prv l S f i W)):=by
 induction f using Nat.strongRecOn with
 |ind f ih=>?_
 intro W i hi hf hW hv;refine bO (args:=[.c (.slc (l.map Nd.cv)),.c (.slc (S.map Sp.cv)),.c (.int .i64 i),.own 0 W.length]) Tryz.func40 rfl (by kernel_rfl) (dQ rfl (by simp[cV]) (by simp)) (C7 rfl) ?_;show Hw _ _ 1 _ _ _ (lst _) 1;rw[dM1];have ht:=fN ay;have cf:=ht.len;have hgd:l.getD i nd0=l[i]:=uL hi;have bp:=gL ht hi;have bf:(cJ S).length<2^63:=by unfold cJ;rw[A0];omega
 obtain⟨g,rfl⟩: ∃g,f=g+1:=⟨f-1,by omega⟩;refine R0 ?_;refine RS ?_;have F:=@denilL_Sp;refine SF ?_;refine SCF (aP9 S hS) ?_;refine SF ?_;refine RE ?_;refine RS ?_;have F:=aI @A1 (aI @A4 (aI hi (nM hi)));iterate 6 refine SF ?_
 refine RE ?_;refine aC fun K I=>?_;refine R0 ?_;refine aJ (b:=(l[i].k==1)) rfl (fun J=>?_) (fun J=>?_)
 ·
  have hk:l[i].k=1:=by simpa using J
  clear J;have ak:(S.getD (lv (l.take i)) sp0).h=true:=by rw[←aZ3,←oU hi hk];exact hv
  obtain⟨q,hq⟩: ∃q,q=lv (l.take i):=⟨_,rfl⟩;rw[←hq]at ak;have ad:q<S.length:=by
   rcases H4 q S.length with h|h
   · exact h
   rw[B4,I5 h]at ak;cases ak
  have bj:S.getD q sp0=S[q]:=by rw[B4,A9 ad];rfl
  refine R0 ?_;refine aC fun K I=>?_;refine R0 ?_;refine aL ?_;refine bB (α:={j:Nat//j≤i}) (fun j=>(fin [(0,.c (.slc (l.map Nd.cv))),(1,.c (.slc (S.map Sp.cv))),(2,.c (.int .i64 i)),(3,.own 0 W.length),(11,.c (.int .i64 (lv (l.take j.1):Nat))),(12,.c (.int .i64 j.1))],fob [(0,.row 41 4 (W.map Ln.cv))])) 200 (fun j=>i-j.1) ⟨0,by omega⟩ (fG (by simp[lv])) ?_;rintro⟨j,hj⟩;have cd:lv (l.take j)≤j:=by have:=bO3 (l.take j);rw[E1]at this;omega
  refine aC fun K I=>?_;refine R0 ?_;refine aJ (b:=decide ((j:Int)<i)) rfl (fun J=>?_) (fun J=>?_)
  ·
   have az:j<i:=by have:=F9 J;omega
   have ar:j<l.length:=by omega
   have ag:=zT ar;clear J;refine aG ?_;refine T0 (I _ _ _ ?_);clear I K;refine aC fun K I=>?_;refine aL ?_;refine RS ?_;have F:=aI @A1 (aI @A4 (aI ar (nM ar)));refine AU ?_;refine aJ (b:=(l[j].k==1)) rfl (fun J=>?_) (fun J=>?_)
   ·
    rw[B1 (show l[j].k=1 by simpa using J)]at ag;have bk:IntKind.i64.wrap ((lv (l.take j):Int)+1)=((lv (l.take (j+1)):Nat):Int):=by rw[B0 _ (by omega),ag];omega
    clear J;refine aM (by kernel_rfl) ?_;refine TQ bk ?_;refine AX (I _ _ _ ?_);clear I K;refine aM (by kernel_rfl) ?_;refine TQ (cW j) ?_;refine⟨⟨j+1,by omega⟩,(fG (by simp[ag])),?_⟩;show i-(j+1)<i-j;omega
   rw[A7 (show¬l[j].k=1 by simpa using J),L4]at ag;clear J;refine aG ?_;refine T0 (I _ _ _ ?_);clear I K;refine aM (by kernel_rfl) ?_;refine TQ (cW j) ?_;refine⟨⟨j+1,by omega⟩,(fG (by simp[ag])),?_⟩;show i-(j+1)<i-j;omega
  have az:j=i:=by have:=G7 J;omega
  subst az;clear J;rw[←hq];have cc: ∀v∈S[q].d.map dg,v.cells=32:=fun v hv=>by
   obtain⟨x,_,rfl⟩:=H0.1 hv;exact dg_cells x
  have bz:=hd _ (B5 ad);have bu:S[q].d.length*32≤140737488355328:=by omega
  have cb:S[q].d.length≤maxLen:=by simp only[maxLen];omega
  refine aV (T3 ?_);clear I K;refine AX (I _ _ _ ?_);clear I K;refine aC fun K I=>aY (by kernel_rfl) ?_;simp only[sR,simprocAttr];have F:=aI @A1 (aI @A4 (aI ad (aI (nM ad) @denilL_dg)));iterate 7 refine SGF ?_
  refine cN (g:=none) 240 rfl rfl fun K' aa=>?_;simp only[gH,kC,sH,↓sP,sA,tyS,simprocAttr,A1,A4,ad,aW ad,denilL_dg];repeat refine AI ?_
  refine cO (by first|rfl|simp) ?_;try simp only[sH,↓sP,sA,tyS,simprocAttr,A1,A4,ad,aW ad,denilL_dg]
  refine AX (aa _ _ ?_);clear aa K';iterate 4 refine SGF ?_
  refine T2 (I _ _ _ ?_);clear I K;refine aE (RT Tryz.results40 ?_);refine bF9 (W:=W++[lD l S j]) (by simp) ?_ ⟨by rw[lX (by rw[hgd];exact hk)],by rw[lX (by rw[hgd];exact hk)]⟩;have e1:lD l S j=⟨1,j,S[q].d,[]⟩:=by rw[lD,←hq,bj]
  rw[e1];simp[Ln.cv]
 have hk:l[i].k≠1:=by simpa using J
 clear J;have aw:=ht.node _ (B5 hi);obtain⟨c1,c2,c3,c4⟩:=fM aw;have bq:=c4 hk;have bt:l[i].k=2∨l[i].k=3∨(l[i].k=4∧1≤l[i].n):=by
  unfold dK inB at aw;grind
 have bn:qA l i=dL l l[i].c.toNat (i+1):=rT ay hi;have ai:(dL l l[i].c.toNat (i+1)).length=l[i].c.toNat:=lM l _ _;refine aG ?_;refine T0 (I _ _ _ ?_);clear I K;refine aC fun K I=>Rg ?_;have F:=@denilL_Nd;refine AU ?_;refine HS rfl rfl fun K' aa=>T6 ?_;refine C2 (aV1 l hn i) ?_;rintro u rfl;rw[bn];refine AX (aa _ _ ?_);clear aa K';refine SF ?_;refine T2 (I _ _ _ ?_);clear I K;refine RS ?_;iterate 4 refine S0 ?_
 refine RE ?_;have F:=aI @A0.{0,0} ai;refine RF ?_;refine aC fun K I=>?_;have key: ∀(kd w:Int) fr ob nx,kd=(if l[i].k=3 then 3 else 2)→w=(if l[i].k=3 then 1 else(l[i].c.toNat:Nat))→Fits 1 fr ob (fin [(0,.c (.slc (l.map Nd.cv))),(1,.c (.slc (S.map Sp.cv))),(2,.c (.int .i64 i)),(3,.own 0 W.length),(9,.c (.slc ((cJ S).map bC))),(10,.ptr 33 0),(13,.c (.slc ((dL l l[i].c.toNat (i+1)).map iC))),(14,.ptr 77 0),(15,.c (.int .i64 w))]) (fob [(0,.row 41 4 (W.map Ln.cv)),(33,.box 89 (.c l[i].cv)),(77,.box 41 (.c (.agg [.int .i64 kd,.int .i64 i,.nils,.nils])))]) 200→K fr ob nx:=by
  rintro kd w fr ob nx bo hw hf;refine I _ _ _ (aZ hf ?_);clear hf I K;refine aC fun K I=>?_;have key: ∀(kd w:Int) fr ob nx,kd=eW l[i]→w=(wantN l[i]:Nat)→Fits 1 fr ob (fin [(0,.c (.slc (l.map Nd.cv))),(1,.c (.slc (S.map Sp.cv))),(2,.c (.int .i64 i)),(3,.own 0 W.length),(9,.c (.slc ((cJ S).map bC))),(13,.c (.slc ((dL l l[i].c.toNat (i+1)).map iC))),(14,.ptr 77 0),(15,.c (.int .i64 w))]) (fob [(0,.row 41 4 (W.map Ln.cv)),(77,.box 41 (.c (.agg [.int .i64 kd,.int .i64 i,.nils,.nils])))]) 300→K fr ob nx:=by
   rintro kd w fr ob nx rfl rfl hf;refine I _ _ _ (aZ hf ?_);clear hf I K;refine aC fun K I=>?_;have key: ∀(W':List Ln) (F:List Int) fr ob nx,RvSt l S g i W l[i].c.toNat W' F→Fits 1 fr ob (fin [(3,.own 0 W'.length),(14,.ptr 77 0)]) (fob [(0,.row 41 4 (W'.map Ln.cv)),(77,.box 41 (.agg [.c (.int .i64 (eW l[i])),.c (.int .i64 i),.c .nils,.own 304 F.length])),(304,.row 3 1 (F.map (CV.int .i64)))]) 30000→K fr ob nx:=by
    rintro W' F fr ob nx ab hf;refine I _ _ _ (aZ hf ?_);clear hf I K;have q2:=ab.len;have q3:=ab.out;have q4:=ab.fr;rw[kP ht hi]at q2;refine bW [304] (aZ (fr2:=fin [(3,.own 0 W'.length),(14,.ptr 77 0)]) (ob2:=fob [(0,.row 41 4 (W'.map Ln.cv)),(77,.box 41 (.c (Ln.cv ⟨eW l[i],i,[],F⟩)))]) (nx2:=31000) (bA (by omega) (by simp[denilL_int]) (by simp[Ln.cv])) ?_);refine AU ?_;refine aE (RT Tryz.results40 ?_);have an:=nT (l:=l) (S:=S) (f:=g) (i:=i) (out:=W) (by rw[hgd];exact hk);rw[hgd,←q3,←q4]at an;refine bF9 (W:=W'++[⟨eW l[i],i,[],F⟩]) (by simp) (by simp) ⟨by rw[an],by rw[an]⟩
   refine R0 ?_;refine aL ?_;refine dV 77 3 3 1 rfl rfl rfl rfl ?_;refine bB (α:={y:Nat×List Ln×List Int//y.1≤l[i].c.toNat∧RvSt l S g i W y.1 y.2.1 y.2.2}) (fun y=>(fin [(0,.c (.slc (l.map Nd.cv))),(1,.c (.slc (S.map Sp.cv))),(2,.c (.int .i64 i)),(3,.own 0 y.1.2.1.length),(9,.c (.slc ((cJ S).map bC))),(13,.c (.slc ((dL l l[i].c.toNat (i+1)).map iC))),(14,.ptr 77 0),(15,.c (.int .i64 (wantN l[i]:Nat))),(16,.c (.int .i64 y.1.1))],fob [(0,.row 41 4 (y.1.2.1.map Ln.cv)),(77,.box 41 (.agg [.c (.int .i64 (eW l[i])),.c (.int .i64 i),.c .nils,.own 304 y.1.2.2.length])),(304,.row 3 1 (y.1.2.2.map (CV.int .i64)))])) 20000 (fun y=>l[i].c.toNat-y.1.1) ⟨(0,W,[]),I1 _,⟨by simp[cF],by rw[nS],by rw[nS]⟩⟩ (fF) ?_;rintro⟨⟨j,W',F⟩,hj,ab⟩;simp only at hj ab⊢;have q2:=ab.len;have q3:=ab.out;have q4:=ab.fr;have br:=rV ht hi hj;have bh:=uK l S g i W j;rw[←q4,hgd]at bh;refine aC fun K I=>?_;by_cases ae:j<l[i].c.toNat
   ·
    have au:decide ((j:Int)<(l[i].c.toNat:Nat))=true:=decide_eq_true (by omega);refine RS ?_;have F:=aI @A0.{0,0} (aI ai au);refine AU ?_;refine aJ (b:=decide ((F.length:Int)<(wantN l[i]:Nat))) rfl (fun J=>?_) (fun J=>?_)
    ·
     have ao:F.length<wantN l[i]:=by have:=F9 J;omega
     have U:j<(dL l l[i].c.toNat (i+1)).length:=by rw[ai];exact ae
     have af:(dL l l[i].c.toNat (i+1))[j]=cF l j (i+1):=by
      have h1:=lW l l[i].c.toNat (i+1) (j+1) ae;rw[iJ,A5 U,lW l _ _ _ hj]at h1;simpa using h1
     clear J;have aj:=jC ht hi ae;have ca:=iK ht hi j (by omega);have bx:=gL ht aj;have ba:=rV ht hi (j:=j+1) (by omega);rw[dB]at ba;have bg:=aV5 (l:=l) (S:=S) (f:=g) (i:=i) (out:=W) j;rw[←q4]at bg;have bl:F.length+1≤maxLen:=by simp only[maxLen];omega
     have bb:(F.length+1)*8≤140737488355328:=by omega
     refine aG ?_;refine T0 (I _ _ _ ?_);clear I K;refine aC fun K I=>?_;refine aL ?_;refine aC fun K I=>Rg ?_;iterate 6 refine S0 ?_ (e:=fun _ h_=>by simp only[sH,↓sP,sA,tyS,simprocAttr,A1,A4,U,aW U,af,iC,denilL_Nd,jY];exact AX h_)
     refine HS rfl rfl fun K' aa=>?_;simp only[sH,↓sP,sA,tyS,simprocAttr,A1,A4,U,aW U,af,iC,denilL_Nd,jY];refine C3 (xR l ht (cJ S) bf g (cF l j (i+1)) aj (by omega)) ?_;rintro u rfl;refine AX (aa _ _ ?_);clear aa K';refine T2 (I _ _ _ ?_);clear I K;refine aJ (b:=dZ l (cJ S) (cF l j (i+1))) rfl (fun J=>?_) (fun J=>?_)
     ·
      have ah:dZ l (cJ S) (cF l j (i+1))=true:=J;have hP:jM l S g i (j+1) W=(prv l S g (cF l j (i+1)) W',F++[((prv l S g (cF l j (i+1)) W').length:Int)-1]):=by
       rw[fI,pJ,←q3,←q4,B1 ⟨by rw[hgd];exact ao,ah⟩]
      have bd:=zM ht S g (cF l j (i+1)) W' aj;obtain⟨M,hM⟩: ∃M,M=prv l S g (cF l j (i+1)) W':=⟨_,rfl⟩;clear J;refine aC fun K I=>Rg ?_;iterate 7 refine S0 ?_ (e:=fun _ h_=>by simp only[sH,↓sP,sA,tyS,simprocAttr,A1,A4,U,aW U,af,iC,denilL_Nd,denilL_Sp];exact AX h_)
      refine HS rfl rfl fun K' aa=>?_;simp only[sH,↓sP,sA,tyS,simprocAttr,A1,A4,U,aW U,af,iC,denilL_Nd,denilL_Sp];refine dR [0] (ih g (by omega) W' (cF l j (i+1)) aj (by omega) (by omega) ah) rfl ⟨rfl,trivial⟩ (by simp) (by simp) ⟨rfl,rfl,rfl,rfl⟩ (by simp[cV]) (by simp) ?_;rintro r ax ⟨rfl,rfl⟩;rw[dO6,cQ1,←hM];refine AX (aa _ _ ?_);clear aa K';refine S0 ?_ (e:=fun _ h_=>by simp only[sH,↓sP,sA,tyS,simprocAttr,A1,A4,U,aW U,af,iC,denilL_Nd,denilL_Sp];exact AX h_);refine T2 (I _ _ _ ?_);clear I K;have cg:0<M.length:=by
       rw[hM];obtain⟨g',rfl⟩: ∃g',g=g'+1:=⟨g-1,by omega⟩;rw[prv];split<;>simp
      rw[←hM]at bd hP;have bc:IntKind.i64.wrap ((M.length:Int)-1)=(M.length:Int)-1:=B0 _ (by omega);refine Rg ?_;have F:=aI @A0.{0,0} (aI bc (aI bl bb));refine AU ?_;refine T2 (I _ _ _ ?_);clear I K;refine aM (by kernel_rfl) ?_;refine TQ (cW j) ?_;refine⟨⟨(j+1,M,F++[(M.length:Int)-1]),ae,⟨?_,by rw[hP],by rw[hP]⟩⟩,(fG (by simp[C5,A3])),?_⟩
      · show M.length+(i+1)≤W.length+cF l (j+1) (i+1);rw[dB];omega
      show l[i].c.toNat-(j+1)<l[i].c.toNat-j;omega
     have ah:dZ l (cJ S) (cF l j (i+1))=false:=J;clear J;refine aG ?_;refine T0 (I _ _ _ ?_);clear I K;refine aM (by kernel_rfl) ?_;refine TQ (cW j) ?_;refine⟨⟨(j+1,W',F),ae,⟨?_,?_,?_⟩⟩,fF,?_⟩
     · show W'.length+(i+1)≤W.length+cF l (j+1) (i+1);rw[dB];omega
     · rw[fI,pJ,A7 (fun hc=>by rw[ah]at hc;cases hc.2)];exact q3
     · rw[fI,pJ,A7 (fun hc=>by rw[ah]at hc;cases hc.2)];exact q4
     show l[i].c.toNat-(j+1)<l[i].c.toNat-j;omega
    refine aV (T3 ?_);clear I K;have ao:F.length=wantN l[i]:=by have:=G7 J;omega
    have aq:=xT (l:=l) (S:=S) (g:=g) (i:=i) (out:=W) (j:=j) (l[i].c.toNat-j) (by rw[←q4,hgd];exact ao);rw[show j+(l[i].c.toNat-j)=l[i].c.toNat from by omega]at aq;refine key W' F _ _ _ ⟨?_,by rw[aq];exact q3,by rw[aq];exact q4⟩ (fF);rw[kP ht hi];omega
   have au:decide ((j:Int)<(l[i].c.toNat:Nat))=false:=decide_eq_false (by omega);have bm:j=l[i].c.toNat:=by omega
   subst bm;refine RS ?_;have F:=aI @A0.{0,0} (aI ai au);refine AU ?_;refine CF rfl ?_;refine aV (T3 ?_);clear I K;exact key W' F _ _ _ ab (fF)
  refine R0 ?_;refine aJ (b:=(l[i].k==4)) rfl (fun J=>?_) (fun J=>?_)
  ·
   refine DW [(0,[],[]),(1,[],[]),(2,[],[]),(3,[],[0,1]),(4,[],[])] [0,1,0,4,15] ?_;iterate 5 refine W0 ?_
   refine T4 ?_;have h4:l[i].k=4:=by simpa using J
   have h5:1≤l[i].n:=by omega
   exact key 4 l[i].n _ _ _ (by unfold eW;rw[A7 (by omega),A7 (by omega)]) (by unfold wantN;rw[A7 (by omega),A7 (by omega)];omega) (fF)
  refine aG (T3 ?_);have h4:l[i].k≠4:=by simpa using J
  refine key kd w _ _ _ ?_ ?_ (fF)
  ·
   rw[bo];unfold eW;split
   · rw[A7 (by omega)]
   rw[B1 (by omega)]
  rw[hw];unfold wantN;split
  · rw[A7 (by omega)]
  rw[B1 (by omega)]
 refine R0 ?_;refine aJ (b:=(l[i].k==3)) rfl (fun J=>?_) (fun J=>?_)
 ·
  refine aM (by kernel_rfl) ?_;simp only[↓sP,sA,tyS,simprocAttr];have h3:l[i].k=3:=by simpa using J
  exact key 3 1 _ _ _ (by rw[B1 h3]) (by rw[B1 h3];rfl) (fF)
 refine aG (T3 ?_);have h3:l[i].k≠3:=by simpa using J
 exact key 2 (l[i].c.toNat:Nat) _ _ _ (by rw[A7 h3]) (by rw[A7 h3]) (fF)
end Go.Proofs.YthedbjfipmkpiaaGreatDoor
namespace Go.Hl
open Go
theorem aQ0 {w:World}{ρ ρ1:Env}{O:Nat→Prop}(h1:ρ1 0=some (.hdr (.slice none 0 0))): ∀{pre:List CV} {xs:List Value},RepHV w ρ O (pre.map .c++[.c .nils]) xs→RepHV w ρ1 O (pre.map .c++[.own 0 0]) xs
 |[],xs,h=>by
  simp only[F2,J1]at h⊢;rw[bJ]at h⊢;obtain⟨y,U,rfl,I,hz⟩:=h;refine⟨y,U,rfl,?_,by simpa only[RepHV]using hz⟩;have J:Value.isAgg' y=false:=by rw[←I.2];rfl
  have hc:=I.1;rw[cells_single J]at hc;simp only[RepH,RepC,F8,J9]at hc;subst hc;refine dD ?_ rfl rfl;simp only[RepH];exact⟨_,rfl,by simp[Value.oneCell'],fun hd hρ=>by rw[h1]at hρ;cases hρ;exact⟨by simp[hlen],fun _=>rfl⟩⟩
 |v::pre,xs,h=>by
  simp only[B8,J4]at h⊢;rw[bJ]at h⊢;obtain⟨y,U,rfl,I,hz⟩:=h;refine⟨y,U,rfl,⟨?_,I.2⟩,aQ0 h1 hz⟩;have:=I.1;simp only[RepH]at this⊢;exact this
theorem cZ6 {P:Program}{f:FuncId}{pre:List CV}{e:TypeId}{sz:Nat}{R:HV→List HO→Prop}(h:HGe P f (pre.map .c++[.own 0 0]) [.row e sz []] R)(hR: ∀r J,R r J→r.men (· <4)∧J.length≤4∧ ∀o∈J,o.men (· <4)):HGe P f (pre.map .c++[.c .nils]) [] R:=by
 refine⟨h.1,fun w ρ X xs hS hA hX=>?_⟩;have hρ: ∀id,ρ id=none:=fun id=>hS.none id (by simp[lst])
 let ρ1:Env:=fun id=>if id=0 then some (.hdr (.slice none 0 0))else none
 have U:ρ1 0=some (.hdr (.slice none 0 0)):=rfl;have aa:Own ρ=fun _=>False:=by
  funext b;apply propext;exact⟨fun⟨i,L,I,_⟩=>(by rw[hρ i]at I;cases I),fun h=>False.elim h⟩
 have ab:Own ρ1=fun _=>False:=by
  funext b;apply propext;refine⟨fun⟨i,L,I,h2⟩=>?_,fun h=>False.elim h⟩;by_cases e:i=0
  · subst e;rw[U]at I;cases I;cases h2
  · simp only[ρ1,A7 e]at I;cases I
 have hO:Owned ρ1 X=Owned ρ X:=by
  funext b;apply propext;show X b∨Own ρ1 b↔X b∨Own ρ b;rw[aa,ab]
 have ad:RepS w ρ1 X (lst [.row e sz []]):=by
  refine⟨fun i o ho=>?_,fun i hi=>?_,fun i i' L L' b I h2 h3 h4=>?_,fun i L b I h2=>?_⟩
  ·
   match i with
   |0=>cases ho;exact⟨.slice none 0 0,[],U,by simp[RepL],by simp,ownsRow_nil⟩
   |i+1=>simp[lst]at ho
  ·
   match i with
   |0=>simp[lst]at hi
   |i+1=>rfl
  ·
   by_cases e:i=0
   · subst e;rw[U]at I;cases I;cases h3
   · simp only[ρ1,A7 e]at I;cases I
  ·
   by_cases e:i=0
   · subst e;rw[U]at I;cases I;cases h2
   · simp only[ρ1,A7 e]at I;cases I
 refine(h.2 w ρ1 X xs ad (by rw[hO];exact aQ0 U hA) hX).mono fun e' w' ⟨r,ob',ρ',x,e1,⟨J,I,h2,h3⟩,g⟩=>⟨r,ob',ρ',x,e1,⟨J,I,⟨I1 _,by have:=(hR r J h3).2.1;simpa using this⟩,h3⟩,⟨g.v,g.s,(hR r J h3).1,fun id o ho=>?_,?_,?_⟩⟩
 · subst I;obtain⟨_,a2,a3⟩:=hR r J h3;have h5:=bJ3 ho;exact⟨by simp only[C0];omega,a3 _ (T8 ho)⟩
 · have:=g.stay;rw[ab]at this;rw[aa];exact this
 · exact fun id L' hid _=>absurd hid (V0 id)
end Go.Hl
namespace Go.Proofs.YthedbjfipmkpiaaGreatDoor
open Go Go.Hl Go.Pl
theorem cB6 (l:List Nd)(hn: ∀n∈l,n.q.t.length<2^63)(S:List Sp)(hS:S.length<2^40)(hd: ∀x∈S,x.d.length<2^42):fH Tryz.prog 15 [.slc (l.map Nd.cv),.slc (S.map Sp.cv)] (fun u v=>u= .slc ((eL l S).map Ln.cv)∧v= .bool (eV l (cJ S))):=by
 have af:(cJ S).length<2^63:=by unfold cJ;rw[A0];omega
 refine FW Tryz.func15 ?_;refine R0 ?_;refine aC fun K U=>?_;refine RS ?_;have F:=aI @denilL_Sp (aI @denilL_Nd @jY);refine AU ?_;refine SCF (aP9 S hS) ?_;refine SCF (cN5 l hn (cJ S) af) ?_;refine AU ?_;refine aJ (b:=!eV l (cJ S)) rfl (fun hb=>?_) (fun hb=>?_)
 ·
  refine R0 ?_;refine aE (RT Tryz.results15 ?_);have I:eV l (cJ S)=false:=by simpa using hb
  exact aO [] (.slc []) (.bool false) (by simp) ⟨by rw[eL,I];rfl,by rw[I]⟩
 have I:eV l (cJ S)=true:=by simpa using hb
 clear hb;have ae:eJ l=true:=by
  unfold eV at I;rw[B3]at I;exact I.1
 have hv:dZ l (cJ S) 0=true:=by
  unfold eV at I;rw[B3]at I;exact I.2
 have ht:=fN ae;have hlen:=ht.len;have aa:0<l.length:=ht.ne;have aj:=(gL ht aa).2.1;have ad:=(zM ht S l.length 0 [] aa).2;simp only[C0]at ad;have ah:0<(qB l S).length:=by
  obtain⟨g,hg⟩: ∃g,l.length=g+1:=⟨l.length-1,by omega⟩;unfold qB;rw[hg,prv];split<;>simp
 have hG:=cZ6 (P:=Tryz.prog) (pre:=[.slc (l.map Nd.cv),.slc (S.map Sp.cv),.int .i64 0]) (cB5 l ae hn S hS hd l.length [] 0 aa (by omega) (by simp only[C0];omega) hv) (fun r ag h=>by
  obtain⟨rfl,rfl⟩:=h;exact⟨by simp,by simp,fun o ho=>by rw[E5.1 ho];trivial⟩)
 obtain⟨Q,hQ⟩: ∃Q,Q=qB l S:=⟨_,rfl⟩;have ai:prv l S l.length 0 []=Q:=hQ.symm;rw[←hQ]at ah;rw[ai]at ad hG;have ab:IntKind.i64.wrap ((Q.length:Int)-1)=(Q.length:Int)-1:=B0 _ (by omega);refine aG ?_;refine T0 (U _ _ _ ?_);clear U K;refine aC fun K U=>aY (by kernel_rfl) ?_;simp only[sR,simprocAttr];have F:=aI @denilL_Sp @denilL_Nd;iterate 2 refine SGF ?_
 refine yM (g:=none) rfl rfl fun K' J=>?_;simp only[sN,↓hopH.eq_def,sH,↓sP,sA,tyS,simprocAttr,denilL_Sp,denilL_Nd];refine dR [] hG rfl trivial (by simp) (by simp) ⟨rfl,rfl,rfl,rfl⟩ (by simp[cV]) (by simp) ?_;rintro r ag ⟨rfl,rfl⟩;rw[show∀(n:Nat) (ob:Ob),iL (sub [] n) ob 0 (osL Q)=upd ob n (some (.row 41 4 (Q.map Ln.cv)))from fun _ _=>rfl,show∀n:Nat,HV.ren (sub [] n) (.own 0 Q.length)= .own n Q.length from fun _=>rfl];refine AX (J _ _ ?_);clear J K';refine SGF ?_;refine T2 (U _ _ _ ?_);clear U K;refine aC fun K U=>aY (by kernel_rfl) ?_;simp only[sR,simprocAttr];have F:=aI @A0.{0,0} ab;iterate 4 refine SGF ?_
 refine cN (g:=none) 60 rfl rfl fun K' J=>?_;simp only[gH,kC,sH,↓sP,sA,tyS,simprocAttr,A0,ab];repeat refine AI ?_
 refine cO (by first|rfl|simp) ?_;try simp only[sH,↓sP,sA,tyS,simprocAttr,A0,ab]
 refine AX (J _ _ ?_);clear J K';iterate 5 refine SGF ?_
 refine T2 (U _ _ _ ?_);clear U K;refine aE (RT Tryz.results15 ?_);refine aO [36] (.slc ((eL l S).map Ln.cv)) (.bool true) ?_ ⟨rfl,by rw[I]⟩;rw[eL,B1 I,←hQ];simp[Ln.cv]
end Go.Proofs.YthedbjfipmkpiaaGreatDoor
