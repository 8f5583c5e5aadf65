/- Part of a proof: walks of functions of the program, by contracts, and the rules they use. By an AI agent. -/
import Derived.Test.YtlldglbooaefhaaGreatDoorHzU1
import Derived.Test.YtlldglbooaefhaaGreatDoorHzUf
import Derived.Test.YtlldglbooaefhaaGreatDoorHlTlaw
import Derived.Test.YtlldglbooaefhaaGreatDoorPl03d
import Derived.Test.YtlldglbooaefhaaGreatDoorPl28k
import Derived.Test.YtlldglbooaefhaaGreatDoorPl11v
import Derived.Test.YtlldglbooaefhaaGreatDoorHlIt
set_option linter.unusedSimpArgs false
set_option linter.unusedVariables false
set_option linter.defProp false
namespace Go.Proofs.YtlldglbooaefhaaGreatDoor
open Go Go.Hl Go.Pl
set_option maxRecDepth 10000
set_option maxHeartbeats 16000000
theorem bH0 (N n:Nat)(ob:Ob)(e:TypeId)(sz:Nat)(v:CV)(L:List CV)(t:TypeId):jP (sub [0,N] n) ob 0 [.box t (.c v),.row e sz L]=upd (upd ob 0 (some (.box t (.c v)))) N (some (.row e sz L)):=rfl
theorem bS2 (N n m:Nat):HV.ren (sub [0,N] n) (.own 1 m)= .own N m:=rfl
theorem bS3 (L:List Int)(a:Nat):lst [.box 83 (.c (tp L a))]=fob [(0,.box 83 (.c (tp L a)))]:=by
 funext i
 match i with
 |0=>rfl
 |i+1=>simp[lst,fob,upd]
abbrev MkR (L:List Int)(a d:Nat)(r:HV)(os':List HO):Prop:=
 ∃(t:List Nd) (a':Nat),r= .own 1 t.length∧os'=[.box 83 (.c (tp L a')),.row 40 7 (t.map Nd.cv)]∧Made d 0 t∧a'≤a+aB d
theorem sY {ob:Ob}{L:List Int}{a d m a':Nat}{t:List Nd}{X:List CV}(N:Nat)(hN:1≤N)(h0:ob 0=some (.box 83 (.c (tp L a'))))(h1:ob N=some (.row 40 7 X))(hm:m=t.length)(hX:X=t.map Nd.cv)(hM:Made d 0 t)(ha:a'≤a+aB d):
  mK 1 (.own N m) ob (fun r ob'=> ∃os',ob'=lst os'∧(1≤os'.length∧os'.length≤1+4)∧ ∃(t:List Nd) (a':Nat),r= .own 1 t.length∧os'=[.box 83 (.c (tp L a')),.row 40 7 (t.map Nd.cv)]∧Made d 0 t∧a'≤a+aB d):=by
 subst hm hX;have e1:tau 1 [N] 1=N:=rfl;exact eD [] [N] (.own 1 t.length) [.box 83 (.c (tp L a')),.row 40 7 (t.map Nd.cv)] (by simp[HV.close,HV.norm,HV.toC,HV.ren,e1]) (by simp[HV.men]) ⟨⟨by simp[HO.men,HV.men],by simp,_,h0,by simp[HO.close,HV.close,HO.ren,HV.ren,HV.norm,fB,HV.toC,tp,CV.denil,CV.denilL,denilL_int]⟩,⟨by simp[HO.men],by simp,_,h1,rfl⟩,trivial⟩ rfl (by simp) (by simpa using hN) (by simp) ⟨t,a',rfl,rfl,hM,ha⟩
theorem bZ7 (d:Nat)(L:List Int)(a:Nat)(hd:d≤3)(ha:a+aB d<2^38):
  HGe Tryz.prog 50 [.ptr 0 0,.c .nils,.c (.int .i64 d)] [.box 83 (.c (tp L a))] (MkR L a d):=by
 refine bT (args:=[.ptr 0 0,.c .nils,.c (.int .i64 d)]) Tryz.func50 rfl (by kernel_rfl) (eS rfl (by simp[eH,HO.men,HV.men,HV.menL]) (by simp[HV.menL,HV.men])) (Nat.le_of_ble_eq_true rfl) ?_;show Hw _ _ 1 _ _ _ (lst _) 1;rw[bS3];have hab:=aO2 d hd;have hw1: ∀x:Int,0≤x→x<100→IntKind.i64.wrap (1+x)=1+x:=fun x h1 h2=>IntWalk.i64_in _ (by omega);have hw2: ∀x:Int,0≤x→x<100→IntKind.i64.wrap (2+x)=2+x:=fun x h1 h2=>IntWalk.i64_in _ (by omega);refine R0 ?_;refine aC fun K hK=>?_;refine aC fun K hK=>?_;have key: ∀(b:Bool) (a1:Nat) fr ob nx,(b=false→0<d)→a1≤a+1→Fits 1 fr ob (fin [(0,.ptr 0 0),(1,.c .nils),(2,.c (.int .i64 d)),(20,.c (.bool b))]) (fob [(0,.box 83 (.c (tp L a1)))]) 200→K fr ob nx:=by
  rintro b a1 fr ob nx hbf ha1 hf;refine hK _ _ _ (bF hf ?_);clear hf hK K;refine aG (b:=b) rfl (fun hb=>?_) (fun hb=>?_)
  ·
   clear hbf;refine aC fun K hK=>Rg ?_;iterate 2 refine S0 ?_
   refine HS rfl rfl fun K' hK'=>T5 ?_;refine bJ (args:=[]) (bA4 L a1 (by omega)) rfl (by simp) ⟨rfl,rfl,rfl,rfl⟩ ?_;rintro u v' ⟨q,a2,rfl,rfl,s1,s2⟩;refine AX (hK' _ _ ?_);clear hK' K';iterate 4 refine S0 ?_
   refine T2 (hK _ _ _ ?_);clear hK K;refine aF (RT Tryz.results50 ?_);have:=cC2 d hd;exact sY 220 (by decide) (t:=[⟨1,0,0,q⟩]) rfl rfl (by simp) (by simp) (zX s2) (by omega)
  have hd0:=hbf hb;clear hbf hb;refine aK ?_;refine T0 (hK _ _ _ ?_);clear hK K;refine aC fun K hK=>Rg ?_;refine S0 ?_;refine HS rfl rfl fun K' hK'=>T5 ?_;refine bJ (args:=[_]) (dP L a1 3 (by omega) (by omega)) rfl (by simp) ⟨rfl,rfl,rfl,rfl⟩ ?_;rintro u v' ⟨x,a2,rfl,rfl,h1,h2,h3,h4⟩;refine AX (hK' _ _ ?_);clear hK' K';iterate 2 refine S0 ?_
  refine HS rfl rfl fun K' hK'=>T5 ?_;refine bJ (args:=[_]) (dP L a2 3 (by omega) (by omega)) rfl (by simp) ⟨rfl,rfl,rfl,rfl⟩ ?_;rintro u v' ⟨y,a3,rfl,rfl,g1,g2,g3,g4⟩;refine AX (hK' _ _ ?_);clear hK' K';iterate 4 refine S0 ?_
  refine T2 (hK _ _ _ ?_);clear hK K;refine aC fun K hK=>?_;have key2: ∀(k c N:Int) (a4:Nat) fr ob nx,(1≤c∧c≤3)→k≠1→bR ⟨k,N,c,rq0⟩=true→a4≤a+4→Fits 1 fr ob (fin [(0,.ptr 0 0),(1,.c .nils),(2,.c (.int .i64 d)),(7,.ptr 228 0)]) (fob [(0,.box 83 (.c (tp L a4))),(228,.box 40 (.c (Nd.cv ⟨k,N,c,rq0⟩)))]) 700→K fr ob nx:=by
   rintro k c N a4 fr ob nx ⟨hc1,hc3⟩ hk1 hnode ha4 hf;refine hK _ _ _ (bF hf ?_);clear hf hK K;refine aC fun K hK=>Rg ?_;iterate 5 refine S0 ?_
   refine T2 (hK _ _ _ ?_);clear hK K;refine aC fun K hK=>?_;refine R0 ?_;refine aM ?_;refine bI (α:={w:List Nd×Nat×Nat//MadeK (d-1) 0 w.2.1 w.1∧w.2.2≤a+4+w.2.1*aB (d-1)∧(w.2.1:Int)≤c∧w.1.length≤60*w.2.1}) (fun w=>(fin [(0,.ptr 0 0),(1,.own 712 (1+w.1.1.length)),(2,.c (.int .i64 d)),(7,.ptr 228 0),(8,.c (.int .i64 w.1.2.1))],fob [(0,.box 83 (.c (tp L w.1.2.2))),(712,.row 40 7 ((⟨k,N,c,rq0⟩::w.1.1:List Nd).map Nd.cv)),(228,.box 40 (.c (Nd.cv ⟨k,N,c,rq0⟩)))])) 2000 (fun w=>10-w.1.2.1) ⟨([],0,a4),MadeK.zero _ _,by simp only;omega,by simp only;omega,by simp⟩ (fF) ?_;rintro⟨⟨ts,j,a5⟩,i1,i2,i3,i4⟩;simp only at i1 i2 i3 i4;refine aC fun K hK=>?_;refine aC fun K hK=>Rg ?_;iterate 4 refine S0 ?_
   refine T2 (hK _ _ _ ?_);clear hK K;refine aG (b:=decide ((j:Int)<c)) rfl (fun hb=>?_) (fun hb=>?_)
   ·
    have hjc:(j:Int)<c:=by simpa using hb
    clear hb;obtain⟨M,hM⟩: ∃M:List Nd,M=⟨k,N,c,rq0⟩::ts:=⟨_,rfl⟩;have hMl:1+ts.length=M.length:=by rw[hM];simp;omega
    have hMm:Nd.cv ⟨k,N,c,rq0⟩::List.map Nd.cv ts=List.map Nd.cv M:=by rw[hM];rfl
    rw[hMm,hMl];have hwd:IntKind.i64.wrap ((d:Int)-1)=((d-1:Nat):Int):=by rw[IntWalk.i64_in _ (by omega)];omega
    have hab1:=aO2 (d-1) (by omega);have hj3:j≤2:=by omega
    have hja:j*aB (d-1)≤2*aB (d-1):=Nat.mul_le_mul_right _ hj3;have hdd:aB d=8+3*aB (d-1):=by
     obtain⟨e,rfl⟩: ∃e,d=e+1:=⟨d-1,by omega⟩;rfl
    refine aK ?_;refine T0 (hK _ _ _ ?_);clear hK K;refine aC fun K hK=>?_;refine aM ?_;refine Rg ?_;have F:=hwd;iterate 4 refine SF ?_
    refine HS rfl rfl fun K' hK'=>T6 ?_;refine eZ [0,712] (cF3 (d-1) L a5 M (by omega) (by omega) (by omega) (by omega)) rfl ⟨rfl,rfl,trivial⟩ (by simp) (by simp) ⟨rfl,rfl,rfl,rfl⟩ (by simp[eH,HO.men,HV.men,HV.menL]) (by simp[HV.menL,HV.men]) ?_;rintro r os' ⟨t,a6,rfl,rfl,ht,ha6⟩;rw[bH0,bS2];refine AX (hK' _ _ ?_);clear hK' K';refine SF ?_;refine T2 (hK _ _ _ ?_);clear hK K;refine aN (by kernel_rfl) ?_;refine TQ (IntWalk.i64_in ((j:Int)+1) (by omega)) ?_;have htl:=aO3 ht (by omega);have hnx:=i1.next (t:=t) (by rw[Nat.zero_add,hMl];exact ht);refine⟨⟨(ts++t,j+1,a6),hnx,by simp only[Nat.add_mul,Nat.one_mul];omega,by simp only;omega,by simp only[List.length_append];omega⟩,?_,?_⟩
    ·
     have e1:Nd.cv ⟨k,N,c,rq0⟩::List.map Nd.cv (ts++t)=List.map Nd.cv (M++t):=by rw[hM];simp
     have e2:(M++t).length=1+(ts++t).length:=by rw[hM];simp;omega
     simp only[];rw[e1,←e2];exact fF
    show 10-(j+1)<10-j;omega
   have hjc:(j:Int)=c:=by simp at hb;omega
   have hj3:j≤3:=by omega
   have hja:j*aB (d-1)≤3*aB (d-1):=Nat.mul_le_mul_right _ hj3;obtain⟨d',rfl⟩: ∃d',d=d'+1:=⟨d-1,by omega⟩;simp only[Nat.add_sub_cancel]at i1 i2 hja;have hm:=i1.fin (x:=⟨k,N,c,rq0⟩) (by omega) hnode hk1 hjc.symm (by omega) (by omega);refine bD (T3 ?_);clear hK K;refine AX (hK _ _ _ ?_);clear hK K;refine R0 ?_;refine aF (RT Tryz.results50 ?_);exact sY 712 (by decide) (t:=⟨k,N,c,rq0⟩::ts) rfl rfl (by simp;omega) rfl hm (by simp only[aB];omega)
  have hx3:=h4 (by omega);have hy3:=g4 (by omega);obtain⟨k,hk⟩: ∃k,k=IntKind.i64.wrap (2+x):=⟨_,rfl⟩;obtain⟨c,hc⟩: ∃c,c=IntKind.i64.wrap (1+y):=⟨_,rfl⟩;have hkx:k=2+x:=by rw[hk,hw2 x h2 (by omega)]
  have hcy:c=1+y:=by rw[hc,hw1 y g2 (by omega)]
  rw[←hk,←hc];clear hk hc h3 h4 g3 g4;refine R0 ?_;refine aG (b:=_) rfl (fun hb=>?_) (fun hb=>?_)
  ·
   refine Rg ?_;iterate 3 refine S0 ?_
   refine HS rfl rfl fun K' hK'=>T5 ?_;refine bJ (args:=[_]) (dP L a3 c (by omega) (by omega)) rfl (by simp) ⟨rfl,rfl,rfl,rfl⟩ ?_;rintro u v' ⟨z,a4,rfl,rfl,f1,f2,f3,f4⟩;refine AX (hK' _ _ ?_);clear hK' K';iterate 3 refine S0 ?_
   refine T4 ?_;have f5:=f4 (by omega);have hk4:k=4:=by simpa using hb
   exact key2 k c (IntKind.i64.wrap (1+z)) a4 _ _ _ ⟨by omega,by omega⟩ (by omega) (by rw[hw1 z f2 (by omega),bR,if_neg (by simp only;omega),if_neg (by simp only;omega),if_pos hk4];simp[inB,fI];omega) (by omega) (aL (by omega) (by simp[aS,fin_at,finA_at,upd_at,HV.men,HV.menL,HV.norm,HV.toC,HV.toCL,Nd.cv,rq0]) (by simp[aT,fob_at,upd_at,none0_at,bL,HO.men,HV.men,HV.menL,HV.norm,HV.toC,HV.toCL,Nd.cv,rq0]))
  refine aK (T3 ?_);have hk4: ¬k=4:=by simpa using hb
  exact key2 k c 0 a3 _ _ _ ⟨by omega,by omega⟩ (by omega) (by rw[bR,if_neg (by simp only;omega),if_pos (by simp only;omega)];simp[inB,fI];omega) (by omega) (aL (by omega) (by simp[aS,fin_at,finA_at,upd_at,HV.men,HV.menL,HV.norm,HV.toC,HV.toCL,Nd.cv,rq0]) (by simp[aT,fob_at,upd_at,none0_at,bL,HO.men,HV.men,HV.menL,HV.norm,HV.toC,HV.toCL,Nd.cv,rq0]))
 refine Rg ?_;iterate 3 refine S0 ?_
 refine aE 10 rfl (fun h1_10=>?_) (fun h1_10=>?_)
 ·
  have F:=h1_10;iterate 9 refine SF ?_
  refine T4 ?_;exact key true a _ _ _ (fun h=>by cases h) (by omega) (fF)
 have F:=h1_10;refine SF ?_;refine bE (g:=some (11,false)) rfl rfl fun K' hK'=>T6 ?_;refine bJ (args:=[_]) (dP L a 3 (by omega) (by omega)) rfl (by simp) ⟨rfl,rfl,rfl,rfl⟩ ?_;rintro u v' ⟨x,a1,rfl,rfl,h1,h2,h3,h4⟩;refine AX (hK' _ _ ?_);clear hK' K';iterate 3 refine SF ?_
 refine aE 14 rfl (fun h1_14=>?_) (fun h1_14=>?_)
 ·
  have F:=aI h1_10 h1_14;iterate 4 refine SF ?_
  refine T4 ?_;exact key true a1 _ _ _ (fun h=>by cases h) h1 (fF)
 have F:=aI h1_10 h1_14;refine SF ?_;refine bE (g:=some (16,false)) rfl rfl fun K' hK'=>T6 ?_;obtain⟨z,hz⟩: ∃z:Int,z=0:=⟨_,rfl⟩;rw[←hz];refine AX (hK' _ _ ?_);clear hK' K';iterate 2 refine SF ?_
 refine aE 19 rfl (fun h1_19=>?_) (fun h1_19=>?_)
 · simp only[h1_19];refine T4 ?_;exact key true a1 _ _ _ (fun h=>by cases h) h1 (fF)
 simp only[h1_19];refine T4 ?_;exact key false a1 _ _ _ (fun _=>(by simp at h1_10;omega)) h1 (fF)
theorem aG1 (n:Nat)(ob:Ob)(e:TypeId)(sz:Nat)(v:CV)(L:List CV)(t:TypeId):jP (sub [0] n) ob 0 [.box t (.c v),.row e sz L]=upd (upd ob 0 (some (.box t (.c v)))) n (some (.row e sz L)):=rfl
theorem aU6 (n m:Nat):HV.ren (sub [0] n) (.own 1 m)= .own n m:=rfl
theorem aO5 (L:List Int)(a:Nat)(ha:a+aB 3<2^38):HGe Tryz.prog 23 [.ptr 0 0] [.box 83 (.c (tp L a))] (MkR L a 3):=by
 refine bT (args:=[.ptr 0 0]) Tryz.func23 rfl (by kernel_rfl) (eS rfl (by simp[eH,HO.men,HV.men,HV.menL]) (by simp[HV.menL,HV.men])) (Nat.le_of_ble_eq_true rfl) ?_;show Hw _ _ 1 _ _ _ (lst _) 1;rw[bS3];refine R0 ?_;refine aC fun K hK=>bA (by kernel_rfl) ?_;simp only[sR,simprocAttr];refine SG0 ?_;refine tN (g:=none) rfl rfl fun K' hK'=>?_;simp only[sN,↓hopH.eq_def,sH,↓sP,sA,tyS,simprocAttr];refine eZ [0] (bZ7 3 L a (by decide) ha) rfl ⟨rfl,trivial⟩ (by simp) (by simp) ⟨rfl,rfl,rfl,rfl⟩ (by simp[eH,HO.men,HV.men,HV.menL]) (by simp[HV.menL,HV.men]) ?_;rintro r os' ⟨t,a',rfl,rfl,ht,ha'⟩;rw[aG1,aU6];refine AX (hK' _ _ ?_);clear hK' K';refine SG0 ?_;refine T2 (hK _ _ _ ?_);clear hK K;refine aF (RT Tryz.results23 ?_);exact sY 9 (by decide) (t:=t) rfl rfl rfl rfl ht ha'
end Go.Proofs.YtlldglbooaefhaaGreatDoor
namespace Go.Pl
open Go Go.Hl
variable {t:List Nd}
theorem bZ8 (h:Made 3 0 t):t.length≤40:=by
 have key: ∀p∈pos 3 0,p.1≤40:=by decide+kernel
 exact key _ h.pos
def rN (n:Nat):aH:=[114,UInt8.ofNat (48+n)]
def dfT :List Nd:=[⟨1,0,0,⟨1,1,0,[]⟩⟩]
def pkA :List aH:=[[112,114,111,100],[116,101,115,116],[42],[42,42]]
def pkB :List aH:=[[119,101,98],[42],[42,42]]
structure MadeR (r:Pr):Prop where
 ok:iL r=true
 b:r.b.length≤80
 c:r.c.length≤80
 t:r.t.length≤40
variable {n:Nat}
theorem aO6 {b c:aH}{g:Int}(hn:n=1∨n=2)(hb:b∈pkA)(hc:c∈pkB)(hg:0≤g∧g<20)(ht:t=dfT∨Made 3 0 t):MadeR ⟨rN n,b,c,g,t⟩:=by
 have k1: ∀b∈pkA,(eP b).isSome=true∧b.length≤80:=by decide+kernel
 have k2: ∀b∈pkB,(eP b).isSome=true∧b.length≤80:=by decide+kernel
 have k3:dG (rN n)=true:=by rcases hn with rfl|rfl<;>decide+kernel
 have k4:inB g 0 sC=true:=by rw[fZ,mC];omega
 have k5:dK t=true∧t.length≤40:=by
  rcases ht with rfl|ht
  · exact⟨by decide,by decide⟩
  · grind[aM4,bY0,bZ8]
 exact⟨by grind[iL,Bool.and_self],(k1 b hb).2,(k2 c hc).2,k5.2⟩
structure MadeRs (n:Nat)(rs:List Pr):Prop where
 two:n+rs.length≤2
 one:1≤n+rs.length
 ok: ∀r∈rs,MadeR r
 nm: ∀r∈rs,∃j,n<j∧j≤2∧r.a=rN j
 ap:gK rs=true
theorem MadeRs.zero (h1:1≤n)(h2:n≤2):MadeRs n []:=⟨by grind,by grind,by simp,by simp,rfl⟩
variable {rs:List Pr}
theorem MadeRs.next (h:MadeRs (n+1) rs){r:Pr}(hr:MadeR r)(ha:r.a=rN (n+1)):MadeRs n (rs++[r]):=by
 have h1:=h.two;refine⟨by grind,by grind,fun x hx=>?_,fun x hx=>?_,?_⟩
 ·
  rcases List.mem_append.1 hx with hx|hx
  · exact h.ok x hx
  grind
 ·
  rcases List.mem_append.1 hx with hx|hx
  · obtain⟨j,h2,h3,h4⟩:=h.nm x hx;grind
  grind
 ·
  rw[nU,h.ap,Bool.true_and,Bool.not_eq_true',←Bool.not_eq_true,List.contains_iff_mem];intro hm;obtain⟨x,hx,he⟩:=List.mem_map.1 hm;obtain⟨j,h2,h3,h4⟩:=h.nm x hx;rw[h4,ha]at he;have hj:j=2:=by omega
  have hn:n=0:=by omega
  subst hj hn
  revert he
  decide
theorem MadeRs.fin (h:MadeRs 0 rs){v:Int}(h1:1≤v)(h2:v≤1099511627776):bP0 ⟨[112],v,rs⟩:=by
 have h3:=h.two;have k:dG [112]=true:=by decide
 refine⟨?_,by grind,fun r hr=>⟨(h.ok r hr).b,(h.ok r hr).c,(h.ok r hr).t⟩⟩;have k1:inB v 1 sC=true:=by rw[fZ,mC];exact⟨h1,h2⟩
 have k2:decide (rs.length≤16)=true:=by simp;omega
 have k3:rs.all iL=true:=List.all_eq_true.2 fun r hr=>(h.ok r hr).ok;simp only[eU,k,k1,k2,k3,h.ap,Bool.and_self]
theorem bS4 {q:Rq}(h:dR q=true):q.t.length≤64:=by
 have hn:dG q.t=true→q.t.length≤64:=fun h=>(wU h).2;have h0:q.t=[]→q.t.length≤64:=fun h=>by grind
 unfold dR at h;grind
theorem bH1 {n:Nd}(h:bR n=true):n.q.t.length≤64:=by
 have h0:n.q=rq0→n.q.t.length≤64:=fun h=>by rw[h];decide
 have h1:dR n.q=true→n.q.t.length≤64:=bS4;unfold bR at h
 repeat' split at h
 all_goals simp_all[Bool.and_eq_true,vS,beq_iff_eq]
theorem bH2 (h:IsTree t): ∀n∈t,n.q.t.length<2^63:=fun n hn=>by have:=bH1 (h.node n hn);omega
theorem bZ9 {p:Po}(h:eU p=true):PoSz p:=by
 obtain⟨_,h2,h3,h4⟩:=uO h;refine⟨by grind[wU],by omega,fun r hr=>?_,fun r hr=>bH2 (lJ (h4 r hr)).2.1⟩;have:=(wU (lJ (h4 r hr)).2.2.1).2;omega
theorem MadeRs.sz (h:MadeRs 0 rs)(v:Int):PoSz ⟨[112],v,rs⟩:=by
 have:=bZ9 (h.fin (v:=1) (by omega) (by omega)).1;exact⟨this.n,this.r,this.a,this.t⟩
end Go.Pl
namespace Go.Proofs.YtlldglbooaefhaaGreatDoor
open Go Go.Hl Go.Pl
set_option maxRecDepth 10000
set_option maxHeartbeats 16000000
theorem cA0 {n:Nat}(h:n≤2):IntKind.i64.wrap (48+(n:Int))=((48+n:Nat):Int)∧IntKind.u8.wrap (((48+n:Nat):Int))=((UInt8.ofNat (48+n)).toNat:Int):=by
 match n,h with
 |0,_=>decide
 |1,_=>decide
 |2,_=>decide
theorem cA1 (s:aH):gT Tryz.prog 107 [.str s] (fun u v=>u= .int .i64 ((bN s).getD 0)∧v= .bool (bN s).isSome):=by
 refine FW Tryz.func107 ?_;refine R0 ?_;refine aC fun K hK=>?_;have key: ∀fr ob nx,gV s=false→Fits 0 fr ob (fin [(0,.c (.str s))]) (fob []) 100→K fr ob nx:=by
  intro fr ob nx hbad hf;refine hK _ _ _ (bF hf ?_);clear hf hK K;have hlen:s.length≤13:=by
   simp only[gV,Bool.or_eq_false_iff,decide_eq_false_iff_not]at hbad;omega
  refine R0 ?_;refine aC fun K hK=>?_;refine R0 ?_;refine aM ?_;refine bI (α:={y:Nat×Nat//DgSt s y.1 y.2}) (fun y=>(fin [(0,.c (.str s)),(4,.c (.int .i64 y.1.2)),(5,.c (.int .i64 y.1.1))],fob [])) 200 (fun y=>s.length-y.1.1) ⟨(0,0),DgSt.init s⟩ (fF) ?_;rintro⟨⟨i,n⟩,hst⟩;simp only at hst;have hi:=hst.1;have hnl:=hst.lt hlen;refine aC fun K hK=>?_;refine aC fun K hK=>Rg ?_;iterate 4 refine S0 ?_
  refine T2 (hK _ _ _ ?_);clear hK K;refine aG (b:=decide ((i:Int)<s.length)) rfl (fun hb=>?_) (fun hb=>?_)
  ·
   have hlt:i<s.length:=by simpa using hb
   clear hb;have hgd:s.getD i 0=s[i]:=by simp[hlt]
   have hdi:=bM4 s[i];refine aK ?_;refine T0 (hK _ _ _ ?_);clear hK K;refine aC fun K hK=>?_;refine aM ?_;refine aC fun K hK=>?_;have key2: ∀fr ob nx,nP s[i]=true→Fits 0 fr ob (fin [(0,.c (.str s)),(4,.c (.int .i64 n)),(5,.c (.int .i64 i))]) (fob []) 300→K fr ob nx:=by
    intro fr ob nx hd hf;refine hK _ _ _ (bF hf ?_);clear hf hK K;have hd2:48≤s[i].toNat∧s[i].toNat≤57:=by simpa[nP]using hd
    have e1:IntKind.i64.wrap (10*(n:Int))=((10*n:Nat):Int):=by rw[IntWalk.i64_in _ (by omega)];omega
    have e2:IntKind.u8.wrap ((s[i].toNat:Int)-48)=((s[i].toNat-48:Nat):Int):=by rw[IntWalk.u8_in _ (by omega)];omega
    have e3:IntKind.i64.wrap ((s[i].toNat-48:Nat):Int)=((s[i].toNat-48:Nat):Int):=by rw[IntWalk.i64_in _ (by omega)]
    have e4:IntKind.i64.wrap (((10*n:Nat):Int)+((s[i].toNat-48:Nat):Int))=((10*n+(s[i].toNat-48):Nat):Int):=by rw[IntWalk.i64_in _ (by omega)];omega
    refine Rg ?_;iterate 9 refine S0 ?_ (e:=fun _ h_=>by simp only[sH,↓sP,sA,tyS,simprocAttr,Int.natCast_nonneg,Int.ofNat_lt,hlt,hgd,e1,e2,e3,e4];exact AX h_)
    refine T2 (hK _ _ _ ?_);clear hK K;refine aN (by kernel_rfl) ?_;refine TQ (jB i) ?_;refine⟨⟨(i+1,10*n+(s[i].toNat-48)),hst.next hlt hd⟩,fF,?_⟩;show s.length-(i+1)<s.length-i;omega
   refine aC fun K hK=>Rg ?_;iterate 5 refine S0 ?_ (e:=fun _ h_=>by simp only[sH,↓sP,sA,tyS,simprocAttr,Int.natCast_nonneg,Int.ofNat_lt,hlt,hgd];exact AX h_)
   refine aE 33 rfl (fun h7_33=>?_) (fun h7_33=>?_)
   ·
    iterate 5 refine S0 ?_ (e:=fun _ h_=>by simp only[sH,↓sP,sA,tyS,simprocAttr,Int.natCast_nonneg,Int.ofNat_lt,hlt,hgd,h7_33];exact AX h_)
    refine T2 (hK _ _ _ ?_);clear hK K;refine CT rfl ?_;refine R0 ?_;refine aF (RT Tryz.results107 ?_);have hd:nP s[i]=false:=by simp only[nP,Bool.and_eq_false_iff,decide_eq_false_iff_not];simp at h7_33;omega
    have hn:=zN (hst.bad hlt hd);exact aX [] (.int .i64 0) (.bool false) rfl ⟨by rw[hn];rfl,by rw[hn];rfl⟩
   iterate 5 refine S0 ?_ (e:=fun _ h_=>by simp only[sH,↓sP,sA,tyS,simprocAttr,Int.natCast_nonneg,Int.ofNat_lt,hlt,hgd,h7_33];exact AX h_)
   refine aE 38 rfl (fun h7_38=>?_) (fun h7_38=>?_)
   ·
    simp only[h7_38];refine T2 (hK _ _ _ ?_);clear hK K;refine CT rfl ?_;refine R0 ?_;refine aF (RT Tryz.results107 ?_);have hd:nP s[i]=false:=by simp only[nP,Bool.and_eq_false_iff,decide_eq_false_iff_not];simp at h7_38;omega
    have hn:=zN (hst.bad hlt hd);exact aX [] (.int .i64 0) (.bool false) rfl ⟨by rw[hn];rfl,by rw[hn];rfl⟩
   simp only[h7_38];refine T2 (hK _ _ _ ?_);clear hK K;refine CF rfl ?_;refine aK (T3 ?_);exact key2 _ _ _ (by simp only[nP,Bool.and_eq_true,decide_eq_true_eq];simp at h7_33 h7_38;omega) (fF)
  refine bD (T3 ?_);clear hK K;refine AX (hK _ _ _ ?_);clear hK K;refine aC fun K hK=>?_;have hfin:=hst.fin (by simp at hb;omega);clear hb;refine R0 ?_;refine aG (b:=decide ((1099511627776:Int)<(n:Int))) rfl (fun hb=>?_) (fun hb=>?_)
  · refine R0 ?_;refine aF (RT Tryz.results107 ?_);have hn:=bM3 hfin (by simp at hb;omega);exact aX [] (.int .i64 0) (.bool false) rfl ⟨by rw[hn];rfl,by rw[hn];rfl⟩
  refine aK ?_;refine T0 (hK _ _ _ ?_);clear hK K;refine R0 ?_;refine aF (RT Tryz.results107 ?_);have hn:=aY3 hbad hfin (by simp at hb;omega);exact aX [] (.int .i64 n) (.bool true) rfl ⟨by rw[hn];rfl,by rw[hn];rfl⟩
 refine aC fun K hK=>Rg ?_;iterate 4 refine S0 ?_
 refine aE 8 rfl (fun h1_8=>?_) (fun h1_8=>?_)
 ·
  have F:=h1_8;iterate 14 refine SF ?_
  refine T2 (hK _ _ _ ?_);clear hK K;refine CT rfl ?_;refine R0 ?_;refine aF (RT Tryz.results107 ?_);have hn:bN s=none:=wK (by simp only[gV,Bool.or_eq_true,decide_eq_true_eq];simp at h1_8;left;left;omega);exact aX [] (.int .i64 0) (.bool false) rfl ⟨by rw[hn];rfl,by rw[hn];rfl⟩
 have F:=h1_8;iterate 5 refine SF ?_
 refine aE 12 rfl (fun h1_12=>?_) (fun h1_12=>?_)
 ·
  have F:=aI h1_8 h1_12;iterate 9 refine SF ?_
  refine T2 (hK _ _ _ ?_);clear hK K;refine CT rfl ?_;refine R0 ?_;refine aF (RT Tryz.results107 ?_);have hn:bN s=none:=wK (by simp only[gV,Bool.or_eq_true,decide_eq_true_eq];simp at h1_12;left;right;omega);exact aX [] (.int .i64 0) (.bool false) rfl ⟨by rw[hn];rfl,by rw[hn];rfl⟩
 have F:=aI h1_8 h1_12;iterate 4 refine SF ?_
 refine aE 17 rfl (fun h1_17=>?_) (fun h1_17=>?_)
 ·
  have F:=aI h1_8 (aI h1_12 h1_17);refine SF ?_;refine bE (g:=some (18,true)) rfl rfl fun K' hK'=>T6 ?_;refine⟨by simp at h1_17;omega,?_⟩;refine AX (hK' _ _ ?_);clear hK' K';iterate 3 refine SF ?_
  refine aE 21 rfl (fun h1_21=>?_) (fun h1_21=>?_)
  ·
   simp only[h1_21];refine T2 (hK _ _ _ ?_);clear hK K;refine CT rfl ?_;refine R0 ?_;refine aF (RT Tryz.results107 ?_);have hn:bN s=none:=wK (by
    simp only[gV,Bool.or_eq_true,Bool.and_eq_true,decide_eq_true_eq,beq_iff_eq];right;refine⟨by simp at h1_17;omega,UInt8.toNat_inj.1 ?_⟩;simp only[beq_iff_eq]at h1_21;show(s.getD 0 0).toNat=48;omega)
   exact aX [] (.int .i64 0) (.bool false) rfl ⟨by rw[hn];rfl,by rw[hn];rfl⟩
  simp only[h1_21];refine T2 (hK _ _ _ ?_);clear hK K;refine CF rfl ?_;refine aK (T3 ?_);refine key _ _ _ ?_ (fF);simp only[gV,Bool.or_eq_false_iff,Bool.and_eq_false_iff,decide_eq_false_iff_not,beq_eq_false_iff_ne,ne_eq];simp only[decide_eq_false_iff_not,decide_eq_true_eq]at h1_8 h1_12;refine⟨⟨by omega,by omega⟩,?_⟩;first
   |(right;intro h0;rw[h0]at h1_21;simp at h1_21)
   |(left;simp at h1_17;omega)
 have F:=aI h1_8 (aI h1_12 h1_17);iterate 5 refine SF ?_
 refine T2 (hK _ _ _ ?_);clear hK K;refine CF rfl ?_;refine aK (T3 ?_);refine key _ _ _ ?_ (fF);simp only[gV,Bool.or_eq_false_iff,Bool.and_eq_false_iff,decide_eq_false_iff_not,beq_eq_false_iff_ne,ne_eq];simp only[decide_eq_false_iff_not,decide_eq_true_eq]at h1_8 h1_12;refine⟨⟨by omega,by omega⟩,?_⟩;first
  |(right;intro h0;rw[h0]at h1_21;simp at h1_21)
  |(left;simp at h1_17;omega)
theorem cC3 {α:Type}(l:List (List UInt8))(j:Nat)(p:List UInt8)(r:List (List UInt8))(h:l.drop j=p::r): ∃hj:j<(l.map fun p=>[CV.slc (p.map u8)]).length,(l.map fun p=>[CV.slc (p.map u8)])[j]=[CV.slc (p.map u8)]∧l.drop (j+1)=r:=by
 have hj:j<l.length:=by
  rcases Nat.lt_or_ge j l.length with h'|h'
  · exact h'
  rw[List.drop_eq_nil_of_le h']at h;cases h
 have h1:=List.drop_eq_getElem_cons hj;rw[h1]at h;cases h;exact⟨by simpa using hj,by simp,rfl⟩
theorem aU7 (l:List UInt8)(c:UInt8)(hl:l.length<2^40):aE0 Tryz.prog 126 [(47,.slc [u8 c]),(47,.slc (l.map u8)),(3,.int .i64 0)] ((aR c l).map fun p=>[.slc (p.map u8)]):=by
 refine zJ Tryz.func126 rfl (by kernel_rfl) (Nat.le_of_ble_eq_true rfl) rfl fun L J hS hY=>?_;have e0:jY [(47,CV.slc [u8 c]),(47,.slc (l.map u8)),(3,.int .i64 0)]=fob [(0,.box 47 (.c (.slc [u8 c]))),(1,.box 47 (.c (.slc (l.map u8)))),(2,.box 3 (.c (.int .i64 0)))]:=by
  funext i
  match i with
  |0=>rfl
  |1=>rfl
  |2=>rfl
  |i+3=>simp[jY,fob,upd]
 have e1:gU (List.range [((47:Nat),CV.slc [u8 c]),(47,.slc (l.map u8)),(3,.int .i64 0)].length)=[.ptr 0 0,.ptr 1 0,.ptr 2 0]:=rfl;rw[e0,e1];refine fA fun K hK=>?_;refine fA fun K1 hK1=>nN hS rfl (aN (by kernel_rfl) ?_);simp only[sR,simprocAttr];have F:=rI;iterate 3 refine SF ?_
 simp only[sE,↓reduceIte,simprocAttr,rI];refine hK1 _ _ _ _ _ ?_;clear hK1 K1;refine jQ (b:=false) rfl (fun hb=>by cases hb) (fun _=>?_);refine nO ?_;simp only[sE,↓reduceIte,simprocAttr,rI];refine hK _ _ _ _ _ ?_;clear hK K;refine fA fun K hK=>?_;refine oP ?_;refine aL4 (α:={y:Nat×List UInt8//(aR c l).drop y.1=aR c y.2∧y.2.length≤l.length}) hS (fun y=>(fin [(0,.opq (.func (.yield L) #[] #[])),(1,.ptr 0 0),(2,.ptr 1 0),(3,.ptr 2 0)],fob [(0,.box 47 (.c (.slc [u8 c]))),(1,.box 47 (.c (.slc (y.1.2.map u8)))),(2,.box 3 (.c (.int .i64 0)))])) (fun y=>y.1.1) 100 (fun y=>y.1.2.length) ⟨(0,l),rfl,Nat.le_refl _⟩ rfl (fF) rfl ?_;rintro⟨⟨j,rest⟩,hsp,hle⟩;simp only at hsp hle;refine oP ?_;refine fA fun K1 hK1=>nN hS rfl (aN (by kernel_rfl) ?_);simp only[sR,simprocAttr];iterate 2 refine SF ?_
 have F:=aI rI @denilL_u8;refine HS rfl rfl fun K' hK'=>T6 ?_;refine C2 (zM rest c) ?_;rintro u rfl;refine AX (hK' _ _ ?_);clear hK' K';have F:=rI;refine SF ?_;simp only[sE,↓reduceIte,simprocAttr,rI];refine hK1 _ _ _ _ _ ?_;clear hK1 K1;refine fA fun K1 hK1=>?_;refine fA fun K2 hK2=>nN hS rfl (aN (by kernel_rfl) ?_);simp only[sR,simprocAttr];iterate 2 refine SF ?_
 simp only[sE,↓reduceIte,simprocAttr,rI];refine hK2 _ _ _ _ _ ?_;clear hK2 K2;refine jQ (b:=decide (dW rest c<0)) rfl (fun hb=>?_) (fun hb=>?_)
 ·
  have hn:dW rest c<0:=by simpa using hb
  rw[nI hn]at hsp;obtain⟨hj,hx,hd⟩:=cC3 (α:=Nat) _ _ _ _ hsp;refine aL3 ?_;simp only[sE,↓reduceIte,simprocAttr,rI];clear hK1 K1;refine hK _ _ _ _ _ ?_;clear hK K;have htk:List.take rest.length (rest.map u8)=rest.map u8:=List.take_of_length_le (by simp);refine sK (l:=L) 7 hS hY rfl (by kernel_rfl) (by decide) ?_;simp only[sR,List.range',simprocAttr];have F:=aI rI @List.length_map.{0,0};iterate 6 refine SF ?_
  refine S0 ?_ (e:=fun _ h_=>by simp only[sH,↓sP,sA,tyS,simprocAttr,rI,htk,List.length_map,↓hslice3.eq_def,Int.natCast_nonneg,nE,List.drop_zero,Nat.sub_zero,Int.le_refl,Int.toNat_zero];exact AX h_);rw[hlex];refine⟨_,_,_,hj,rfl,rfl,rfl,rfl,rfl,?_,?_,?_⟩
  · rw[hx];rfl
  · simp only[sR,List.range',simprocAttr];rw[hlex];refine⟨by simp,fun _=>?_⟩;have:=List.drop_eq_nil_iff.1 hd;simp only[List.length_map]at hj⊢;omega
  simp only[sR,List.range',simprocAttr];rw[hlex];exact⟨by simp,fun h=>by cases h⟩
 have hn: ¬dW rest c<0:=by simpa using hb
 obtain⟨k,hk,hkl,hsp2⟩:=eL hn;rw[hk];rw[hsp2]at hsp;obtain⟨hj,hx,hd⟩:=cC3 (α:=Nat) _ _ _ _ hsp;have hkm:min k rest.length=k:=by omega
 have ek:List.take k (rest.map u8)=(rest.take k).map u8:=List.map_take.symm;have htk:List.take k ((rest.take k).map u8)=(rest.take k).map u8:=List.take_of_length_le (by simp;omega);have hw1:IntKind.i64.wrap ((k:Int)+1)=((k+1:Nat):Int):=by rw[IntWalk.i64_in _ (by omega)];rfl
 have hkl1:k+1≤rest.length:=hkl;have edr:List.take (rest.length-(k+1)) (List.drop (k+1) (rest.map u8))=(rest.drop (k+1)).map u8:=by rw[List.map_drop,List.take_of_length_le (by simp)]
 refine nO ?_;simp only[sE,↓reduceIte,simprocAttr,rI];refine hK1 _ _ _ _ _ ?_;clear hK1 K1;refine fA fun K1 hK1=>nN hS rfl (aN (by kernel_rfl) ?_);simp only[sR,simprocAttr];iterate 6 refine S0 ?_ (e:=fun _ h_=>by simp only[sH,↓sP,sA,tyS,simprocAttr,rI,ek,List.length_map,Int.natCast_nonneg,nE,Int.add_zero,Int.ofNat_le,Nat.le_of_lt hkl,List.drop_zero,Nat.sub_zero,show IntKind.i64.wrap (k:Int)=(k:Int)from IntWalk.i64_in _ (by omega)];exact AX h_)
 simp only[sE,↓reduceIte,simprocAttr,rI];refine hK1 _ _ _ _ _ ?_;clear hK1 K1;refine fA fun K1 hK1=>?_;refine fA fun K2 hK2=>sK (l:=L) 7 hS hY rfl (by kernel_rfl) (by decide) ?_;simp only[sR,List.range',simprocAttr];have F:=aI rI (aI @List.length_map.{0,0} (aI @List.length_take.{0} hkm));iterate 6 refine SF ?_
 refine S0 ?_ (e:=fun _ h_=>by simp only[sH,↓sP,sA,tyS,simprocAttr,rI,htk,List.length_map,List.length_take,hkm,↓hslice3.eq_def,Int.natCast_nonneg,nE,List.drop_zero,Nat.sub_zero,Int.le_refl,Int.toNat_zero];exact AX h_);rw[hlex];refine⟨_,_,_,hj,rfl,rfl,rfl,rfl,rfl,?_,?_,?_⟩
 · rw[hx];rfl
 ·
  simp only[sR,List.range',simprocAttr];have F:=rI;refine SF ?_;simp only[sE,↓reduceIte,simprocAttr,rI];refine hK2 _ _ _ _ _ ?_;clear hK2 K2;refine jQ (b:=false) rfl (fun hb=>by cases hb) (fun _=>?_);refine nO ?_;simp only[sE,↓reduceIte,simprocAttr,rI];refine hK1 _ _ _ _ _ ?_;clear hK1 K1;refine nN hS rfl (aN (by kernel_rfl) ?_);simp only[sR,simprocAttr];have F:=aI rI (aI edr (aI hw1 (aI @List.length_map.{0,0} (aI @Int.natCast_nonneg (aI @nE (aI @Int.ofNat_le (aI hkl1 @denilL_u8)))))));iterate 7 refine SF ?_
  simp only[sE,↓reduceIte,simprocAttr,rI];refine⟨⟨(j+1,rest.drop (k+1)),hd,by simp;omega⟩,fF,trivial,rfl,?_⟩;show(rest.drop (k+1)).length<rest.length;simp;omega
 simp only[sR,List.range',simprocAttr];have F:=rI;refine SF ?_;simp only[sE,↓reduceIte,simprocAttr,rI];refine hK2 _ _ _ _ _ ?_;clear hK2 K2;refine jQ (b:=true) rfl (fun _=>?_) (fun hb=>by cases hb);refine aX8 ?_;simp only[sE,↓reduceIte,simprocAttr,rI];exact⟨by simp,fun h=>by cases h⟩
theorem cF4 (s:aH)(hl:s.length<2^40):gT Tryz.prog 87 [.str s] (fun u v=>u= .str ((unW s).getD [])∧v= .bool (unW s).isSome):=by
 refine FW Tryz.func87 ?_;refine R0 ?_;refine aC fun K hK=>?_;refine R0 ?_;refine aG (b:=s==[126]) rfl (fun hb=>?_) (fun hb=>?_)
 ·
  refine R0 ?_;refine aF (RT Tryz.results87 ?_);have hs:s=[126]:=by simpa using hb
  subst hs;exact aX [] (.str []) (.bool true) rfl ⟨rfl,rfl⟩
 refine aK ?_;refine T0 (hK _ _ _ ?_);clear hK K;have hne:s≠[126]:=by simpa using hb
 clear hb;refine R0 ?_;refine aC fun K hK=>?_;refine R0 ?_;refine aM ?_;refine nC 4 0 5 1 rfl rfl rfl rfl ?_;refine bI (α:={y:Nat×aH//UnSt s y.1 y.2}) (fun y=>(fin [(0,.c (.str s)),(4,.own 24 y.1.2.length),(5,.c (.int .i64 y.1.1))],fob [(24,.row 5 1 (y.1.2.map dF))])) 100 (fun y=>s.length-y.1.1) ⟨(0,[]),UnSt.init s⟩ (fF) ?_;rintro⟨⟨i,out⟩,hst⟩;simp only at hst;have hi:=hst.1;have ho:=hst.2.2.2;refine aC fun K hK=>?_;refine aC fun K hK=>Rg ?_;iterate 4 refine S0 ?_
 refine T2 (hK _ _ _ ?_);clear hK K;refine aG (b:=decide ((i:Int)<s.length)) rfl (fun hb=>?_) (fun hb=>?_)
 ·
  have hlt:i<s.length:=by simpa using hb
  clear hb;have hgd:s.getD i 0=s[i]:=by simp[hlt]
  refine aK ?_;refine T0 (hK _ _ _ ?_);clear hK K;refine aC fun K hK=>?_;refine aM ?_;refine aC fun K hK=>?_;refine aC fun K hK=>Rg ?_;iterate 3 refine S0 ?_ (e:=fun _ h_=>by simp only[sH,↓sP,sA,tyS,simprocAttr,Int.natCast_nonneg,Int.ofNat_lt,hlt,hgd];exact AX h_)
  refine HS rfl rfl fun K' hK'=>?_;simp only[sH,↓sP,sA,tyS,simprocAttr,Int.natCast_nonneg,Int.ofNat_lt,hlt,hgd];refine C1 (qR s[i]) ?_;rintro u rfl;refine AX (hK' _ _ ?_);clear hK' K';refine T2 (hK _ _ _ ?_);clear hK K;refine aG (b:=cN s[i]) rfl (fun hb=>?_) (fun hb=>?_)
  ·
   refine aC fun K hK=>Rg ?_;iterate 7 refine S0 ?_ (e:=fun _ h_=>by simp only[sH,↓sP,sA,tyS,simprocAttr,Int.natCast_nonneg,Int.ofNat_lt,hlt,hgd,List.length_append,List.length_map];exact AX h_)
   refine T2 (hK _ _ _ ?_);clear hK K;refine bD (T3 ?_);clear hK K;refine AX (hK _ _ _ ?_);clear hK K;refine aN (by kernel_rfl) ?_;refine TQ (jB i) ?_;refine⟨⟨(i+1,out++[s[i]]),hst.plain hlt hb⟩,aL (by omega) ?_ ?_,?_⟩
   · simp[aS,upd_at,fin_at,HV.men]
   · simp only[aT,List.map_append];exact⟨rfl,by omega,trivial,trivial⟩
   show s.length-(i+1)<s.length-i;omega
  refine aK ?_;refine T0 (hK _ _ _ ?_);clear hK K;refine aC fun K hK=>?_;have hp:cN s[i]=false:=hb;clear hb;have hw1:IntKind.i64.wrap ((i:Int)+1)=((i+1:Nat):Int):=by rw[IntWalk.i64_in _ (by omega)];rfl
  have hw2:IntKind.i64.wrap ((i:Int)+2)=((i+2:Nat):Int):=by rw[IntWalk.i64_in _ (by omega)];rfl
  have hw3:IntKind.i64.wrap (((i+2:Nat):Int)+1)=((i+3:Nat):Int):=by rw[IntWalk.i64_in _ (by omega)];rfl
  refine aC fun K hK=>Rg ?_;iterate 5 refine S0 ?_ (e:=fun _ h_=>by simp only[sH,↓sP,sA,tyS,simprocAttr,Int.natCast_nonneg,Int.ofNat_lt,hlt,hgd,hw2];exact AX h_)
  refine aE 29 rfl (fun h9_29=>?_) (fun h9_29=>?_)
  ·
   iterate 6 refine S0 ?_ (e:=fun _ h_=>by simp only[sH,↓sP,sA,tyS,simprocAttr,Int.natCast_nonneg,Int.ofNat_lt,hlt,hgd,hw2,h9_29];exact AX h_)
   refine T2 (hK _ _ _ ?_);clear hK K;refine CT rfl ?_;refine R0 ?_;refine aF (RT Tryz.results87 ?_);have h37:s[i]≠37:=by rintro h;rw[h]at h9_29;simp at h9_29
   have hn:=nJ (hst.bad1 hlt hp (.inl h37)) hne;exact aX [] (.str []) (.bool false) rfl ⟨by rw[hn];rfl,by rw[hn];rfl⟩
  iterate 6 refine S0 ?_ (e:=fun _ h_=>by simp only[sH,↓sP,sA,tyS,simprocAttr,Int.natCast_nonneg,Int.ofNat_lt,hlt,hgd,hw2,h9_29];exact AX h_)
  refine aE 35 rfl (fun h9_35=>?_) (fun h9_35=>?_)
  ·
   simp only[h9_35];refine T2 (hK _ _ _ ?_);clear hK K;refine CT rfl ?_;refine R0 ?_;refine aF (RT Tryz.results87 ?_);have hi2:s.length≤i+2:=by simp at h9_35;omega
   have hn:=nJ (hst.bad1 hlt hp (.inr hi2)) hne;exact aX [] (.str []) (.bool false) rfl ⟨by rw[hn];rfl,by rw[hn];rfl⟩
  simp only[h9_35];refine T2 (hK _ _ _ ?_);clear hK K;refine CF rfl ?_;refine aK ?_;refine T0 (hK _ _ _ ?_);clear hK K;have h37:s[i]=37:=by
   simp only[bne_eq_false_iff_eq]at h9_29;exact UInt8.toNat_inj.1 (by show s[i].toNat=37;omega)
  have hi2:i+2<s.length:=by simp at h9_35;omega
  have hi1:i+1<s.length:=by omega
  have hg1:s.getD (i+1) 0=s[i+1]:=by simp[hi1]
  have hg2:s.getD (i+2) 0=s[i+2]:=by simp[hi2]
  refine aC fun K hK=>DW [(0,[],[]),(1,[],[]),(2,[],[]),(3,[],[]),(5,[],[]),(6,[],[]),(7,[],[]),(8,[],[]),(4,[],[5,6,7,8]),(9,[],[]),(10,[],[]),(11,[],[])] [0,0,2,7,15,0,0,64,224,511,1023,2047] ?_;have F:=aI @Int.natCast_nonneg (aI @Int.ofNat_lt (aI hw1 (aI hw2 (aI hg1 (aI hg2 (aI hi1 (aI hi2 (aI h9_29 h9_35))))))));iterate 8 refine WF ?_
  refine cE (g:=none) rfl rfl fun K' hK'=>T6 ?_;refine C2 (qS bV5 s[i+1]) ?_;rintro u rfl;refine AX (hK' _ _ ?_);clear hK' K';refine cE (g:=none) rfl rfl fun K' hK'=>T6 ?_;refine C2 (qS bV5 s[i+2]) ?_;rintro u rfl;refine AX (hK' _ _ ?_);clear hK' K';iterate 2 refine WF ?_
  refine T2 (hK _ _ _ ?_);clear hK K;refine aC fun K hK=>?_;by_cases hx:valH s[i+1]<16
  ·
   by_cases hy:valH s[i+2]<16
   ·
    rw[qL,qL,if_pos hx,if_pos hy];have hx0:decide (((valH s[i+1]:Nat):Int)<0)=false:=by simp
    have hy0:decide (((valH s[i+2]:Nat):Int)<0)=false:=by simp
    have e1:IntKind.i64.wrap (16*((valH s[i+1]:Nat):Int))=((16*valH s[i+1]:Nat):Int):=by rw[IntWalk.i64_in _ (by omega)];omega
    have e2:IntKind.i64.wrap (((16*valH s[i+1]:Nat):Int)+((valH s[i+2]:Nat):Int))=((16*valH s[i+1]+valH s[i+2]:Nat):Int):=by rw[IntWalk.i64_in _ (by omega)];omega
    have e3:IntKind.u8.wrap ((16*valH s[i+1]+valH s[i+2]:Nat):Int)=((byteH s[i+1] s[i+2]).toNat:Int):=by rw[IntWalk.u8_in _ (by omega),zB hx hy]
    refine aC fun K hK=>Rg ?_;have F:=aI hx0 (aI hy0 (aI e1 (aI e2 (aI e3 (aI h9_29 h9_35)))));iterate 12 refine SF ?_
    refine bE (g:=some (53,false)) rfl rfl fun K' hK'=>T6 ?_;refine C1 (qR (byteH s[i+1] s[i+2])) ?_;rintro u rfl;refine AX (hK' _ _ ?_);clear hK' K';refine SF ?_;refine T2 (hK _ _ _ ?_);clear hK K;refine aG (b:=cN (byteH s[i+1] s[i+2])) rfl (fun hb=>?_) (fun hb=>?_)
    · refine R0 ?_;refine aF (RT Tryz.results87 ?_);have hn:=nJ (hst.bad2 hi2 h37 (by simp[okH,hx,hy,hb])) hne;exact aX [] (.str []) (.bool false) rfl ⟨by rw[hn];rfl,by rw[hn];rfl⟩
    refine aK ?_;refine T0 (hK _ _ _ ?_);clear hK K;refine aC fun K hK=>Rg ?_;have F:=aI @Int.natCast_nonneg (aI @List.length_append.{0} (aI @List.length_map.{0,0} (aI e1 (aI e2 (aI e3 (aI h9_29 h9_35))))));iterate 9 refine SF ?_
    refine T2 (hK _ _ _ ?_);clear hK K;refine aN (by kernel_rfl) ?_;refine TQ hw2 ?_;refine AX (hK _ _ _ ?_);clear hK K;refine aN (by kernel_rfl) ?_;refine TQ hw3 ?_;refine⟨⟨(i+3,out++[byteH s[i+1] s[i+2]]),hst.esc hi2 h37 (by simp[okH,hx,hy,hb])⟩,aL (by omega) ?_ ?_,?_⟩
    · simp[aS,upd_at,fin_at,HV.men]
    · simp only[aT,List.map_append];exact⟨rfl,by omega,trivial,trivial⟩
    show s.length-(i+3)<s.length-i;omega
   rw[qL,qL,if_pos hx,if_neg hy];have hx0:decide (((valH s[i+1]:Nat):Int)<0)=false:=by simp
   refine aC fun K hK=>Rg ?_;have F:=aI hx0 (aI h9_29 h9_35);iterate 14 refine SF ?_
   refine T2 (hK _ _ _ ?_);clear hK K;refine CT rfl ?_;refine R0 ?_;refine aF (RT Tryz.results87 ?_);have hn:=nJ (hst.bad2 hi2 h37 (by simp[okH,hx,hy])) hne;exact aX [] (.str []) (.bool false) rfl ⟨by rw[hn];rfl,by rw[hn];rfl⟩
  rw[qL,if_neg hx];refine aC fun K hK=>Rg ?_;have F:=aI h9_29 h9_35;iterate 14 refine SF ?_
  refine T2 (hK _ _ _ ?_);clear hK K;refine CT rfl ?_;refine R0 ?_;refine aF (RT Tryz.results87 ?_);have hn:=nJ (hst.bad2 hi2 h37 (by simp[okH,hx])) hne;exact aX [] (.str []) (.bool false) rfl ⟨by rw[hn];rfl,by rw[hn];rfl⟩
 refine bD (T3 ?_);clear hK K;refine AX (hK _ _ _ ?_);clear hK K;have hei:i=s.length:=by simp at hb;omega
 have hfin:=hst.fin hei hne;refine dA [24] (bF (fr2:=fin [(4,.c (.slc (out.map dF)))]) (ob2:=fob []) (nx2:=200) (aL (by omega) (by simp[aS,dI,fin_at,finA_at,upd_at,fob_at,HV.close,HV.closeL,CV.denil,CV.denilL,cX,HV.men,HV.menL,HV.norm,HV.toC,HV.toCL]) (by simp[aT,dJ,fob_at,upd_at,none0_at,bL,HO.close,HV.close,HV.closeL,HO.men,HV.men,HV.menL,HV.norm,HV.toC,HV.toCL])) ?_);refine aC fun K hK=>Rg ?_;have F:=aI @bytesC_map @List.length_map.{0,0};iterate 7 refine SF ?_
 refine T2 (hK _ _ _ ?_);clear hK K;refine aF (RT Tryz.results87 ?_);refine aX [] (.str out) (.bool (decide (0<(out.length:Int)))) rfl ?_;rw[hfin];by_cases ho0:out=[]
 · subst ho0;simp
 have:0<out.length:=List.length_pos_iff.2 ho0;simp[ho0,this]
def lsC (l:List aH):CV:= .slc (l.map .str)
theorem eX (l:List aH):(lsC l).cells=1:=rfl
theorem eN (l:List aH):(lsC l).denil=lsC l:=by simp only[lsC,CV.denil,denilL_str]
theorem aQ (l:List (List aH)):CV.denilL (l.map lsC)=l.map lsC:=cI eN l
theorem cF5 (b:aH)(hl:b.length<2^40):gT Tryz.prog 62 [.slc (b.map u8)] (fun u v=>u= .slc ((fT b).map lsC)∧v= .int .i64 (iT b)):=by
 refine FW Tryz.func62 ?_;have F:=rI;refine RF ?_;refine bL7 ?_;refine aC fun K hK=>?_;have F:=aI rI @List.length_map.{0,0};refine RF ?_;refine aG (b:=decide ((262144:Int)<b.length)) rfl (fun hb=>?_) (fun hb=>?_)
 ·
  have F:=rI;refine RF ?_;refine aF ?_;simp only[gR,Tryz.results62,fW,gQ,fH,↓sP,sA,tyS,simprocAttr,rI];have hE:iT b=3:=by unfold iT;rw[if_pos (by simp at hb;omega)]
  refine aX [] (.slc []) (.int .i64 3) ?_ ⟨by simp only[fT,hE];rfl,by rw[hE]⟩;simp[HV.close,HV.closeL,CV.denil,CV.denilL,HV.norm,HV.toC,HV.toCL]
 refine aK ?_;refine TQ rI ?_;refine AX (hK _ _ _ ?_);clear hK K;have hle:b.length≤262144:=by simp at hb;omega
 clear hb;have F:=rI;refine RF ?_;refine RF ?_;refine aC fun K hK=>?_;refine bJ3 ?_;try simp only[↓sP,sA,tyS,simprocAttr,rI]
 refine AX (hK _ _ _ ?_);clear hK K;refine aC fun K hK=>?_;have key: ∀(ok:Bool) (ls:List (List aH)) fr ob nx,(ok=true→gI b=some ls)→(ok=false→gI b=none)→ls.length≤b.length→Fits 0 fr ob (fin [(4,.own 32 ls.length),(5,.ptr 24 0)]) (fob [(24,.box 4 (.c (.bool ok))),(32,.row 60 1 (ls.map lsC))]) 1000→K fr ob nx:=by
  intro ok ls fr ob nx h1 h2 h3 hf;refine hK _ _ _ (bF hf ?_);clear hf hK K;refine aC fun K hK=>?_;cases ok
  ·
   refine aC fun K hK=>Rg ?_;have F:=aI rI @List.length_map.{0,0};iterate 7 refine SF ?_
   simp only[sE,↓reduceIte,simprocAttr,rI];refine AX (hK _ _ _ ?_);clear hK K;refine CT rfl ?_;have F:=rI;refine RF ?_;refine aF ?_;simp only[gR,Tryz.results62,fW,gQ,fH,↓sP,sA,tyS,simprocAttr,rI];have hE:iT b=2:=by unfold iT;rw[if_neg (by omega),h2 rfl]
   refine aX [] (.slc []) (.int .i64 2) ?_ ⟨by simp only[fT,hE];rfl,by rw[hE]⟩;simp[HV.close,HV.closeL,CV.denil,CV.denilL,HV.norm,HV.toC,HV.toCL]
  refine aC fun K hK=>Rg ?_;have F:=aI rI @List.length_map.{0,0};iterate 7 refine SF ?_
  simp only[sE,↓reduceIte,simprocAttr,rI];refine AX (hK _ _ _ ?_);clear hK K;refine aG (b:=decide ((1000:Int)<ls.length)) rfl (fun hb=>?_) (fun hb=>?_)
  ·
   have F:=rI;refine RF ?_;refine aF ?_;simp only[gR,Tryz.results62,fW,gQ,fH,↓sP,sA,tyS,simprocAttr,rI];have hE:iT b=2:=by unfold iT;rw[if_neg (by omega),h1 rfl];simp only;rw[if_pos (by simp at hb;omega)]
   refine aX [] (.slc []) (.int .i64 2) ?_ ⟨by simp only[fT,hE];rfl,by rw[hE]⟩;simp[HV.close,HV.closeL,CV.denil,CV.denilL,HV.norm,HV.toC,HV.toCL]
  refine aK ?_;refine TQ rI ?_;refine AX (hK _ _ _ ?_);clear hK K;have F:=rI;refine RF ?_;refine aF ?_;simp only[gR,Tryz.results62,fW,gQ,fH,↓sP,sA,tyS,simprocAttr,rI];have hE:iT b=0:=by unfold iT;rw[if_neg (by omega),h1 rfl];simp only;rw[if_neg (by simp at hb;omega)]
  refine aX [32] (.slc (ls.map lsC)) (.int .i64 0) ?_ ⟨by simp only[fT,hE,h1 rfl];rfl,by rw[hE]⟩;simp[HV.close,fob_at,upd_at,HV.norm,HV.toC,HV.closeL,HV.toCL,CV.denil,aQ]
 refine aM ?_;refine nC 4 0 60 1 rfl rfl rfl rfl ?_;refine bI (α:={y:aH×List (List aH)//DecSt b y.1 y.2}) (fun y=>(fin [(0,.c (.slc (y.1.1.map u8))),(4,.own 32 y.1.2.length),(5,.ptr 24 0)],fob [(24,.box 4 (.c (.bool true))),(32,.row 60 1 (y.1.2.map lsC))])) 100 (fun y=>y.1.1.length) ⟨(b,[]),DecSt.init b⟩ (fF) ?_;rintro⟨⟨rest,ls⟩,hst⟩;simp only at hst;have hr1:=hst.2.1;have hr2:=hst.2.2;refine aC fun K hK=>?_;have F:=aI rI @List.length_map.{0,0};refine RF ?_;refine aG (b:=decide ((0:Int)<rest.length)) rfl (fun hb=>?_) (fun hb=>?_)
 ·
  refine aK ?_;refine TQ rI ?_;refine AX (hK _ _ _ ?_);clear hK K;refine aM ?_;have hne:rest≠[]:=by rintro rfl;simp at hb
  clear hb;refine aC fun K hK=>bA (by kernel_rfl) ?_;simp only[sR,simprocAttr];have F:=aI rI @denilL_u8;refine SGF ?_;refine cF (g:=none) 116 rfl rfl fun K' hK'=>?_;simp only[eG,fS,sH,↓sP,sA,tyS,simprocAttr,rI,denilL_u8];repeat refine AI ?_
  refine bV (by first|rfl|simp) ?_;try simp only[sH,↓sP,sA,tyS,simprocAttr,rI,denilL_u8]
  refine AX (hK' _ _ ?_);clear hK' K';refine bM (g:=none) rfl rfl fun K' hK'=>T6 ?_;refine pL (args:=[_,_]) (bW2 rest 10 (by omega)) ⟨rfl,rfl,rfl,rfl⟩ ?_;rintro u v x ⟨li,re,fd,rfl,rfl,rfl,hcut⟩;have hlt:=hcut.lt hne;refine AX (hK' _ _ ?_);clear hK' K';iterate 7 refine SGF ?_
  simp only[sE,↓reduceIte,simprocAttr,rI];refine AX (hK _ _ _ ?_);clear hK K;have F:=rI;refine RF ?_;refine aC fun K hK=>?_;refine aC fun K hK=>bA (by kernel_rfl) ?_;simp only[sR,simprocAttr];refine SG0 ?_ (e:=fun _ h_=>by simp only[sH,↓sP,sA,tyS,simprocAttr,rI,denilL_u8,mL,gU,List.range',List.map_cons,List.map_nil];exact AX h_);refine cF (g:=none) 160 rfl rfl fun K' hK'=>?_;simp only[eG,fS,sH,↓sP,sA,tyS,simprocAttr,rI,denilL_u8,mL,gU,List.range',List.map_cons,List.map_nil];repeat refine AI ?_
  refine bV (by first|rfl|simp) ?_;try simp only[sH,↓sP,sA,tyS,simprocAttr,rI,denilL_u8,mL,gU,List.range',List.map_cons,List.map_nil]
  refine AX (hK' _ _ ?_);clear hK' K';refine bM (g:=none) rfl rfl fun K' hK'=>?_;simp only[sH,↓sP,sA,tyS,simprocAttr,rI,denilL_u8,mL,gU,List.range',List.map_cons,List.map_nil];refine sL (args:=[_,_]) (bE3 li 32) (by simp) ⟨rfl,rfl,rfl,rfl⟩ ?_;refine AX (hK' _ _ ?_);clear hK' K';simp only[sE,↓reduceIte,simprocAttr,rI];refine AX (hK _ _ _ ?_);clear hK K;refine aM ?_;refine uK 152 0 9 1 rfl rfl rfl rfl ?_;refine zI (ids:=[164,165,166]) (fin [(0,.c (.slc (rest.map u8))),(4,.own 32 ls.length),(5,.ptr 24 0),(7,.c (.slc (re.map u8))),(8,.c (.bool fd)),(9,.ptr 152 0)]) (fun i=>fob [(24,.box 4 (.c (.bool true))),(32,.row 60 1 (ls.map lsC)),(152,.box 60 (.own 168 i)),(168,.row 9 1 ((wsT li i).map .str))]) 200 (fun i=>bK7 li i) (fun p hp=>by simp at hp) (aU7 li 32 (by omega)) rfl rfl (by decide) ?_ ?_ ?_ ?_ ?_ rfl rfl ?_ ?_
  ·
   intro j x hx
   match j,hx with
   |0,hx=>cases hx;rfl
   |1,hx=>cases hx;rfl
   |2,hx=>cases hx;rfl
  · exact aL (by omega) (by simp[aS,fin_at,finA_at,upd_at,HV.men,HV.menL,HV.norm,HV.toC,HV.toCL]) (by simp[aT,fob_at,upd_at,none0_at,bL,mL,wsT,HO.men,HV.men,HV.menL,HV.norm,HV.toC,HV.toCL])
  · intro id hid;simp only[List.mem_cons,List.not_mem_nil,or_false]at hid;rcases hid with rfl|rfl|rfl<;>rfl
  · intro x hx;obtain⟨p,_,rfl⟩:=List.mem_map.1 hx;rfl
  · intro p hp;simp only[List.mem_cons,List.not_mem_nil,or_false]at hp;subst hp;exact Nat.le_of_ble_eq_true rfl
  ·
   intro i hi hΦ K hK;have hi':i<(aR 32 li).length:=by simpa using hi
   have hwl:=vW (r:=li) (Nat.le_of_lt hi');have hsl:=kR 32 li;obtain⟨p,hp⟩: ∃p,p=(aR 32 li)[i]:=⟨_,rfl⟩;have hpl:p.length≤li.length:=by rw[hp];exact vU 32 li _ (List.getElem_mem hi')
   have hx:(List.map (fun p=>[CV.slc (List.map u8 p)]) (aR 32 li))[i]=[CV.slc (p.map u8)]:=by rw[List.getElem_map,hp]
   rw[hx];simp only[wE];have hbc:iS (p.map u8)=some p:=bytesC_map p;refine aN (by kernel_rfl) ?_;refine TQ rI ?_;refine AX (hK _ _ _ ?_);clear hK K;refine aM ?_;refine aC fun K hK=>Rg ?_;have F:=aI rI hbc;iterate 2 refine SF ?_
   refine HS rfl rfl fun K' hK'=>T6 ?_;refine D1 (cF4 p (by omega)) ?_;rintro u v ⟨rfl,rfl⟩;refine AX (hK' _ _ ?_);clear hK' K';iterate 5 refine SF ?_
   simp only[sE,↓reduceIte,simprocAttr,rI];refine AX (hK _ _ _ ?_);clear hK K;refine aC fun K hK=>?_;have F:=rI;refine RF ?_;refine aG (b:=!(unW p).isSome) rfl (fun hb=>?_) (fun hb=>?_)
   · refine RF ?_;refine bD ?_;refine TQ rI ?_;clear hK K;clear hK K;exact key false ls _ _ _ (fun h=>by cases h) (fun _=>hst.bad hcut hne (bK9 hi' (by rw[←hp];simpa using hb))) (by omega) (fF)
   refine aK ?_;refine TQ rI ?_;refine AX (hK _ _ _ ?_);clear hK K;refine Rg ?_;have F:=aI rI (aI @List.length_append.{0} (aI @List.length_map.{0,0} hwl));iterate 5 refine SF ?_
   simp only[sE,↓reduceIte,simprocAttr,rI];refine⟨(show Fits 200 _ _ (fin []) _ 200 from aL (by omega) trivial ?_),bD1 hi' hΦ (by rw[←hp];simpa using hb)⟩;rw[bK8 hi',←hp];simp[aT,fob_at,upd_at,none0_at,bL,HO.men,HV.men,HV.menL,HV.norm,HV.toC,HV.toCL]
  intro hΦ;simp only[sE,↓reduceIte,simprocAttr,rI];rw[List.length_map]at hΦ⊢;have hwl:=vW (r:=li) (Nat.le_refl _);have hul:=bV6 hΦ;have hsl:=kR 32 li;obtain⟨ws,hws⟩: ∃ws,ws=wsT li (aR 32 li).length:=⟨_,rfl⟩;rw[←hws]at hul hwl;rw[←hws,←hwl];refine AX (hK _ _ _ ?_);clear hK K;refine aC fun K hK=>?_;cases fd
  ·
   refine dA [168] (bF (fr2:=fin [(0,.c (.slc (rest.map u8))),(4,.own 32 ls.length),(5,.ptr 24 0),(7,.c (.slc (re.map u8))),(8,.c (.bool false)),(9,.ptr 152 0)]) (ob2:=fob [(24,.box 4 (.c (.bool true))),(32,.row 60 1 (ls.map lsC)),(152,.box 60 (.c (.slc (ws.map .str))))]) (nx2:=300) (aL (by omega) (by simp[aS,dI,fin_at,finA_at,upd_at,fob_at,HV.close,HV.closeL,CV.denil,CV.denilL,denilL_u8,HV.men,HV.menL,HV.norm,HV.toC,HV.toCL]) (by simp[aT,dJ,fob_at,upd_at,none0_at,bL,HO.close,HV.close,HV.closeL,CV.denil,denilL_str,HO.men,HV.men,HV.menL,HV.norm,HV.toC,HV.toCL])) ?_);refine aC fun K hK=>Rg ?_;iterate 7 refine SF ?_
   simp only[sE,↓reduceIte,simprocAttr,rI];refine AX (hK _ _ _ ?_);clear hK K;refine CT rfl ?_;refine RF ?_;refine bD ?_;refine TQ rI ?_;clear hK K;exact key false ls _ _ _ (fun h=>by cases h) (fun _=>hst.bad0 hcut hne) (by omega) (fF)
  refine dA [168] (bF (fr2:=fin [(0,.c (.slc (rest.map u8))),(4,.own 32 ls.length),(5,.ptr 24 0),(7,.c (.slc (re.map u8))),(8,.c (.bool true)),(9,.ptr 152 0)]) (ob2:=fob [(24,.box 4 (.c (.bool true))),(32,.row 60 1 (ls.map lsC)),(152,.box 60 (.c (.slc (ws.map .str))))]) (nx2:=300) (aL (by omega) (by simp[aS,dI,fin_at,finA_at,upd_at,fob_at,HV.close,HV.closeL,CV.denil,CV.denilL,denilL_u8,HV.men,HV.menL,HV.norm,HV.toC,HV.toCL]) (by simp[aT,dJ,fob_at,upd_at,none0_at,bL,HO.close,HV.close,HV.closeL,CV.denil,denilL_str,HO.men,HV.men,HV.menL,HV.norm,HV.toC,HV.toCL])) ?_);refine aC fun K hK=>Rg ?_;iterate 4 refine SF ?_
  refine bE (g:=some (44,false)) rfl rfl fun K' hK'=>T6 ?_;refine C1 (aL6 ws (by omega)) ?_;rintro u rfl;refine AX (hK' _ _ ?_);clear hK' K';iterate 2 refine SF ?_
  simp only[sE,↓reduceIte,simprocAttr,rI];refine AX (hK _ _ _ ?_);clear hK K;refine aG (b:=lT ws !=0) rfl (fun hb=>?_) (fun hb=>?_)
  · refine RF ?_;refine bD ?_;refine TQ rI ?_;clear hK K;exact key false ls _ _ _ (fun h=>by cases h) (fun _=>hst.bad hcut hne (by rw[hul,if_neg];unfold okL;simpa using hb)) (by omega) (fF)
  refine aK ?_;refine TQ rI ?_;refine AX (hK _ _ _ ?_);clear hK K;refine Rg ?_;have F:=aI rI (aI @List.length_append.{0} @List.length_map.{0,0});iterate 7 refine SF ?_
  simp only[sE,↓reduceIte,simprocAttr,rI];have hok:okL ws=true:=by unfold okL;simpa using hb
  refine⟨⟨(re,ls++[ws]),hst.next hcut hne (by rw[hul,if_pos hok])⟩,aL (by omega) ?_ ?_,hlt.1⟩
  · simp[aS,upd_at,fin_at,HV.men]
  simp only[aT,List.map_append];exact⟨rfl,by omega,trivial,rfl,by omega,trivial,trivial⟩
 refine bD ?_;refine TQ rI ?_;clear hK K;have hr0:rest=[]:=by simpa using hb
 subst hr0;exact key true ls _ _ _ (fun _=>hst.fin) (fun h=>by cases h) (by omega) (fF)
end Go.Proofs.YtlldglbooaefhaaGreatDoor
