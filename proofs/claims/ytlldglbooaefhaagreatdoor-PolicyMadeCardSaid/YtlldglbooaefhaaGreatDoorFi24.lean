/- PolicyMade: for any tape of numbers, any two numbers and any truth values the law returns true and leaves them as they were: of made trees, and of trees with one node changed, doubled or left out, Tree, Children, Leaves and Eval answer as the reference does. The listed tables of the library are tied to the program's text by the card. By an AI agent. -/
import Derived.Test.YtlldglbooaefhaaGreatDoorHzU1
import Derived.Test.YtlldglbooaefhaaGreatDoorHzUf
import Derived.Test.YtlldglbooaefhaaGreatDoorHlTlaw
import Derived.Test.YtlldglbooaefhaaGreatDoorHzT9
import Derived.Test.YtlldglbooaefhaaGreatDoorPl28s
import Derived.Test.YtlldglbooaefhaaGreatDoorHzTm
import Derived.Test.YtlldglbooaefhaaGreatDoorHzT5
import Derived.Lay
import Derived.SevenTiedAt
import Derived.Test.YtlldglbooaefhaaGreatDoorRows
import Derived.Test.YtlldglbooaefhaaGreatDoorCards
import Derived.Test.YtlldglbooaefhaaGreatDoorTie
set_option linter.unusedSimpArgs false
set_option linter.unusedVariables false
set_option linter.defProp false
namespace Go.Proofs.YtlldglbooaefhaaGreatDoor
open Go Go.Hl Go.Pl
set_option maxRecDepth 10000
set_option maxHeartbeats 16000000
theorem bE3 (N n:Nat)(ob:Ob)(e:TypeId)(sz:Nat)(v:CV)(L:List CV)(t:TypeId):jD (sub [0,N] n) ob 0 [.box t (.c v),.row e sz L]=upd (upd ob 0 (some (.box t (.c v)))) N (some (.row e sz L)):=rfl
theorem bQ4 (N n m:Nat):HV.ren (sub [0,N] n) (.own 1 m)= .own N m:=rfl
theorem bZ4 (L:List Int)(a:Nat):lst [.box 83 (.c (tp L a))]=fob [(0,.box 83 (.c (tp L a)))]:=by
 funext i
 match i with
 |0=>rfl
 |i+1=>simp[lst,fob,upd]
abbrev MkR (L:List Int)(a d:Nat)(r:HV)(os':List HO):Prop:=
 ∃(t:List Nd) (a':Nat),r= .own 1 t.length∧os'=[.box 83 (.c (tp L a')),.row 40 7 (t.map Nd.cv)]∧Made d 0 t∧a'≤a+aB d
theorem sF {ob:Ob}{L:List Int}{a d m a':Nat}{t:List Nd}{X:List CV}(N:Nat)(hN:1≤N)(h0:ob 0=some (.box 83 (.c (tp L a'))))(h1:ob N=some (.row 40 7 X))(hm:m=t.length)(hX:X=t.map Nd.cv)(hM:Made d 0 t)(ha:a'≤a+aB d):
  lT 1 (.own N m) ob (fun r ob'=> ∃os',ob'=lst os'∧(1≤os'.length∧os'.length≤1+4)∧ ∃(t:List Nd) (a':Nat),r= .own 1 t.length∧os'=[.box 83 (.c (tp L a')),.row 40 7 (t.map Nd.cv)]∧Made d 0 t∧a'≤a+aB d):=by
 subst hm hX;have e1:tau 1 [N] 1=N:=rfl;exact eA [] [N] (.own 1 t.length) [.box 83 (.c (tp L a')),.row 40 7 (t.map Nd.cv)] (by simp[HV.close,HV.norm,HV.toC,HV.ren,e1]) (by simp[HV.men]) ⟨⟨by simp[HO.men,HV.men],by simp,_,h0,by simp[HO.close,HV.close,HO.ren,HV.ren,HV.norm,fL,HV.toC,tp,CV.denil,CV.denilL,denilL_int]⟩,⟨by simp[HO.men],by simp,_,h1,rfl⟩,trivial⟩ rfl (by simp) (by simpa using hN) (by simp) ⟨t,a',rfl,rfl,hM,ha⟩
theorem bX8 (d:Nat)(L:List Int)(a:Nat)(hd:d≤3)(ha:a+aB d<2^38):
  HGe Tryz.prog 50 [.ptr 0 0,.c .nils,.c (.int .i64 d)] [.box 83 (.c (tp L a))] (MkR L a d):=by
 refine bR (args:=[.ptr 0 0,.c .nils,.c (.int .i64 d)]) Tryz.func50 rfl (by kernel_rfl) (eV rfl (by simp[eE,HO.men,HV.men,HV.menL]) (by simp[HV.menL,HV.men])) (Nat.le_of_ble_eq_true rfl) ?_;show Hw _ _ 1 _ _ _ (lst _) 1;rw[bZ4];have hab:=aM7 d hd;have hw1: ∀x:Int,0≤x→x<100→IntKind.i64.wrap (1+x)=1+x:=fun x h1 h2=>IntWalk.i64_in _ (by omega);have hw2: ∀x:Int,0≤x→x<100→IntKind.i64.wrap (2+x)=2+x:=fun x h1 h2=>IntWalk.i64_in _ (by omega);refine R0 ?_;refine aC fun K hK=>?_;refine aC fun K hK=>?_;have key: ∀(b:Bool) (a1:Nat) fr ob nx,(b=false→0<d)→a1≤a+1→Fits 1 fr ob (fin [(0,.ptr 0 0),(1,.c .nils),(2,.c (.int .i64 d)),(20,.c (.bool b))]) (fob [(0,.box 83 (.c (tp L a1)))]) 200→K fr ob nx:=by
  rintro b a1 fr ob nx hbf ha1 hf;refine hK _ _ _ (bK hf ?_);clear hf hK K;refine aJ (b:=b) rfl (fun hb=>?_) (fun hb=>?_)
  ·
   clear hbf;refine aC fun K hK=>Rg ?_;iterate 2 refine S0 ?_
   refine HS rfl rfl fun K' hK'=>T5 ?_;refine bV (args:=[]) (aW4 L a1 (by omega)) rfl (by simp) ⟨rfl,rfl,rfl,rfl⟩ ?_;rintro u v' ⟨q,a2,rfl,rfl,s1,s2⟩;refine AX (hK' _ _ ?_);clear hK' K';iterate 4 refine S0 ?_
   refine T2 (hK _ _ _ ?_);clear hK K;refine aF (RT Tryz.results50 ?_);have:=bZ3 d hd;exact sF 220 (by decide) (t:=[⟨1,0,0,q⟩]) rfl rfl (by simp) (by simp) (zC s2) (by omega)
  have hd0:=hbf hb;clear hbf hb;refine aK ?_;refine T0 (hK _ _ _ ?_);clear hK K;refine aC fun K hK=>Rg ?_;refine S0 ?_;refine HS rfl rfl fun K' hK'=>T5 ?_;refine bV (args:=[_]) (eJ L a1 3 (by omega) (by omega)) rfl (by simp) ⟨rfl,rfl,rfl,rfl⟩ ?_;rintro u v' ⟨x,a2,rfl,rfl,h1,h2,h3,h4⟩;refine AX (hK' _ _ ?_);clear hK' K';iterate 2 refine S0 ?_
  refine HS rfl rfl fun K' hK'=>T5 ?_;refine bV (args:=[_]) (eJ L a2 3 (by omega) (by omega)) rfl (by simp) ⟨rfl,rfl,rfl,rfl⟩ ?_;rintro u v' ⟨y,a3,rfl,rfl,g1,g2,g3,g4⟩;refine AX (hK' _ _ ?_);clear hK' K';iterate 4 refine S0 ?_
  refine T2 (hK _ _ _ ?_);clear hK K;refine aC fun K hK=>?_;have key2: ∀(k c N:Int) (a4:Nat) fr ob nx,(1≤c∧c≤3)→k≠1→bL ⟨k,N,c,rq0⟩=true→a4≤a+4→Fits 1 fr ob (fin [(0,.ptr 0 0),(1,.c .nils),(2,.c (.int .i64 d)),(7,.ptr 228 0)]) (fob [(0,.box 83 (.c (tp L a4))),(228,.box 40 (.c (Nd.cv ⟨k,N,c,rq0⟩)))]) 700→K fr ob nx:=by
   rintro k c N a4 fr ob nx ⟨hc1,hc3⟩ hk1 hnode ha4 hf;refine hK _ _ _ (bK hf ?_);clear hf hK K;refine aC fun K hK=>Rg ?_;iterate 5 refine S0 ?_
   refine T2 (hK _ _ _ ?_);clear hK K;refine aC fun K hK=>?_;refine R0 ?_;refine aL ?_;refine bD (α:={w:List Nd×Nat×Nat//MadeK (d-1) 0 w.2.1 w.1∧w.2.2≤a+4+w.2.1*aB (d-1)∧(w.2.1:Int)≤c∧w.1.length≤60*w.2.1}) (fun w=>(fin [(0,.ptr 0 0),(1,.own 712 (1+w.1.1.length)),(2,.c (.int .i64 d)),(7,.ptr 228 0),(8,.c (.int .i64 w.1.2.1))],fob [(0,.box 83 (.c (tp L w.1.2.2))),(712,.row 40 7 ((⟨k,N,c,rq0⟩::w.1.1:List Nd).map Nd.cv)),(228,.box 40 (.c (Nd.cv ⟨k,N,c,rq0⟩)))])) 2000 (fun w=>10-w.1.2.1) ⟨([],0,a4),MadeK.zero _ _,by simp only;omega,by simp only;omega,by simp⟩ (fF) ?_;rintro⟨⟨ts,j,a5⟩,i1,i2,i3,i4⟩;simp only at i1 i2 i3 i4;refine aC fun K hK=>?_;refine aC fun K hK=>Rg ?_;iterate 4 refine S0 ?_
   refine T2 (hK _ _ _ ?_);clear hK K;refine aJ (b:=decide ((j:Int)<c)) rfl (fun hb=>?_) (fun hb=>?_)
   ·
    have hjc:(j:Int)<c:=by simpa using hb
    clear hb;obtain⟨M,hM⟩: ∃M:List Nd,M=⟨k,N,c,rq0⟩::ts:=⟨_,rfl⟩;have hMl:1+ts.length=M.length:=by rw[hM];simp;omega
    have hMm:Nd.cv ⟨k,N,c,rq0⟩::List.map Nd.cv ts=List.map Nd.cv M:=by rw[hM];rfl
    rw[hMm,hMl];have hwd:IntKind.i64.wrap ((d:Int)-1)=((d-1:Nat):Int):=by rw[IntWalk.i64_in _ (by omega)];omega
    have hab1:=aM7 (d-1) (by omega);have hj3:j≤2:=by omega
    have hja:j*aB (d-1)≤2*aB (d-1):=Nat.mul_le_mul_right _ hj3;have hdd:aB d=8+3*aB (d-1):=by
     obtain⟨e,rfl⟩: ∃e,d=e+1:=⟨d-1,by omega⟩;rfl
    refine aK ?_;refine T0 (hK _ _ _ ?_);clear hK K;refine aC fun K hK=>?_;refine aL ?_;refine Rg ?_;have F:=hwd;iterate 4 refine SF ?_
    refine HS rfl rfl fun K' hK'=>T6 ?_;refine fQ [0,712] (cD1 (d-1) L a5 M (by omega) (by omega) (by omega) (by omega)) rfl ⟨rfl,rfl,trivial⟩ (by simp) (by simp) ⟨rfl,rfl,rfl,rfl⟩ (by simp[eE,HO.men,HV.men,HV.menL]) (by simp[HV.menL,HV.men]) ?_;rintro r os' ⟨t,a6,rfl,rfl,ht,ha6⟩;rw[bE3,bQ4];refine AX (hK' _ _ ?_);clear hK' K';refine SF ?_;refine T2 (hK _ _ _ ?_);clear hK K;refine aM (by kernel_rfl) ?_;refine TQ (IntWalk.i64_in ((j:Int)+1) (by omega)) ?_;have htl:=aM8 ht (by omega);have hnx:=i1.next (t:=t) (by rw[Nat.zero_add,hMl];exact ht);refine⟨⟨(ts++t,j+1,a6),hnx,by simp only[Nat.add_mul,Nat.one_mul];omega,by simp only;omega,by simp only[List.length_append];omega⟩,?_,?_⟩
    ·
     have e1:Nd.cv ⟨k,N,c,rq0⟩::List.map Nd.cv (ts++t)=List.map Nd.cv (M++t):=by rw[hM];simp
     have e2:(M++t).length=1+(ts++t).length:=by rw[hM];simp;omega
     simp only[];rw[e1,←e2];exact fF
    show 10-(j+1)<10-j;omega
   have hjc:(j:Int)=c:=by simp at hb;omega
   have hj3:j≤3:=by omega
   have hja:j*aB (d-1)≤3*aB (d-1):=Nat.mul_le_mul_right _ hj3;obtain⟨d',rfl⟩: ∃d',d=d'+1:=⟨d-1,by omega⟩;simp only[Nat.add_sub_cancel]at i1 i2 hja;have hm:=i1.fin (x:=⟨k,N,c,rq0⟩) (by omega) hnode hk1 hjc.symm (by omega) (by omega);refine bA (T3 ?_);clear hK K;refine AX (hK _ _ _ ?_);clear hK K;refine R0 ?_;refine aF (RT Tryz.results50 ?_);exact sF 712 (by decide) (t:=⟨k,N,c,rq0⟩::ts) rfl rfl (by simp;omega) rfl hm (by simp only[aB];omega)
  have hx3:=h4 (by omega);have hy3:=g4 (by omega);obtain⟨k,hk⟩: ∃k,k=IntKind.i64.wrap (2+x):=⟨_,rfl⟩;obtain⟨c,hc⟩: ∃c,c=IntKind.i64.wrap (1+y):=⟨_,rfl⟩;have hkx:k=2+x:=by rw[hk,hw2 x h2 (by omega)]
  have hcy:c=1+y:=by rw[hc,hw1 y g2 (by omega)]
  rw[←hk,←hc];clear hk hc h3 h4 g3 g4;refine R0 ?_;refine aJ (b:=_) rfl (fun hb=>?_) (fun hb=>?_)
  ·
   refine Rg ?_;iterate 3 refine S0 ?_
   refine HS rfl rfl fun K' hK'=>T5 ?_;refine bV (args:=[_]) (eJ L a3 c (by omega) (by omega)) rfl (by simp) ⟨rfl,rfl,rfl,rfl⟩ ?_;rintro u v' ⟨z,a4,rfl,rfl,f1,f2,f3,f4⟩;refine AX (hK' _ _ ?_);clear hK' K';iterate 3 refine S0 ?_
   refine T4 ?_;have f5:=f4 (by omega);have hk4:k=4:=by simpa using hb
   exact key2 k c (IntKind.i64.wrap (1+z)) a4 _ _ _ ⟨by omega,by omega⟩ (by omega) (by rw[hw1 z f2 (by omega),bL,if_neg (by simp only;omega),if_neg (by simp only;omega),if_pos hk4];simp[inB,eU];omega) (by omega) (aN (by omega) (by simp[aZ,fin_at,finA_at,upd_at,HV.men,HV.menL,HV.norm,HV.toC,HV.toCL,Nd.cv,rq0]) (by simp[aY,fob_at,upd_at,none0_at,bU,HO.men,HV.men,HV.menL,HV.norm,HV.toC,HV.toCL,Nd.cv,rq0]))
  refine aK (T3 ?_);have hk4: ¬k=4:=by simpa using hb
  exact key2 k c 0 a3 _ _ _ ⟨by omega,by omega⟩ (by omega) (by rw[bL,if_neg (by simp only;omega),if_pos (by simp only;omega)];simp[inB,eU];omega) (by omega) (aN (by omega) (by simp[aZ,fin_at,finA_at,upd_at,HV.men,HV.menL,HV.norm,HV.toC,HV.toCL,Nd.cv,rq0]) (by simp[aY,fob_at,upd_at,none0_at,bU,HO.men,HV.men,HV.menL,HV.norm,HV.toC,HV.toCL,Nd.cv,rq0]))
 refine Rg ?_;iterate 3 refine S0 ?_
 refine aE 10 rfl (fun h1_10=>?_) (fun h1_10=>?_)
 ·
  have F:=h1_10;iterate 9 refine SF ?_
  refine T4 ?_;exact key true a _ _ _ (fun h=>by cases h) (by omega) (fF)
 have F:=h1_10;refine SF ?_;refine aV (g:=some (11,false)) rfl rfl fun K' hK'=>T6 ?_;refine bV (args:=[_]) (eJ L a 3 (by omega) (by omega)) rfl (by simp) ⟨rfl,rfl,rfl,rfl⟩ ?_;rintro u v' ⟨x,a1,rfl,rfl,h1,h2,h3,h4⟩;refine AX (hK' _ _ ?_);clear hK' K';iterate 3 refine SF ?_
 refine aE 14 rfl (fun h1_14=>?_) (fun h1_14=>?_)
 ·
  have F:=aI h1_10 h1_14;iterate 4 refine SF ?_
  refine T4 ?_;exact key true a1 _ _ _ (fun h=>by cases h) h1 (fF)
 have F:=aI h1_10 h1_14;refine SF ?_;refine aV (g:=some (16,false)) rfl rfl fun K' hK'=>T6 ?_;obtain⟨z,hz⟩: ∃z:Int,z=0:=⟨_,rfl⟩;rw[←hz];refine AX (hK' _ _ ?_);clear hK' K';iterate 2 refine SF ?_
 refine aE 19 rfl (fun h1_19=>?_) (fun h1_19=>?_)
 · simp only[h1_19];refine T4 ?_;exact key true a1 _ _ _ (fun h=>by cases h) h1 (fF)
 simp only[h1_19];refine T4 ?_;exact key false a1 _ _ _ (fun _=>(by simp at h1_10;omega)) h1 (fF)
theorem bX9 (n:Nat)(ob:Ob)(e:TypeId)(sz:Nat)(v:CV)(L:List CV)(t:TypeId):jD (sub [0] n) ob 0 [.box t (.c v),.row e sz L]=upd (upd ob 0 (some (.box t (.c v)))) n (some (.row e sz L)):=rfl
theorem cD2 (n m:Nat):HV.ren (sub [0] n) (.own 1 m)= .own n m:=rfl
theorem bQ5 (L:List Int)(a:Nat)(ha:a+aB 3<2^38):HGe Tryz.prog 23 [.ptr 0 0] [.box 83 (.c (tp L a))] (MkR L a 3):=by
 refine bR (args:=[.ptr 0 0]) Tryz.func23 rfl (by kernel_rfl) (eV rfl (by simp[eE,HO.men,HV.men,HV.menL]) (by simp[HV.menL,HV.men])) (Nat.le_of_ble_eq_true rfl) ?_;show Hw _ _ 1 _ _ _ (lst _) 1;rw[bZ4];refine R0 ?_;refine aC fun K hK=>bE (by kernel_rfl) ?_;simp only[sR,simprocAttr];refine SG0 ?_;refine sX (g:=none) rfl rfl fun K' hK'=>?_;simp only[sN,↓hopH.eq_def,sH,↓sP,sA,tyS,simprocAttr];refine fQ [0] (bX8 3 L a (by decide) ha) rfl ⟨rfl,trivial⟩ (by simp) (by simp) ⟨rfl,rfl,rfl,rfl⟩ (by simp[eE,HO.men,HV.men,HV.menL]) (by simp[HV.menL,HV.men]) ?_;rintro r os' ⟨t,a',rfl,rfl,ht,ha'⟩;rw[bX9,cD2];refine AX (hK' _ _ ?_);clear hK' K';refine SG0 ?_;refine T2 (hK _ _ _ ?_);clear hK K;refine aF (RT Tryz.results23 ?_);exact sF 9 (by decide) (t:=t) rfl rfl rfl rfl ht ha'
end Go.Proofs.YtlldglbooaefhaaGreatDoor
namespace Go.Pl
open Go Go.Hl
variable {t:List Nd}
theorem bY0 (h:Made 3 0 t):t.length≤40:=by
 have key: ∀p∈pos 3 0,p.1≤40:=by decide+kernel
 exact key _ h.pos
def rN (n:Nat):aG:=[114,UInt8.ofNat (48+n)]
structure MadeR (r:Pr):Prop where
 ok:iL r=true
 b:r.b.length≤80
 c:r.c.length≤80
 t:r.t.length≤40
structure MadeRs (n:Nat)(rs:List Pr):Prop where
 two:n+rs.length≤2
 one:1≤n+rs.length
 ok: ∀r∈rs,MadeR r
 nm: ∀r∈rs,∃j,n<j∧j≤2∧r.a=rN j
 ap:fX rs=true
variable {n:Nat}
theorem MadeRs.zero (h1:1≤n)(h2:n≤2):MadeRs n []:=⟨by grind,by grind,by simp,by simp,rfl⟩
variable {rs:List Pr}
theorem MadeRs.next (h:MadeRs (n+1) rs){r:Pr}(hr:MadeR r)(ha:r.a=rN (n+1)):MadeRs n (rs++[r]):=by
 have h1:=h.two;refine⟨by grind,by grind,fun x hx=>?_,fun x hx=>?_,?_⟩
 ·
  rcases List.mem_append.1 hx with hx|hx
  · exact h.ok x hx
  grind
 ·
  rcases List.mem_append.1 hx with hx|hx
  · obtain⟨j,h2,h3,h4⟩:=h.nm x hx;grind
  grind
 ·
  rw[nB,h.ap,Bool.true_and,Bool.not_eq_true',←Bool.not_eq_true,List.contains_iff_mem];intro hm;obtain⟨x,hx,he⟩:=List.mem_map.1 hm;obtain⟨j,h2,h3,h4⟩:=h.nm x hx;rw[h4,ha]at he;have hj:j=2:=by omega
  have hn:n=0:=by omega
  subst hj hn
  revert he
  decide
theorem MadeRs.fin (h:MadeRs 0 rs){v:Int}(h1:1≤v)(h2:v≤1099511627776):bL3 ⟨[112],v,rs⟩:=by
 have h3:=h.two;have k:dL [112]=true:=by decide
 refine⟨?_,by grind,fun r hr=>⟨(h.ok r hr).b,(h.ok r hr).c,(h.ok r hr).t⟩⟩;have k1:inB v 1 tP=true:=by rw[gJ,oA];exact⟨h1,h2⟩
 have k2:decide (rs.length≤16)=true:=by simp;omega
 have k3:rs.all iL=true:=List.all_eq_true.2 fun r hr=>(h.ok r hr).ok;simp only[fC,k,k1,k2,k3,h.ap,Bool.and_self]
theorem bQ6 {q:Rq}(h:dB q=true):q.t.length≤64:=by
 have hn:dL q.t=true→q.t.length≤64:=fun h=>(wF h).2;have h0:q.t=[]→q.t.length≤64:=fun h=>by grind
 unfold dB at h;grind
theorem bE4 {n:Nd}(h:bL n=true):n.q.t.length≤64:=by
 have h0:n.q=rq0→n.q.t.length≤64:=fun h=>by rw[h];decide
 have h1:dB n.q=true→n.q.t.length≤64:=bQ6;unfold bL at h
 repeat' split at h
 all_goals simp_all[Bool.and_eq_true,vA,beq_iff_eq]
theorem zR (h:IsTree t): ∀n∈t,n.q.t.length<2^63:=fun n hn=>by have:=bE4 (h.node n hn);omega
theorem bY1 {p:Po}(h:fC p=true):PoSz p:=by
 obtain⟨_,h2,h3,h4⟩:=aC2 h;refine⟨by grind[wF],by omega,fun r hr=>?_,fun r hr=>zR (nD (h4 r hr)).2.1⟩;have:=(wF (nD (h4 r hr)).2.2.1).2;omega
theorem MadeRs.sz (h:MadeRs 0 rs)(v:Int):PoSz ⟨[112],v,rs⟩:=by
 have:=bY1 (h.fin (v:=1) (by omega) (by omega)).1;exact⟨this.n,this.r,this.a,this.t⟩
end Go.Pl
namespace Go.Proofs.YtlldglbooaefhaaGreatDoor
open Go Go.Hl Go.Pl
set_option maxRecDepth 10000
set_option maxHeartbeats 16000000
theorem bY2 (n:Nat)(ob:Ob)(e:TypeId)(sz:Nat)(v:CV)(L:List CV)(t:TypeId):jD (sub [9] n) ob 0 [.box t (.c v),.row e sz L]=upd (upd ob 9 (some (.box t (.c v)))) n (some (.row e sz L)):=rfl
theorem bY3 (n m:Nat):HV.ren (sub [9] n) (.own 1 m)= .own n m:=rfl
theorem bQ7 (L:List Int)(a w:Int)(tr:List Bool)(htr:tr.length<2^63):lJ Tryz.prog 4 tabs [.slc (L.map (.int .i64)),.int .i64 a,.int .i64 w,.slc (tr.map bC)] (fun v=>v= .bool true):=by
 refine bR (args:=[.c (.slc (L.map (.int .i64))),.c (.int .i64 a),.c (.int .i64 w),.c (.slc (tr.map bC))]) Tryz.func4 rfl (by kernel_rfl) (fA tabs [.slc (L.map (.int .i64)),.int .i64 a,.int .i64 w,.slc (tr.map bC)]) (Nat.le_of_ble_eq_true rfl) ?_;unfold eK;have hbt:CV.denilL (tr.map bC)=tr.map bC:=bY (fun _=>rfl) tr;have hbi: ∀l:List Nat,CV.denilL (l.map iC)=l.map iC:=bY fun _=>rfl;refine R0 ?_;refine aC fun K hK=>Rg ?_;have F:=@denilL_int;refine SF ?_;refine HS rfl rfl fun K' hK'=>T6 ?_;refine fQ [] (bV4 L 80) rfl trivial (by simp) (by simp) ⟨rfl,rfl,rfl,rfl⟩ (by simp[eE]) (by simp[HV.menL,HV.men]) ?_;rintro r os' ⟨rfl,rfl⟩;rw[bN6,bC8];refine AX (hK' _ _ ?_);clear hK' K';refine HS rfl rfl fun K' hK'=>T6 ?_;refine fQ [9] (bQ5 (L.take 80) 0 (by have:=aM7 3 (by decide);omega)) rfl ⟨rfl,trivial⟩ (by simp) (by simp) ⟨rfl,rfl,rfl,rfl⟩ (by simp[eE,HO.men,HV.men,HV.menL]) (by simp[HV.menL,HV.men]) ?_;rintro r os' ⟨T,a7,rfl,rfl,hT,ha7⟩;rw[bY2,bY3];refine AX (hK' _ _ ?_);clear hK' K';refine SF ?_;refine T2 (hK _ _ _ ?_);clear hK K;have hlen:=bY0 hT;have hne:=(aV9 hT).ne;have hsh:ShN T:=zR (aV9 hT);clear ha7;refine aC fun K hK=>Rg ?_;have F:=@List.length_map.{0,0};iterate 3 refine SF ?_
 refine HS rfl rfl fun K' hK'=>T6 ?_;refine C2 (pH a (T.length:Int) (by omega) (by omega)) ?_;rintro u ⟨k,hk,rfl⟩;refine AX (hK' _ _ ?_);clear hK' K';refine SF ?_;refine T2 (hK _ _ _ ?_);clear hK K;refine aC fun K hK=>?_;have key: ∀(cl:List Nat) (T':List Nd) fr ob nx,T'.length≤70→ShN T'→Fits 1 (clF ob cl fr) (clO ob cl) (fin [(3,.c (.slc (tr.map bC))),(9,.c (.slc (T'.map Nd.cv)))]) (fob [(0,.tab tabs)]) 20000→K fr ob nx:=by
  rintro cl T' fr ob nx hT70 hT' hf;refine hK _ _ _ (eC cl (bK hf ?_));clear hf hK K hk hsh hne hlen hT;refine aC fun K hK=>?_;refine R0 ?_;refine aL ?_;refine bD (α:={i:Nat//i≤T'.length}) (fun i=>(fin [(3,.c (.slc (tr.map bC))),(9,.c (.slc (T'.map Nd.cv))),(11,.c (.int .i64 i.1))],fob [(0,.tab tabs)])) 30000 (fun i=>T'.length-i.1) ⟨0,Nat.zero_le _⟩ (fF) ?_;rintro⟨i,hi⟩;refine aC fun K hK=>?_;refine aC fun K hK=>Rg ?_;iterate 4 refine SF ?_
  refine T2 (hK _ _ _ ?_);clear hK K;refine aJ (b:=decide ((i:Int)<T'.length)) rfl (fun hb=>?_) (fun hb=>?_)
  ·
   have hlt:i<T'.length:=by simpa using hb
   clear hb;refine aK ?_;refine T0 (hK _ _ _ ?_);clear hK K;refine aC fun K hK=>?_;refine aL ?_;refine aC fun K hK=>Rg ?_;have F:=aI @denilL_Nd hbi;iterate 2 refine SF ?_
   refine HS rfl rfl fun K' hK'=>T6 ?_;refine C2 (tI T' hT' i) ?_;rintro u rfl;refine AX (hK' _ _ ?_);clear hK' K';iterate 2 refine SF ?_
   refine HS rfl rfl fun K' hK'=>T6 ?_;refine C2 (aC6 T' hT' i) ?_;rintro u rfl;refine AX (hK' _ _ ?_);clear hK' K';refine HS rfl rfl fun K' hK'=>T6 ?_;refine C2 (aL2 _ _ (aS3 T' i (by omega))) ?_;rintro u rfl;rw[beq_self_eq_true];refine AX (hK' _ _ ?_);clear hK' K';refine SF ?_;refine T2 (hK _ _ _ ?_);clear hK K;refine CF rfl ?_;refine aK ?_;refine T0 (hK _ _ _ ?_);clear hK K;refine aM (by kernel_rfl) ?_;refine TQ (show IntKind.i64.wrap ((i:Int)+1)=((i+1:Nat):Int)from by rw[IntWalk.i64_in _ (by omega)];rfl) ?_;refine⟨⟨i+1,hlt⟩,fF,?_⟩;show T'.length-(i+1)<T'.length-i;omega
  refine bA (T3 ?_);clear hK K;refine AX (hK _ _ _ ?_);clear hK K;clear hb;refine aC fun K hK=>Rg ?_;have F:=aI @denilL_Nd (aI hbt (aI hbi @beq_self_eq_true.{0}));refine SF ?_;refine HS rfl rfl fun K' hK'=>T6 ?_;refine C1 (qR T' hT') ?_;rintro u rfl;refine AX (hK' _ _ ?_);clear hK' K';refine SF ?_;refine HS rfl rfl fun K' hK'=>T6 ?_;refine C1 (qS T' hT') ?_;rintro u rfl;refine AX (hK' _ _ ?_);clear hK' K';iterate 3 refine SF ?_
  refine aV (g:=some (86,true)) rfl rfl fun K' hK'=>T6 ?_;refine C1 (rZ T' hT') ?_;rintro u rfl;refine AX (hK' _ _ ?_);clear hK' K';refine SF ?_;refine aV (g:=some (86,true)) rfl rfl fun K' hK'=>T6 ?_;refine C1 (aR3 T' hT' (by omega)) ?_;rintro u rfl;refine AX (hK' _ _ ?_);clear hK' K';refine aV (g:=some (86,true)) rfl rfl fun K' hK'=>T6 ?_;refine C2 (aL2 _ _ (aM6 T' (by omega))) ?_;rintro u rfl;rw[beq_self_eq_true];refine AX (hK' _ _ ?_);clear hK' K';iterate 4 refine SF ?_
  refine aV (g:=some (93,true)) rfl rfl fun K' hK'=>T6 ?_;refine C2 (aD9 T' hT' tr htr) ?_;rintro u rfl;refine AX (hK' _ _ ?_);clear hK' K';iterate 2 refine SF ?_
  refine aV (g:=some (93,true)) rfl rfl fun K' hK'=>T6 ?_;refine C2 (bN4 T' hT' tr htr) ?_;rintro u rfl;refine AX (hK' _ _ ?_);clear hK' K';iterate 3 refine SF ?_
  refine aV (g:=some (102,true)) rfl rfl fun K' hK'=>T6 ?_;refine eW (args:=[]) 0 bQ2 rfl (by simp) ⟨rfl,rfl,rfl,rfl⟩ ?_;rintro u rfl;refine AX (hK' _ _ ?_);clear hK' K';iterate 2 refine SF ?_
  refine T2 (hK _ _ _ ?_);clear hK K;refine aF (RT Tryz.results4 ?_);exact dQ [] (.bool true) rfl rfl (by simp) rfl
 have hlt:k<T.length:=by omega
 refine aC fun K hK=>Rg ?_;refine S0 ?_;refine HS rfl rfl fun K' hK'=>T5 ?_;refine C2 (pH w 7 (by omega) (by omega)) ?_;rintro u ⟨x,hx,rfl⟩;refine AX (hK' _ _ ?_);clear hK' K';refine T2 (hK _ _ _ ?_);clear hK K;refine aL ?_;refine R0 ?_;refine aJ (b:=_) rfl (fun hb=>?_) (fun hb=>?_)
 ·
  have hk1:k+1≤T.length:=hlt;have hw1:IntKind.i64.wrap ((k:Int)+1)=((k+1:Nat):Int):=by rw[IntWalk.i64_in _ (by omega)];rfl
  refine eC [13] (bK (fr2:=fin [(3,.c (.slc (tr.map bC))),(9,.c (.slc (T.map Nd.cv))),(10,.c (.int .i64 k))]) (ob2:=fob [(0,.tab tabs)]) (nx2:=10000) (aN (by omega) (by simp[aZ,fin_at,finA_at,upd_at,HV.men,HV.menL,HV.norm,HV.toC,HV.toCL,dF,dG,HO.close,HV.close,HV.closeL,CV.denil,CV.denilL,denilL_Nd,hbt,fob_at,List.length_map]) (by simp[aY,fob_at,upd_at,none0_at,bU,HO.men,HV.men,HV.menL,HV.norm,HV.toC,HV.toCL,dF,dG,HO.close,HV.close,HV.closeL,CV.denil,CV.denilL,denilL_Nd,hbt,fob_at,List.length_map])) ?_);refine DW [(0,[],[]),(1,[],[]),(2,[],[]),(4,[],[]),(5,[],[]),(6,[],[]),(7,[],[]),(3,[],[4,5,6,7]),(8,[],[]),(9,[],[])] [0,0,3,7,0,0,32,112,255,511] ?_;iterate 10 refine W0 ?_ (e:=fun _ h_=>by simp only[sH,↓sP,sA,tyS,simprocAttr,hw1,zJ,List.length_map,Int.natCast_nonneg,Int.ofNat_le,Nat.le_of_lt hlt,hk1,Int.toNat_natCast,Nat.sub_zero,List.drop_zero,Nat.zero_le,←List.map_take,←List.map_drop,←List.map_append,denilL_Nd,List.take_length];exact AX h_)
  refine T4 ?_;have ht1:(T.drop (k+1)).take (T.length-(k+1))=T.drop (k+1):=List.take_of_length_le (by simp);exact key [10012] (T.take k++T.drop (k+1)) _ _ _ (by simp;omega) (fun n hn=>by rcases List.mem_append.1 hn with h|h;exact hsh n (List.mem_of_mem_take h);exact hsh n (List.mem_of_mem_drop h)) (aN (by omega) (by simp[aZ,fin_at,finA_at,upd_at,HV.men,HV.menL,HV.norm,HV.toC,HV.toCL,dF,dG,HO.close,HV.close,HV.closeL,CV.denil,CV.denilL,denilL_Nd,hbt,fob_at,List.length_map,List.map_append,List.length_append,←List.map_take,←List.map_drop,ht1]) (by simp[aY,fob_at,upd_at,none0_at,bU,HO.men,HV.men,HV.menL,HV.norm,HV.toC,HV.toCL,dF,dG,HO.close,HV.close,HV.closeL,CV.denil,CV.denilL,denilL_Nd,hbt,fob_at,List.length_map,List.map_append,List.length_append,←List.map_take,←List.map_drop,ht1]))
 refine R0 ?_;refine aJ (b:=_) rfl (fun hb=>?_) (fun hb=>?_)
 ·
  refine eC [13] (bK (fr2:=fin [(3,.c (.slc (tr.map bC))),(9,.c (.slc (T.map Nd.cv))),(10,.c (.int .i64 k))]) (ob2:=fob [(0,.tab tabs)]) (nx2:=10000) (aN (by omega) (by simp[aZ,fin_at,finA_at,upd_at,HV.men,HV.menL,HV.norm,HV.toC,HV.toCL,dF,dG,HO.close,HV.close,HV.closeL,CV.denil,CV.denilL,denilL_Nd,hbt,fob_at,List.length_map]) (by simp[aY,fob_at,upd_at,none0_at,bU,HO.men,HV.men,HV.menL,HV.norm,HV.toC,HV.toCL,dF,dG,HO.close,HV.close,HV.closeL,CV.denil,CV.denilL,denilL_Nd,hbt,fob_at,List.length_map])) ?_);refine DW [(0,[],[]),(1,[],[]),(2,[],[]),(4,[],[]),(5,[],[]),(6,[],[]),(7,[],[]),(8,[],[]),(10,[8],[]),(11,[8],[]),(12,[8],[]),(3,[8],[4,5,6,7,8,10,11,12]),(9,[],[10,11,12]),(13,[],[]),(14,[],[])] [0,0,3,7,0,0,48,112,240,511,0,0,3072,8191,16383] ?_;iterate 15 refine W0 ?_ (e:=fun _ h_=>by simp only[sH,↓sP,sA,tyS,simprocAttr,zJ,List.length_map,Int.natCast_nonneg,Int.ofNat_lt,Int.ofNat_le,Nat.le_of_lt hlt,hlt,bN hlt,Int.toNat_natCast,Nat.sub_zero,List.drop_zero,Nat.zero_le,←List.map_take,←List.map_drop,←List.map_append,denilL_Nd,List.take_length];exact AX h_)
  refine T4 ?_;have ht1:(T.drop k).take (T.length-k)=T.drop k:=List.take_of_length_le (by simp);have ht2:List.map Nd.cv (T.take (k+1))=List.map Nd.cv (T.take k)++[T[k].cv]:=by
   rw[List.take_succ_eq_append_getElem hlt,List.map_append];rfl
  exact key [10012] (T.take (k+1)++T.drop k) _ _ _ (by simp;omega) (fun n hn=>by rcases List.mem_append.1 hn with h|h;exact hsh n (List.mem_of_mem_take h);exact hsh n (List.mem_of_mem_drop h)) (aN (by omega) (by simp[aZ,fin_at,finA_at,upd_at,HV.men,HV.menL,HV.norm,HV.toC,HV.toCL,dF,dG,HO.close,HV.close,HV.closeL,CV.denil,CV.denilL,denilL_Nd,hbt,fob_at,List.length_map,List.map_append,List.length_append,←List.map_take,←List.map_drop,ht1,ht2]) (by simp[aY,fob_at,upd_at,none0_at,bU,HO.men,HV.men,HV.menL,HV.norm,HV.toC,HV.toCL,dF,dG,HO.close,HV.close,HV.closeL,CV.denil,CV.denilL,denilL_Nd,hbt,fob_at,List.length_map,List.map_append,List.length_append,←List.map_take,←List.map_drop,ht1,ht2]))
 refine R0 ?_;refine aJ (b:=_) rfl (fun hb=>?_) (fun hb=>?_)
 ·
  refine Rg ?_;iterate 9 refine S0 ?_ (e:=fun _ h_=>by simp only[sH,↓sP,sA,tyS,simprocAttr,Int.natCast_nonneg,Int.ofNat_lt,hlt,bN hlt,aC7,tY,aC8 hlt,aW5 hlt,aC9 hlt,List.length_set,List.length_map,List.map_eq_nil_iff];exact AX h_)
  refine T4 ?_;exact key [13] (T.set k ⟨T[k].k,T[k].n,IntKind.i64.wrap (T[k].c+1),T[k].q⟩) _ _ _ (by simp;omega) (hsh.set k (hsh T[k] (List.getElem_mem hlt))) (aN (by omega) (by simp[aZ,fin_at,finA_at,upd_at,HV.men,HV.menL,HV.norm,HV.toC,HV.toCL,dF,dG,HO.close,HV.close,HV.closeL,CV.denil,CV.denilL,denilL_Nd,hbt,fob_at,List.length_map,List.length_set]) (by simp[aY,fob_at,upd_at,none0_at,bU,HO.men,HV.men,HV.menL,HV.norm,HV.toC,HV.toCL,dF,dG,HO.close,HV.close,HV.closeL,CV.denil,CV.denilL,denilL_Nd,hbt,fob_at,List.length_map,List.length_set]))
 refine R0 ?_;refine aJ (b:=_) rfl (fun hb=>?_) (fun hb=>?_)
 ·
  refine Rg ?_;iterate 4 refine S0 ?_ (e:=fun _ h_=>by simp only[sH,↓sP,sA,tyS,simprocAttr,Int.natCast_nonneg,Int.ofNat_lt,hlt,bN hlt,aC7,tY,aC8 hlt,aW5 hlt,aC9 hlt,List.length_set,List.length_map,List.map_eq_nil_iff];exact AX h_)
  refine HS rfl rfl fun K' hK'=>?_;simp only[sH,↓sP,sA,tyS,simprocAttr,Int.natCast_nonneg,Int.ofNat_lt,hlt,bN hlt,aC7,tY,aC8 hlt,aW5 hlt,aC9 hlt,List.length_set,List.length_map,List.map_eq_nil_iff];refine C2 (pH _ 5 (by omega) (by omega)) ?_;rintro u ⟨x5,hx5,rfl⟩;refine AX (hK' _ _ ?_);clear hK' K';iterate 3 refine S0 ?_ (e:=fun _ h_=>by simp only[sH,↓sP,sA,tyS,simprocAttr,Int.natCast_nonneg,Int.ofNat_lt,hlt,bN hlt,aC7,tY,aC8 hlt,aW5 hlt,aC9 hlt,List.length_set,List.length_map,List.map_eq_nil_iff];exact AX h_)
  refine T4 ?_;exact key [13] (T.set k ⟨T[k].k,x5,T[k].c,T[k].q⟩) _ _ _ (by simp;omega) (hsh.set k (hsh T[k] (List.getElem_mem hlt))) (aN (by omega) (by simp[aZ,fin_at,finA_at,upd_at,HV.men,HV.menL,HV.norm,HV.toC,HV.toCL,dF,dG,HO.close,HV.close,HV.closeL,CV.denil,CV.denilL,denilL_Nd,hbt,fob_at,List.length_map,List.length_set]) (by simp[aY,fob_at,upd_at,none0_at,bU,HO.men,HV.men,HV.menL,HV.norm,HV.toC,HV.toCL,dF,dG,HO.close,HV.close,HV.closeL,CV.denil,CV.denilL,denilL_Nd,hbt,fob_at,List.length_map,List.length_set]))
 refine aK (T3 ?_);exact key [13] T _ _ _ (by omega) hsh (aN (by omega) (by simp[aZ,fin_at,finA_at,upd_at,HV.men,HV.menL,HV.norm,HV.toC,HV.toCL,dF,dG,HO.close,HV.close,HV.closeL,CV.denil,CV.denilL,denilL_Nd,hbt,fob_at,List.length_map]) (by simp[aY,fob_at,upd_at,none0_at,bU,HO.men,HV.men,HV.menL,HV.norm,HV.toC,HV.toCL,dF,dG,HO.close,HV.close,HV.closeL,CV.denil,CV.denilL,denilL_Nd,hbt,fob_at,List.length_map]))
set_option maxRecDepth 100000
theorem xN {W:World}(h:laidMetH Tryz.prog Rows.policyMadeRow.laid W):Lib.TabIs Tryz.prog W "internal/strconv.uint64pow10" .u64 Lib.pow10Tab:=by
  rw[MakeChecks.laidMetH_plain _ _ _ (by kernel_rfl)]at h;have h2:=laidMet.filter (fun x=>x.1== "internal/strconv.uint64pow10") h;have e:(Rows.policyMadeRow.laid.filter fun x=>x.1== "internal/strconv.uint64pow10")=[("internal/strconv.uint64pow10",Lib.tabData .u64 Lib.pow10Tab)]:=by kernel_rfl
  rw[e]at h2;exact Lib.tabIs_of_head aD8 (by kernel_rfl) Tryz.underlying169 Tryz.underlying116 (by kernel_rfl) (by kernel_rfl) h2
theorem oI (H:Type)(enc:TypeId×Value→H)(W:World)(args:Array Value)(ds gs:List (DataW H))(before:List MemPlace)
    (hL:laidMetH Tryz.prog Rows.policyMadeRow.laid W)
    (hval: ∀(j:Nat) t v,Tryz.f4.params[j]? =some t→args[j]? =some v→Value.okWide Tryz.prog W .any 0 t v)
    (hW:DataW.Whole enc Tryz.prog Tryz.f4.params.toList Rows.policyMadeSpec.vars false W args.toList ds gs before):
    Calls Tryz.prog 4 args W fun e W'=> ∃v,e= .returned v∧Rows.policyMadeSpec.post enc Tryz.prog Tryz.f4 false true false false W args v W':=by
  refine bA0 (mm:=6) (tb:=4) (tabs:=tabs) (by kernel_rfl) kids aR4 rfl (by kernel_rfl) Tryz.underlying4 ?_ ?_ ?_ ?_ (fun j t v h1 h2=>?_) hW
  · rw[Tryz.params4]
    intro H ds h
    match ds,h with
    |[c0,c1,c2,c3],_=>exact⟨rfl,rfl,rfl⟩
  · rw[Tryz.params4]
    intro t ht;simp only[List.mem_cons,List.not_mem_nil,or_false]at ht;rcases ht with rfl|rfl|rfl|rfl
    · exact⟨by kernel_rfl,of_decide_eq_true (by kernel_rfl)⟩
    · exact⟨by kernel_rfl,of_decide_eq_true (by kernel_rfl)⟩
    · exact⟨by kernel_rfl,of_decide_eq_true (by kernel_rfl)⟩
    · exact⟨by kernel_rfl,of_decide_eq_true (by kernel_rfl)⟩
  · rw[Tryz.params4]
    intro cs hn hty
    match cs,hn,hty with
    |[c0,c1,c2,c3],_,hty=>
      obtain⟨L,rfl,hw,hl⟩:=bV2 (hty 0 _ c0 rfl rfl);obtain⟨a,rfl,_⟩:=(hty 1 _ c1 rfl rfl).of_int Tryz.underlying3;obtain⟨w,rfl,_⟩:=(hty 2 _ c2 rfl rfl).of_int Tryz.underlying3;obtain⟨tr,rfl,htr⟩:=bN5 (hty 3 _ c3 rfl rfl);exact bQ7 L a w tr (by unfold maxLen at htr;omega)
  · intro x hx
    simp only[tabs,List.mem_cons,List.not_mem_nil,or_false]at hx;rcases hx with rfl
    · exact xE aD8 (xN hL)
  · exact hval j t v h1 h2
open Go.ChangeShapes Go.WideShapes Go.ChangeAt Go.RowKit in
set_option maxRecDepth 100000 in
theorem qT (os:Os)(started:os.Started)(H:Type)(enc:TypeId×Value→H):
    ReturnsInHanded {} Tryz.checked os 4 .any (fun w args=>(Rows.policyMadeSpec.pre enc Tryz.prog Tryz.f4 [] false w args∧laidMetH Tryz.prog Rows.policyMadeRow.laid w)∧sizedMet enc Tryz.prog Tryz.f4 (OpenSpec.ofChange Rows.policyMadeSpec) false w args)
      (Rows.policyMadeSpec.post enc Tryz.prog Tryz.f4 false true false false):=by
  refine returnsInHanded_of_change_and (C:=Tryz.checked) (X:=fun w _=>laidMetH Tryz.prog Rows.policyMadeRow.laid w) (fun _ _ _ hh h=>h.of_heap hh) own started (by kernel_rfl) Tryz.func4
    (ChangeSpec.witness_shaped (enc:=enc) (C:=Tryz.checked) (os:=os) (X:=fun w _=>laidMetH Tryz.prog Rows.policyMadeRow.laid w) false (World.laidAll Tryz.prog os Rows.policyMadeRow.laid) #[.slice none 0 0,.int .i64 0,.int .i64 0,.slice none 0 0] 8 (World.laidAll_os _ _ _)
      (World.shaped_of_ZipB (by kernel_rfl) (by kernel_rfl)) (by kernel_rfl) (by kernel_rfl) (by kernel_rfl)
      (by rw[MakeChecks.laidMetH_plain _ _ _ (by kernel_rfl)];exact laidMet_laidAll _ (by kernel_rfl) (by kernel_rfl))) ?_
  intro W base args ds gs before hval hW _ _ hL _;exact oI H enc W args ds gs before hL (fun j t v h1 h2=>(hval j t v h1 h2)) hW
theorem wT :Rows.PolicyMadeSaid:=
  OpenClaim.holds_of_wide 4 Tryz.f4 rfl rfl rfl rfl rfl rfl rfl ⟨rfl,rfl,rfl,rfl,rfl⟩ rfl rfl rfl rfl rfl (by kernel_rfl) Tryz.func4 (by kernel_rfl)
    (of_decide_eq_true (by kernel_rfl)) (by unfold Func.isWrapper;first|(rw[if_pos (by decide+kernel)];kernel_rfl)|(rw[if_neg (by decide+kernel)];exact⟨rfl,rfl⟩))
    (fun os started H enc _=>qT os started H enc)
theorem policyMade_said :Rows.PolicyMadeCardSaid:=
  Claim7.holds_tied_plain_at .later [] [.data,.data,.data,.data,.pinned] true (true,"ff5d47cd62c7d13f21802cca9c8b9512cc3c2844dd4407b78ea0f3c0525ec3f2") false wT (fun _ h=>by cases h) (by kernel_rfl) (fun _ h=>by cases h) policyMade_row_tie rfl ⟨rfl,rfl⟩ (by kernel_rfl) rfl
    (fun f fn hf hfn=>by
      obtain rfl:f=4:=Option.some.inj ((show Tryz.prog.funcNamed "admission/admissionlaw28.PolicyMade" =some 4 by kernel_rfl).symm.trans hf)|>.symm;obtain rfl:fn=Tryz.f4:=(Option.some.inj (Tryz.func4.symm.trans hfn)).symm;exact⟨by kernel_rfl,fun j t ht=>by
        rw[Tryz.params4]at ht;have hm:t∈[23,3,3,24]:=by simpa using Array.mem_of_getElem? ht
        have hall:([23,3,3,24].all fun u=>!Tryz.prog.wantsStandIn u)=true:=by kernel_rfl
        exact(show Tryz.prog.wantsStandIn t=false by simpa using List.all_eq_true.1 hall t hm)⟩)
    (by kernel_rfl)
#print axioms policyMade_said
end Go.Proofs.YtlldglbooaefhaaGreatDoor
