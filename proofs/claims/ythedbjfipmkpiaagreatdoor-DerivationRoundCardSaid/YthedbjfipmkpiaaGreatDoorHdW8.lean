/- Part of a proof: walks of functions of the program, by contracts, and the rules they use. By an AI agent. -/
import Derived.Test.YthedbjfipmkpiaaGreatDoorPl11c
import Derived.Test.YthedbjfipmkpiaaGreatDoorHdX9
import Derived.Test.YthedbjfipmkpiaaGreatDoorHdSb
import Derived.Test.YthedbjfipmkpiaaGreatDoorPl31h
import Derived.Test.YthedbjfipmkpiaaGreatDoorHdTl
import Derived.Test.YthedbjfipmkpiaaGreatDoorHdOr
set_option linter.unusedSimpArgs false
set_option linter.unusedVariables false
set_option linter.defProp false
namespace Go.Proofs.YthedbjfipmkpiaaGreatDoor
open Go Go.Hl Go.Pl
set_option maxRecDepth 10000
set_option maxHeartbeats 16000000
theorem bP1 (N n:Nat)(ob:Ob)(e:TypeId)(sz:Nat)(v:CV)(L:List CV)(t:TypeId):jD (sub [0,N] n) ob 0 [.box t (.c v),.row e sz L]=upd (upd ob 0 (some (.box t (.c v)))) N (some (.row e sz L)):=rfl
theorem cC3 (N n m:Nat):HV.ren (sub [0,N] n) (.own 1 m)= .own N m:=rfl
theorem cU9 (L:List Int)(a:Nat):lst [.box 76 (.c (tp L a))]=fob [(0,.box 76 (.c (tp L a)))]:=by
 funext i
 match i with
 |0=>rfl
 |i+1=>simp[lst,fob,upd]
abbrev MkR (L:List Int)(a d:Nat)(r:HV)(os':List HO):Prop:=
 ∃(t:List Nd) (a':Nat),r= .own 1 t.length∧os'=[.box 76 (.c (tp L a')),.row 89 7 (t.map Nd.cv)]∧Made d 0 t∧a'≤a+aB d
theorem aG5 {ob:Ob}{L:List Int}{a d m a':Nat}{t:List Nd}{X:List CV}(N:Nat)(hN:1≤N)(h0:ob 0=some (.box 76 (.c (tp L a'))))(h1:ob N=some (.row 89 7 X))(hm:m=t.length)(hX:X=t.map Nd.cv)(hM:Made d 0 t)(ha:a'≤a+aB d):
  iR 1 (.own N m) ob (fun r ob'=> ∃os',ob'=lst os'∧(1≤os'.length∧os'.length≤1+4)∧ ∃(t:List Nd) (a':Nat),r= .own 1 t.length∧os'=[.box 76 (.c (tp L a')),.row 89 7 (t.map Nd.cv)]∧Made d 0 t∧a'≤a+aB d):=by
 subst hm hX;have e1:tau 1 [N] 1=N:=rfl;exact gU [] [N] (.own 1 t.length) [.box 76 (.c (tp L a')),.row 89 7 (t.map Nd.cv)] (by simp[HV.close,HV.norm,HV.toC,HV.ren,e1]) (by simp[HV.men]) ⟨⟨by simp[HO.men,HV.men],by simp,_,h0,by simp[HO.close,HV.close,HO.ren,HV.ren,HV.norm,aO8,HV.toC,tp,CV.denil,CV.denilL,denilL_int]⟩,⟨by simp[HO.men],by simp,_,h1,rfl⟩,trivial⟩ rfl (by simp) (by simpa using hN) (by simp) ⟨t,a',rfl,rfl,hM,ha⟩
theorem cK0 (d:Nat)(L:List Int)(a:Nat)(hd:d≤3)(ha:a+aB d<2^38):
  HGe Tryz.prog 36 [.ptr 0 0,.c .nils,.c (.int .i64 d)] [.box 76 (.c (tp L a))] (MkR L a d):=by
 refine bI (args:=[.ptr 0 0,.c .nils,.c (.int .i64 d)]) Tryz.func36 rfl (by kernel_rfl) (eZ rfl (by simp[dS,HO.men,HV.men,HV.menL]) (by simp[HV.menL,HV.men])) (Nat.le_of_ble_eq_true rfl) ?_;show Hw _ _ 1 _ _ _ (lst _) 1;rw[cU9];have hab:=aU5 d hd;have hw1: ∀x:Int,0≤x→x<100→IntKind.i64.wrap (1+x)=1+x:=fun x h1 h2=>IntWalk.i64_in _ (by omega);have hw2: ∀x:Int,0≤x→x<100→IntKind.i64.wrap (2+x)=2+x:=fun x h1 h2=>IntWalk.i64_in _ (by omega);refine R0 ?_;refine aC fun K hK=>?_;refine aC fun K hK=>?_;have key: ∀(b:Bool) (a1:Nat) fr ob nx,(b=false→0<d)→a1≤a+1→Fits 1 fr ob (fin [(0,.ptr 0 0),(1,.c .nils),(2,.c (.int .i64 d)),(20,.c (.bool b))]) (fob [(0,.box 76 (.c (tp L a1)))]) 200→K fr ob nx:=by
  rintro b a1 fr ob nx hbf ha1 hf;refine hK _ _ _ (bJ hf ?_);clear hf hK K;refine aK (b:=b) rfl (fun hb=>?_) (fun hb=>?_)
  ·
   clear hbf;refine aC fun K hK=>Rg ?_;iterate 2 refine S0 ?_
   refine HS rfl rfl fun K' hK'=>T5 ?_;refine bM (args:=[]) (bG6 L a1 (by omega)) rfl (by simp) ⟨rfl,rfl,rfl,rfl⟩ ?_;rintro u v' ⟨q,a2,rfl,rfl,s1,s2⟩;refine AX (hK' _ _ ?_);clear hK' K';iterate 4 refine S0 ?_
   refine T2 (hK _ _ _ ?_);clear hK K;refine aH (RT Tryz.results36 ?_);have:=cL9 d hd;exact aG5 220 (by decide) (t:=[⟨1,0,0,q⟩]) rfl rfl (by simp) (by simp) (aF8 s2) (by omega)
  have hd0:=hbf hb;clear hbf hb;refine aM ?_;refine T0 (hK _ _ _ ?_);clear hK K;refine aC fun K hK=>Rg ?_;refine S0 ?_;refine HS rfl rfl fun K' hK'=>T5 ?_;refine bM (args:=[_]) (dE L a1 3 (by omega) (by omega)) rfl (by simp) ⟨rfl,rfl,rfl,rfl⟩ ?_;rintro u v' ⟨x,a2,rfl,rfl,h1,h2,h3,h4⟩;refine AX (hK' _ _ ?_);clear hK' K';iterate 2 refine S0 ?_
  refine HS rfl rfl fun K' hK'=>T5 ?_;refine bM (args:=[_]) (dE L a2 3 (by omega) (by omega)) rfl (by simp) ⟨rfl,rfl,rfl,rfl⟩ ?_;rintro u v' ⟨y,a3,rfl,rfl,g1,g2,g3,g4⟩;refine AX (hK' _ _ ?_);clear hK' K';iterate 4 refine S0 ?_
  refine T2 (hK _ _ _ ?_);clear hK K;refine aC fun K hK=>?_;have key2: ∀(k c N:Int) (a4:Nat) fr ob nx,(1≤c∧c≤3)→k≠1→dB ⟨k,N,c,rq0⟩=true→a4≤a+4→Fits 1 fr ob (fin [(0,.ptr 0 0),(1,.c .nils),(2,.c (.int .i64 d)),(7,.ptr 228 0)]) (fob [(0,.box 76 (.c (tp L a4))),(228,.box 89 (.c (Nd.cv ⟨k,N,c,rq0⟩)))]) 700→K fr ob nx:=by
   rintro k c N a4 fr ob nx ⟨hc1,hc3⟩ hk1 hnode ha4 hf;refine hK _ _ _ (bJ hf ?_);clear hf hK K;refine aC fun K hK=>Rg ?_;iterate 5 refine S0 ?_
   refine T2 (hK _ _ _ ?_);clear hK K;refine aC fun K hK=>?_;refine R0 ?_;refine aN ?_;refine bH (α:={w:List Nd×Nat×Nat//MadeK (d-1) 0 w.2.1 w.1∧w.2.2≤a+4+w.2.1*aB (d-1)∧(w.2.1:Int)≤c∧w.1.length≤60*w.2.1}) (fun w=>(fin [(0,.ptr 0 0),(1,.own 712 (1+w.1.1.length)),(2,.c (.int .i64 d)),(7,.ptr 228 0),(8,.c (.int .i64 w.1.2.1))],fob [(0,.box 76 (.c (tp L w.1.2.2))),(712,.row 89 7 ((⟨k,N,c,rq0⟩::w.1.1:List Nd).map Nd.cv)),(228,.box 89 (.c (Nd.cv ⟨k,N,c,rq0⟩)))])) 2000 (fun w=>10-w.1.2.1) ⟨([],0,a4),MadeK.zero _ _,by simp only;omega,by simp only;omega,by simp⟩ (fF) ?_;rintro⟨⟨ts,j,a5⟩,i1,i2,i3,i4⟩;simp only at i1 i2 i3 i4;refine aC fun K hK=>?_;refine aC fun K hK=>Rg ?_;iterate 4 refine S0 ?_
   refine T2 (hK _ _ _ ?_);clear hK K;refine aK (b:=decide ((j:Int)<c)) rfl (fun hb=>?_) (fun hb=>?_)
   ·
    have hjc:(j:Int)<c:=by simpa using hb
    clear hb;obtain⟨M,hM⟩: ∃M:List Nd,M=⟨k,N,c,rq0⟩::ts:=⟨_,rfl⟩;have hMl:1+ts.length=M.length:=by rw[hM];simp;omega
    have hMm:Nd.cv ⟨k,N,c,rq0⟩::List.map Nd.cv ts=List.map Nd.cv M:=by rw[hM];rfl
    rw[hMm,hMl];have hwd:IntKind.i64.wrap ((d:Int)-1)=((d-1:Nat):Int):=by rw[IntWalk.i64_in _ (by omega)];omega
    have hab1:=aU5 (d-1) (by omega);have hj3:j≤2:=by omega
    have hja:j*aB (d-1)≤2*aB (d-1):=Nat.mul_le_mul_right _ hj3;have hdd:aB d=8+3*aB (d-1):=by
     obtain⟨e,rfl⟩: ∃e,d=e+1:=⟨d-1,by omega⟩;rfl
    refine aM ?_;refine T0 (hK _ _ _ ?_);clear hK K;refine aC fun K hK=>?_;refine aN ?_;refine Rg ?_;have F:=hwd;iterate 4 refine SF ?_
    refine HS rfl rfl fun K' hK'=>T6 ?_;refine eX [0,712] (cQ4 (d-1) L a5 M (by omega) (by omega) (by omega) (by omega)) rfl ⟨rfl,rfl,trivial⟩ (by simp) (by simp) ⟨rfl,rfl,rfl,rfl⟩ (by simp[dS,HO.men,HV.men,HV.menL]) (by simp[HV.menL,HV.men]) ?_;rintro r os' ⟨t,a6,rfl,rfl,ht,ha6⟩;rw[bP1,cC3];refine AX (hK' _ _ ?_);clear hK' K';refine SF ?_;refine T2 (hK _ _ _ ?_);clear hK K;refine aE (by kernel_rfl) ?_;refine TQ (IntWalk.i64_in ((j:Int)+1) (by omega)) ?_;have htl:=aU6 ht (by omega);have hnx:=i1.next (t:=t) (by rw[Nat.zero_add,hMl];exact ht);refine⟨⟨(ts++t,j+1,a6),hnx,by simp only[Nat.add_mul,Nat.one_mul];omega,by simp only;omega,by simp only[List.length_append];omega⟩,?_,?_⟩
    ·
     have e1:Nd.cv ⟨k,N,c,rq0⟩::List.map Nd.cv (ts++t)=List.map Nd.cv (M++t):=by rw[hM];simp
     have e2:(M++t).length=1+(ts++t).length:=by rw[hM];simp;omega
     simp only[];rw[e1,←e2];exact fF
    show 10-(j+1)<10-j;omega
   have hjc:(j:Int)=c:=by simp at hb;omega
   have hj3:j≤3:=by omega
   have hja:j*aB (d-1)≤3*aB (d-1):=Nat.mul_le_mul_right _ hj3;obtain⟨d',rfl⟩: ∃d',d=d'+1:=⟨d-1,by omega⟩;simp only[Nat.add_sub_cancel]at i1 i2 hja;have hm:=i1.fin (x:=⟨k,N,c,rq0⟩) (by omega) hnode hk1 hjc.symm (by omega) (by omega);refine aZ (T3 ?_);clear hK K;refine AX (hK _ _ _ ?_);clear hK K;refine R0 ?_;refine aH (RT Tryz.results36 ?_);exact aG5 712 (by decide) (t:=⟨k,N,c,rq0⟩::ts) rfl rfl (by simp;omega) rfl hm (by simp only[aB];omega)
  have hx3:=h4 (by omega);have hy3:=g4 (by omega);obtain⟨k,hk⟩: ∃k,k=IntKind.i64.wrap (2+x):=⟨_,rfl⟩;obtain⟨c,hc⟩: ∃c,c=IntKind.i64.wrap (1+y):=⟨_,rfl⟩;have hkx:k=2+x:=by rw[hk,hw2 x h2 (by omega)]
  have hcy:c=1+y:=by rw[hc,hw1 y g2 (by omega)]
  rw[←hk,←hc];clear hk hc h3 h4 g3 g4;refine R0 ?_;refine aK (b:=_) rfl (fun hb=>?_) (fun hb=>?_)
  ·
   refine Rg ?_;iterate 3 refine S0 ?_
   refine HS rfl rfl fun K' hK'=>T5 ?_;refine bM (args:=[_]) (dE L a3 c (by omega) (by omega)) rfl (by simp) ⟨rfl,rfl,rfl,rfl⟩ ?_;rintro u v' ⟨z,a4,rfl,rfl,f1,f2,f3,f4⟩;refine AX (hK' _ _ ?_);clear hK' K';iterate 3 refine S0 ?_
   refine T4 ?_;have f5:=f4 (by omega);have hk4:k=4:=by simpa using hb
   exact key2 k c (IntKind.i64.wrap (1+z)) a4 _ _ _ ⟨by omega,by omega⟩ (by omega) (by rw[hw1 z f2 (by omega),dB,if_neg (by simp only;omega),if_neg (by simp only;omega),if_pos hk4];simp[inB,fZ];omega) (by omega) (aO (by omega) (by simp[aX,fin_at,finA_at,upd_at,HV.men,HV.menL,HV.norm,HV.toC,HV.toCL,Nd.cv,rq0]) (by simp[aY,fob_at,upd_at,none0_at,bO,HO.men,HV.men,HV.menL,HV.norm,HV.toC,HV.toCL,Nd.cv,rq0]))
  refine aM (T3 ?_);have hk4: ¬k=4:=by simpa using hb
  exact key2 k c 0 a3 _ _ _ ⟨by omega,by omega⟩ (by omega) (by rw[dB,if_neg (by simp only;omega),if_pos (by simp only;omega)];simp[inB,fZ];omega) (by omega) (aO (by omega) (by simp[aX,fin_at,finA_at,upd_at,HV.men,HV.menL,HV.norm,HV.toC,HV.toCL,Nd.cv,rq0]) (by simp[aY,fob_at,upd_at,none0_at,bO,HO.men,HV.men,HV.menL,HV.norm,HV.toC,HV.toCL,Nd.cv,rq0]))
 refine Rg ?_;iterate 3 refine S0 ?_
 refine aG 10 rfl (fun h1_10=>?_) (fun h1_10=>?_)
 ·
  have F:=h1_10;iterate 9 refine SF ?_
  refine T4 ?_;exact key true a _ _ _ (fun h=>by cases h) (by omega) (fF)
 have F:=h1_10;refine SF ?_;refine aF (g:=some (11,false)) rfl rfl fun K' hK'=>T6 ?_;refine bM (args:=[_]) (dE L a 3 (by omega) (by omega)) rfl (by simp) ⟨rfl,rfl,rfl,rfl⟩ ?_;rintro u v' ⟨x,a1,rfl,rfl,h1,h2,h3,h4⟩;refine AX (hK' _ _ ?_);clear hK' K';iterate 3 refine SF ?_
 refine aG 14 rfl (fun h1_14=>?_) (fun h1_14=>?_)
 ·
  have F:=aI h1_10 h1_14;iterate 4 refine SF ?_
  refine T4 ?_;exact key true a1 _ _ _ (fun h=>by cases h) h1 (fF)
 have F:=aI h1_10 h1_14;refine SF ?_;refine aF (g:=some (16,false)) rfl rfl fun K' hK'=>T6 ?_;obtain⟨z,hz⟩: ∃z:Int,z=0:=⟨_,rfl⟩;rw[←hz];refine AX (hK' _ _ ?_);clear hK' K';iterate 2 refine SF ?_
 refine aG 19 rfl (fun h1_19=>?_) (fun h1_19=>?_)
 · simp only[h1_19];refine T4 ?_;exact key true a1 _ _ _ (fun h=>by cases h) h1 (fF)
 simp only[h1_19];refine T4 ?_;exact key false a1 _ _ _ (fun _=>(by simp at h1_10;omega)) h1 (fF)
theorem cK1 (n:Nat)(ob:Ob)(e:TypeId)(sz:Nat)(v:CV)(L:List CV)(t:TypeId):jD (sub [0] n) ob 0 [.box t (.c v),.row e sz L]=upd (upd ob 0 (some (.box t (.c v)))) n (some (.row e sz L)):=rfl
theorem cQ5 (n m:Nat):HV.ren (sub [0] n) (.own 1 m)= .own n m:=rfl
theorem bP2 (L:List Int)(a:Nat)(ha:a<2^37):zT Tryz.prog 11 76 (tp L a) [] (fun u v'=> ∃(t:List Nd) (a':Nat),u= .slc (t.map Nd.cv)∧v'=tp L a'∧Made 3 0 t∧a'≤a+400):=by
 refine bI Tryz.func11 rfl (by kernel_rfl) (fN _ _ _) (Nat.le_of_ble_eq_true rfl) ?_;have hab:=aU5 3 (by decide);refine R0 ?_;refine aC fun K hK=>bY (by kernel_rfl) ?_;simp only[sR,simprocAttr];refine SG0 ?_;refine uZ (g:=none) rfl rfl fun K' hK'=>?_;simp only[sN,↓hopH.eq_def,sH,↓sP,sA,tyS,simprocAttr];refine eX [0] (cK0 3 L a (by decide) (by omega)) rfl ⟨rfl,trivial⟩ (by simp) (by simp) ⟨rfl,rfl,rfl,rfl⟩ (by simp[dS,HO.men,HV.men,HV.menL]) (by simp[HV.menL,HV.men]) ?_;rintro r os' ⟨t,a',rfl,rfl,ht,ha'⟩;rw[cK1,cQ5];refine AX (hK' _ _ ?_);clear hK' K';refine SG0 ?_;refine T2 (hK _ _ _ ?_);clear hK K;refine aH (RT Tryz.results11 ?_);exact gO [9] (.slc (t.map Nd.cv)) (tp L a') (by simp[HV.close,HV.closeL,CV.denil,CV.denilL,denilL_Nd,HV.norm,HV.toC,HV.toCL,fob_at,upd_at]) rfl (by simp[HV.close,HV.closeL,tp,CV.denil,CV.denilL,denilL_int,HV.norm,HV.toC,HV.toCL]) (by simp) ⟨t,a',rfl,rfl,ht,by omega⟩
end Go.Proofs.YthedbjfipmkpiaaGreatDoor
namespace Go.Pl
open Go Go.Hl
end Go.Pl
namespace Go.Proofs.YthedbjfipmkpiaaGreatDoor
open Go Go.Hl Go.Pl
set_option maxRecDepth 10000
set_option maxHeartbeats 16000000
theorem aU8 (L:List Int)(a:Nat)(T:List Nd)(hn: ∀n∈T,n.q.t.length<2^63)(hlv:(dN T).length≤16)(odds:Int)(ho:odds<2^40)(ha:a<2^38):zT Tryz.prog 12 76 (tp L a) [.slc (T.map Nd.cv),.int .i64 odds] (fun u v'=> ∃(S:List Sp) (a':Nat),u= .slc (S.map Sp.cv)∧v'=tp L a'∧S.length=(dN T).length∧(∀x∈S,x.d.length≤2)∧a'≤a+64):=by
 refine bI Tryz.func12 rfl (by kernel_rfl) (fN _ _ _) (Nat.le_of_ble_eq_true rfl) ?_;refine R0 ?_;refine R0 ?_;refine aC fun K hK=>?_;refine R0 ?_;refine aN ?_;refine jI 7 0 64 3 rfl rfl rfl rfl ?_;refine bH (α:={y:Nat×List Sp×Nat//y.1≤(dN T).length∧y.2.1.length=y.1∧(∀x∈y.2.1,x.d.length≤2)∧y.2.2≤a+4*y.1}) (fun y=>(fin [(0,.ptr 0 0),(1,.c (.slc (T.map Nd.cv))),(2,.c (.int .i64 odds)),(7,.own 13 y.1.2.1.length),(8,.c (.int .i64 y.1.1))],fob [(0,.box 76 (.c (tp L y.1.2.2))),(13,.row 64 3 (y.1.2.1.map Sp.cv))])) 200 (fun y=>(dN T).length-y.1.1) ⟨(0,[],a),by simp,rfl,by simp,by simp⟩ (fF) ?_;rintro⟨⟨i,S,b⟩,hi,hS,hd,hbb⟩;simp only at hi hS hd hbb⊢;refine aC fun K hK=>?_;refine aC fun K hK=>Rg ?_;have F:=aI @denilL_Nd @List.length_map.{0,0};iterate 2 refine SF ?_
 refine HS rfl rfl fun K' hK'=>T6 ?_;refine C1 (uF T hn) ?_;rintro u rfl;refine AX (hK' _ _ ?_);clear hK' K';iterate 2 refine SF ?_
 refine T2 (hK _ _ _ ?_);clear hK K;refine aK (b:=decide ((i:Int)<(dN T).length)) rfl (fun hb=>?_) (fun hb=>?_)
 ·
  have hlt:i<(dN T).length:=by have:=of_decide_eq_true hb;omega
  clear hb;refine aM ?_;refine T0 (hK _ _ _ ?_);clear hK K;refine aC fun K hK=>?_;refine aN ?_;refine aC fun K hK=>Rg ?_;iterate 2 refine S0 ?_
  refine HS rfl rfl fun K' hK'=>T5 ?_;refine bM (args:=[_]) (dE L b odds (by omega) (by omega)) rfl (by simp) ⟨rfl,rfl,rfl,rfl⟩ ?_;rintro u v' ⟨x,a1,rfl,rfl,h1,h2,h3,h4⟩;refine AX (hK' _ _ ?_);clear hK' K';iterate 4 refine S0 ?_
  refine T2 (hK _ _ _ ?_);clear hK K;refine aC fun K hK=>?_;refine aC fun K hK=>Rg ?_;refine S0 ?_;refine HS rfl rfl fun K' hK'=>T5 ?_;refine bM (args:=[_]) (dE L a1 3 (by omega) (by omega)) rfl (by simp) ⟨rfl,rfl,rfl,rfl⟩ ?_;rintro u v' ⟨y,a2,rfl,rfl,g1,g2,g3,g4⟩;obtain⟨m,rfl⟩: ∃m:Nat,y=m:=⟨y.toNat,by omega⟩;have hm:m≤2:=by have:=g4 (by omega);omega
  clear g2 g3 g4;refine AX (hK' _ _ ?_);clear hK' K';refine S0 ?_;refine T2 (hK _ _ _ ?_);clear hK K;refine aN ?_;obtain⟨hh,hhe⟩: ∃c,c=decide (0<x):=⟨_,rfl⟩;rw[←hhe];refine fL [] ?_;refine bH (α:={z:Nat×List Dig×Nat//z.1+z.2.1.length≤2∧z.2.2+z.1≤a2+2}) (fun z=>(fin [(0,.ptr 0 0),(1,.c (.slc (T.map Nd.cv))),(2,.c (.int .i64 odds)),(7,.own 13 S.length),(8,.c (.int .i64 i)),(9,.ptr 240 0),(10,.c (.int .i64 z.1.1))],fob [(0,.box 76 (.c (tp L z.1.2.2))),(13,.row 64 3 (S.map Sp.cv)),(240,.box 64 (.c (Sp.cv ⟨hh,z.1.2.1,0⟩)))])) 500 (fun z=>z.1.1) ⟨(m,[],a2),by simp;omega,by simp;omega⟩ (aO (by omega) (by simp[aX,fin_at,finA_at,upd_at,HV.men,HV.menL,HV.norm,HV.toC,HV.toCL,fS,iH,HO.close,HV.close,HV.closeL,tp,CV.denil,CV.denilL,denilL_int,denilL_Nd,Sp.cv]) (by simp[aY,fob_at,upd_at,none0_at,bO,HO.men,HV.men,HV.menL,HV.norm,HV.toC,HV.toCL,fS,iH,HO.close,HV.close,HV.closeL,tp,CV.denil,CV.denilL,denilL_int,denilL_Nd,Sp.cv])) ?_;rintro⟨⟨n,D,a3⟩,hz1,hz2⟩;simp only at hz1 hz2⊢;refine aC fun K hK=>?_;refine aC fun K hK=>Rg ?_;iterate 3 refine S0 ?_
  refine aG 26 rfl (fun h7_26=>?_) (fun h7_26=>?_)
  ·
   have F:=h7_26;iterate 3 refine SF ?_
   refine aG 29 rfl (fun h7_29=>?_) (fun h7_29=>?_)
   ·
    simp only[h7_29];refine T2 (hK _ _ _ ?_);clear hK K;refine CT rfl ?_;refine aM ?_;refine T0 (hK _ _ _ ?_);clear hK K;refine aC fun K hK=>?_;refine aN ?_;refine DW [(0,[],[]),(1,[],[]),(2,[],[]),(3,[],[0,1]),(4,[],[]),(5,[],[]),(6,[],[]),(7,[],[]),(8,[],[]),(9,[],[])] [0,1,0,4,12,28,60,127,255,511] ?_;have F:=aI @denilL_dg (aI h7_26 h7_29);iterate 3 refine WF ?_
    refine cJ (g:=none) rfl rfl fun K' hK'=>T6 ?_;refine bM (args:=[_]) (dE L a3 9 (by omega) (by omega)) rfl (by simp) ⟨rfl,rfl,rfl,rfl⟩ ?_;rintro u v' ⟨x2,a4,rfl,rfl,k1,k2,k3,k4⟩;have hx2:=k4 (by omega);have e1:IntKind.i64.wrap (1+x2)=1+x2:=IntWalk.i64_in _ (by omega);have e2:IntKind.u8.wrap (1+x2)=1+x2:=IntWalk.u8_in _ (by omega);refine AX (hK' _ _ ?_);clear hK' K';have F:=aI @denilL_dg (aI e1 (aI e2 (aI h7_26 h7_29)));iterate 3 refine WF ?_
    refine cJ (g:=none) rfl rfl fun K' hK'=>T6 ?_;rw[tM (show 0≤1+x2 by omega) (by omega)];refine C2 (cJ4 D (dg1 (UInt8.ofNat (1+x2).toNat)) (by omega)) ?_;rintro u ⟨Q,rfl,hQ⟩;have hQl:Q.length≤D.length+1:=by
     have h1:=bR5 (dws D) (dg1 (UInt8.ofNat (1+x2).toNat)).1;rw[←hQ,fW,fW]at h1;exact h1
    refine AX (hK' _ _ ?_);clear hK' K';iterate 2 refine WF ?_
    refine T2 (hK _ _ _ ?_);clear hK K;refine aE (by kernel_rfl) ?_;simp only[↓sP,sA,tyS,simprocAttr];have hnp:0<n:=by have:=of_decide_eq_true h7_26;omega
    have ew:IntKind.i64.wrap ((n:Int)-1)=((n-1:Nat):Int):=by rw[IntWalk.i64_in _ (by omega)];omega
    subst h7_29;rw[ew];refine⟨⟨(n-1,Q,a4),by simp only;omega,by simp only;omega⟩,fF,by simp only;omega⟩
   simp only[h7_29];refine T2 (hK _ _ _ ?_);clear hK K;refine CF rfl ?_;refine aZ (T3 ?_);clear hK K;refine AX (hK _ _ _ ?_);clear hK K;refine Rg ?_;have F:=aI h7_26 h7_29;iterate 5 refine SF ?_
   refine T2 (hK _ _ _ ?_);clear hK K;refine aE (by kernel_rfl) ?_;simp only[↓sP,sA,tyS,simprocAttr];have ew:IntKind.i64.wrap ((i:Int)+1)=((i+1:Nat):Int):=by rw[IntWalk.i64_in _ (by omega)];rfl
   rw[ew];refine⟨⟨(i+1,S++[⟨false,D,0⟩],a3),by simp only;omega,by simp only[List.length_append,List.length_cons,List.length_nil];omega,fun z hz=>?_,by simp only;omega⟩,(fF),by simp only;omega⟩;rcases List.mem_append.1 hz with hz|hz
   · exact hd z hz
   rw[List.mem_singleton.1 hz];simp only;omega
  have F:=h7_26;iterate 3 refine SF ?_
  refine T2 (hK _ _ _ ?_);clear hK K;refine CF rfl ?_;refine aZ (T3 ?_);clear hK K;refine AX (hK _ _ _ ?_);clear hK K;refine Rg ?_;iterate 5 refine SF ?_
  refine T2 (hK _ _ _ ?_);clear hK K;refine aE (by kernel_rfl) ?_;simp only[↓sP,sA,tyS,simprocAttr];have ew:IntKind.i64.wrap ((i:Int)+1)=((i+1:Nat):Int):=by rw[IntWalk.i64_in _ (by omega)];rfl
  rw[ew];refine⟨⟨(i+1,S++[⟨hh,D,0⟩],a3),by simp only;omega,by simp only[List.length_append,List.length_cons,List.length_nil];omega,fun z hz=>?_,by simp only;omega⟩,(fF),by simp only;omega⟩;rcases List.mem_append.1 hz with hz|hz
  · exact hd z hz
  rw[List.mem_singleton.1 hz];simp only;omega
 have hie:i=(dN T).length:=by have:=of_decide_eq_false hb;omega
 subst hie;clear hb;refine aZ (T3 ?_);clear hK K;refine AX (hK _ _ _ ?_);clear hK K;refine R0 ?_;refine aH (RT Tryz.results12 ?_);refine gO [13] (.slc (S.map Sp.cv)) (tp L b) (by simp[HV.close,HV.closeL,CV.denil,CV.denilL,denilL_Sp,HV.norm,HV.toC,HV.toCL,fob_at,upd_at]) rfl (by simp[HV.close,HV.closeL,tp,CV.denil,CV.denilL,denilL_int,HV.norm,HV.toC,HV.toCL]) (by simp) ⟨S,b,rfl,rfl,hS,hd,by omega⟩
theorem aG6 (S:List Sp)(hl:S.length<2^40):cE Tryz.prog 31 [.slc (S.map Sp.cv)] (fun v=>v= .slc ((cF S).map bC)):=by
 refine bI Tryz.func31 rfl (by kernel_rfl) (dJ _) (Nat.le_of_ble_eq_true rfl) ?_;refine aC fun K hK=>aE (by kernel_rfl) ?_;simp (maxSteps:=4000000) only[↓sP,sA,tyS,simprocAttr];repeat refine AI ?_
 refine hK _ _ _ ?_;clear hK K;refine aC fun K hK=>aE (by kernel_rfl) ?_;simp (maxSteps:=4000000) only[↓sP,sA,tyS,simprocAttr];repeat refine AI ?_
 refine hK _ _ _ ?_;clear hK K;refine aC fun K hK=>?_;refine aC fun K hK=>aE (by kernel_rfl) ?_;simp (maxSteps:=4000000) only[↓sP,sA,tyS,simprocAttr];repeat refine AI ?_
 refine hK _ _ _ ?_;clear hK K;refine aN ?_;refine jI 3 0 4 1 rfl rfl rfl rfl ?_;refine bH (α:={i:Nat//i≤S.length}) (fun i=>(fin [(0,.c (.slc (S.map Sp.cv))),(3,.own 12 i.1),(4,.c (.int .i64 i.1))],fob [(12,.row 4 1 ((cF (S.take i.1)).map bC))])) 100 (fun i=>S.length-i.1) ⟨0,by omega⟩ (aO (by omega) (by simp[aX,fin_at,finA_at,upd_at,HV.men,HV.menL,HV.norm,HV.toC,HV.toCL,cF]) (by simp[aY,fob_at,upd_at,none0_at,bO,HO.men,HV.men,HV.menL,HV.norm,HV.toC,HV.toCL,cF])) ?_;rintro⟨i,hi⟩;have hti:(cF (S.take i)).length=i:=by simp[cF];omega
 refine aC fun K hK=>?_;refine aC fun K hK=>aE (by kernel_rfl) ?_;simp only[sR,simprocAttr];iterate 4
  (refine aF (g:=none) rfl rfl fun K' hK'=>?_;simp only[sH,↓sP,sA,tyS,simprocAttr,List.length_map];(repeat refine AI ?_);refine hK' _ _ ?_;clear hK' K')
 simp only[sE,↓reduceIte,simprocAttr];repeat refine AI ?_
 refine hK _ _ _ ?_;clear hK K;refine aK (b:=decide ((i:Int)<S.length)) rfl (fun hb=>?_) (fun hb=>?_)
 ·
  have hlt:i<S.length:=by have:=of_decide_eq_true hb;omega
  have hsn:cF (S.take (i+1))=cF (S.take i)++[S[i].h]:=by rw[List.take_succ_eq_append_getElem hlt];unfold cF;rw[List.map_append];rfl
  clear hb;refine aM ?_;simp (maxSteps:=4000000) only[↓sP,sA,tyS,simprocAttr];repeat refine AI ?_
  refine hK _ _ _ ?_;clear hK K;refine aC fun K hK=>?_;refine aN ?_;refine aE (by kernel_rfl) ?_;simp only[sR,simprocAttr];iterate 9
   (refine aF (g:=none) rfl rfl fun K' hK'=>?_;simp only[sH,↓sP,sA,tyS,simprocAttr,Int.natCast_nonneg,Int.ofNat_lt,hlt,bK hlt,hti];(repeat refine AI ?_);refine hK' _ _ ?_;clear hK' K')
  simp only[sE,↓reduceIte,simprocAttr];repeat refine AI ?_
  refine hK _ _ _ ?_;clear hK K;refine aE (by kernel_rfl) ?_;simp (maxSteps:=4000000) only[↓sP,sA,tyS,simprocAttr,IntWalk.i64_in _ (show-9223372036854775808≤(i:Int)+1∧(i:Int)+1≤9223372036854775807 by omega)];refine⟨⟨i+1,by omega⟩,(aO (by omega) (by simp[aX,fin_at,finA_at,upd_at,HV.men,HV.menL,HV.norm,HV.toC,HV.toCL,hsn,bC,hti]) (by simp[aY,fob_at,upd_at,none0_at,bO,HO.men,HV.men,HV.menL,HV.norm,HV.toC,HV.toCL,hsn,bC,hti])),?_⟩;show S.length-(i+1)<S.length-i;omega
 have hie:i=S.length:=by have:=of_decide_eq_false hb;omega
 subst hie;refine aZ ?_;simp (maxSteps:=4000000) only[↓sP,sA,tyS,simprocAttr];clear hK K;repeat refine AI ?_
 refine hK _ _ _ ?_;clear hK K;refine aC fun K hK=>aE (by kernel_rfl) ?_;simp (maxSteps:=4000000) only[↓sP,sA,tyS,simprocAttr];repeat refine AI ?_
 refine hK _ _ _ ?_;clear hK K;refine aH ?_;simp (maxSteps:=4000000) only[bS,Tryz.results31,bP,bR,bN,↓sP,sA,tyS,simprocAttr];have htl:(cF S).length=S.length:=by simp[cF]
 exact aJ [12] (.slc ((cF S).map bC)) (by simp[HV.close,fob_at,upd_at,HV.norm,HV.toC,htl,List.take_length]) rfl
theorem cX4 (a n:Nat)(ob:Ob)(e:TypeId)(sz:Nat)(L:List CV):jD (sub [a] n) ob 0 [.row e sz L]=upd ob a (some (.row e sz L)):=rfl
theorem cC4 (a n k:Nat):HV.ren (sub [a] n) (.own 0 k)= .own a k:=rfl
abbrev osL (W:List Ln):List HO:=[.row 41 4 (W.map Ln.cv)]
theorem cV0 (W:List Ln):lst (osL W)=fob [(0,.row 41 4 (W.map Ln.cv))]:=by
 funext i
 match i with
 |0=>rfl
 |i+1=>simp[lst,fob,upd]
theorem aU9 {ob:Ob}{u:HV}{W:List Ln}{R:HV→List HO→Prop}(hu:u= .own 0 W.length)(h0:ob 0=some (.row 41 4 (W.map Ln.cv)))(hR:R (.own 0 W.length) (osL W)):
  iR 1 u ob (fun r ob'=> ∃os',ob'=lst os'∧(1≤os'.length∧os'.length≤1+4)∧R r os'):=by
 subst hu;exact gU [] [] (.own 0 W.length) (osL W) rfl (by simp[HV.men]) ⟨⟨by simp[HO.men],by simp,_,h0,rfl⟩,trivial⟩ rfl List.nodup_nil (by simp) (by simp) hR
structure RvSt (l:List Nd)(S:List Sp)(g i:Nat)(W:List Ln)(j:Nat)(W':List Ln)(F:List Int):Prop where
 len:W'.length+(i+1)≤W.length+cB l j (i+1)
 out:W'=(gZ l S g i j W).1
 fr:F=(gZ l S g i j W).2
theorem bP3 (l:List Nd)(htb:dU l=true)(hn: ∀n∈l,n.q.t.length<2^63)(S:List Sp)(hS:S.length<2^40)(hd: ∀x∈S,x.d.length<2^42)(f:Nat): ∀(W:List Ln) (i:Nat),i<l.length→l.length-i≤f→W.length+(aft l i-i)<2^39→dK l (cF S) i=true→
  HGe Tryz.prog 40 [.c (.slc (l.map Nd.cv)),.c (.slc (S.map Sp.cv)),.c (.int .i64 i),.own 0 W.length] (osL W) (fun r os'=>r= .own 0 (prv l S f i W).length∧os'=osL (prv l S f i W)):=by
 induction f using Nat.strongRecOn with
 |ind f ih=>?_
 intro W i hi hf hW hv;refine bI (args:=[.c (.slc (l.map Nd.cv)),.c (.slc (S.map Sp.cv)),.c (.int .i64 i),.own 0 W.length]) Tryz.func40 rfl (by kernel_rfl) (eZ rfl (by simp[dS,HO.men,HV.men,HV.menL]) (by simp[HV.menL,HV.men])) (Nat.le_of_ble_eq_true rfl) ?_;show Hw _ _ 1 _ _ _ (lst _) 1;rw[cV0];have ht:=eT htb;have hll:=ht.len;have hgd:l.getD i nd0=l[i]:=rK hi;have haf:=fI ht hi;have hTl:(cF S).length<2^63:=by unfold cF;rw[List.length_map];omega
 obtain⟨g,rfl⟩: ∃g,f=g+1:=⟨f-1,by omega⟩;refine aC fun K hK=>aE (by kernel_rfl) ?_;simp (maxSteps:=4000000) only[↓sP,sA,tyS,simprocAttr];repeat refine AI ?_
 refine hK _ _ _ ?_;clear hK K;refine aC fun K hK=>aE (by kernel_rfl) ?_;simp only[sR,simprocAttr];refine aF (g:=none) rfl rfl fun K' hK'=>?_;simp (maxSteps:=4000000) only[sH,↓sP,sA,tyS,simprocAttr,denilL_Sp];repeat refine AI ?_
 refine hK' _ _ ?_;clear hK' K';refine aF (g:=none) rfl rfl fun K' hK'=>?_;simp (maxSteps:=4000000) only[sH,↓sP,sA,tyS,simprocAttr,denilL_Sp];refine cZ (args:=[_]) (aG6 S hS) ⟨rfl,rfl,rfl,rfl⟩ ?_;rintro u rfl;repeat refine AI ?_
 refine hK' _ _ ?_;clear hK' K';refine aF (g:=none) rfl rfl fun K' hK'=>?_;simp (maxSteps:=4000000) only[sH,↓sP,sA,tyS,simprocAttr,denilL_Sp];repeat refine AI ?_
 refine hK' _ _ ?_;clear hK' K';simp only[sE,↓reduceIte,simprocAttr];repeat refine AI ?_
 refine hK _ _ _ ?_;clear hK K;refine aC fun K hK=>aE (by kernel_rfl) ?_;simp only[sR,simprocAttr];iterate 6
  (refine aF (g:=none) rfl rfl fun K' hK'=>?_;simp only[sH,↓sP,sA,tyS,simprocAttr,Int.natCast_nonneg,Int.ofNat_lt,hi,bK hi];(repeat refine AI ?_);refine hK' _ _ ?_;clear hK' K')
 simp only[sE,↓reduceIte,simprocAttr];repeat refine AI ?_
 refine hK _ _ _ ?_;clear hK K;refine aC fun K hK=>?_;refine aC fun K hK=>aE (by kernel_rfl) ?_;simp (maxSteps:=4000000) only[↓sP,sA,tyS,simprocAttr];repeat refine AI ?_
 refine hK _ _ _ ?_;clear hK K;refine aK (b:=(l[i].k==1)) rfl (fun hb=>?_) (fun hb=>?_)
 ·
  have hk:l[i].k=1:=by simpa using hb
  clear hb;have hvk:(S.getD (lv (l.take i)) sp0).h=true:=by rw[←aO6,←mK hi hk];exact hv
  obtain⟨q,hq⟩: ∃q,q=lv (l.take i):=⟨_,rfl⟩;rw[←hq]at hvk;have hqS:q<S.length:=by
   rcases Nat.lt_or_ge q S.length with h|h
   · exact h
   rw[List.getD_eq_getElem?_getD,List.getElem?_eq_none h]at hvk;cases hvk
  have hgq:S.getD q sp0=S[q]:=by rw[List.getD_eq_getElem?_getD,List.getElem?_eq_getElem hqS];rfl
  refine aC fun K hK=>aE (by kernel_rfl) ?_;simp (maxSteps:=4000000) only[↓sP,sA,tyS,simprocAttr];repeat refine AI ?_
  refine hK _ _ _ ?_;clear hK K;refine aC fun K hK=>?_;refine aC fun K hK=>aE (by kernel_rfl) ?_;simp (maxSteps:=4000000) only[↓sP,sA,tyS,simprocAttr];repeat refine AI ?_
  refine hK _ _ _ ?_;clear hK K;refine aN ?_;refine bH (α:={j:Nat//j≤i}) (fun j=>(fin [(0,.c (.slc (l.map Nd.cv))),(1,.c (.slc (S.map Sp.cv))),(2,.c (.int .i64 i)),(3,.own 0 W.length),(11,.c (.int .i64 (lv (l.take j.1):Nat))),(12,.c (.int .i64 j.1))],fob [(0,.row 41 4 (W.map Ln.cv))])) 200 (fun j=>i-j.1) ⟨0,by omega⟩ (aO (by omega) (by simp[aX,fin_at,finA_at,upd_at,HV.men,HV.menL,HV.norm,HV.toC,HV.toCL,lv]) (by simp[aY,fob_at,upd_at,none0_at,bO,HO.men,HV.men,HV.menL,HV.norm,HV.toC,HV.toCL,lv])) ?_;rintro⟨j,hj⟩;have hjv:lv (l.take j)≤j:=by have:=bC7 (l.take j);rw[List.length_take]at this;omega
  refine aC fun K hK=>?_;refine aC fun K hK=>aE (by kernel_rfl) ?_;simp (maxSteps:=4000000) only[↓sP,sA,tyS,simprocAttr];repeat refine AI ?_
  refine hK _ _ _ ?_;clear hK K;refine aK (b:=decide ((j:Int)<i)) rfl (fun hb=>?_) (fun hb=>?_)
  ·
   have hji:j<i:=by have:=of_decide_eq_true hb;omega
   have hlt:j<l.length:=by omega
   have hsn:=wE hlt;clear hb;refine aM ?_;simp (maxSteps:=4000000) only[↓sP,sA,tyS,simprocAttr];repeat refine AI ?_
   refine hK _ _ _ ?_;clear hK K;refine aC fun K hK=>?_;refine aN ?_;refine aC fun K hK=>aE (by kernel_rfl) ?_;simp only[sR,simprocAttr];iterate 6
    (refine aF (g:=none) rfl rfl fun K' hK'=>?_;simp only[sH,↓sP,sA,tyS,simprocAttr,Int.natCast_nonneg,Int.ofNat_lt,hlt,bK hlt];(repeat refine AI ?_);refine hK' _ _ ?_;clear hK' K')
   simp only[sE,↓reduceIte,simprocAttr];repeat refine AI ?_
   refine hK _ _ _ ?_;clear hK K;refine aK (b:=(l[j].k==1)) rfl (fun hb=>?_) (fun hb=>?_)
   ·
    rw[if_pos (show l[j].k=1 by simpa using hb)]at hsn;have hwi:IntKind.i64.wrap ((lv (l.take j):Int)+1)=((lv (l.take (j+1)):Nat):Int):=by rw[IntWalk.i64_in _ (by omega),hsn];omega
    clear hb;refine aE (by kernel_rfl) ?_;simp (maxSteps:=4000000) only[↓sP,sA,tyS,simprocAttr,hwi];repeat refine AI ?_
    refine hK _ _ _ ?_;clear hK K;refine aE (by kernel_rfl) ?_;simp (maxSteps:=4000000) only[↓sP,sA,tyS,simprocAttr,IntWalk.i64_in _ (show-9223372036854775808≤(j:Int)+1∧(j:Int)+1≤9223372036854775807 by omega)];refine⟨⟨j+1,by omega⟩,(aO (by omega) (by simp[aX,fin_at,finA_at,upd_at,HV.men,HV.menL,HV.norm,HV.toC,HV.toCL,hsn]) (by simp[aY,fob_at,upd_at,none0_at,bO,HO.men,HV.men,HV.menL,HV.norm,HV.toC,HV.toCL,hsn])),?_⟩;show i-(j+1)<i-j;omega
   rw[if_neg (show¬l[j].k=1 by simpa using hb),Nat.add_zero]at hsn;clear hb;refine aM ?_;simp (maxSteps:=4000000) only[↓sP,sA,tyS,simprocAttr];repeat refine AI ?_
   refine hK _ _ _ ?_;clear hK K;refine aE (by kernel_rfl) ?_;simp (maxSteps:=4000000) only[↓sP,sA,tyS,simprocAttr,IntWalk.i64_in _ (show-9223372036854775808≤(j:Int)+1∧(j:Int)+1≤9223372036854775807 by omega)];refine⟨⟨j+1,by omega⟩,(aO (by omega) (by simp[aX,fin_at,finA_at,upd_at,HV.men,HV.menL,HV.norm,HV.toC,HV.toCL,hsn]) (by simp[aY,fob_at,upd_at,none0_at,bO,HO.men,HV.men,HV.menL,HV.norm,HV.toC,HV.toCL,hsn])),?_⟩;show i-(j+1)<i-j;omega
  have hji:j=i:=by have:=of_decide_eq_false hb;omega
  subst hji;clear hb;rw[←hq];have hcd: ∀v∈S[q].d.map dg,v.cells=32:=fun v hv=>by
   obtain⟨x,_,rfl⟩:=List.mem_map.1 hv;exact dg_cells x
  have hl0:=hd _ (List.getElem_mem hqS);have hl1:S[q].d.length*32≤140737488355328:=by omega
  have hl2:S[q].d.length≤maxLen:=by simp only[maxLen];omega
  refine aZ ?_;simp (maxSteps:=4000000) only[↓sP,sA,tyS,simprocAttr];clear hK K;repeat refine AI ?_
  refine hK _ _ _ ?_;clear hK K;refine aC fun K hK=>bY (by kernel_rfl) ?_;simp only[sR,simprocAttr];iterate 7
   (refine aU (g:=none) rfl rfl fun K' hK'=>?_;simp only[sH,↓sP,sA,tyS,simprocAttr,Int.natCast_nonneg,Int.ofNat_lt,hqS,bK hqS,denilL_dg];(repeat refine AI ?_);refine hK' _ _ ?_;clear hK' K')
  refine cT (g:=none) 240 rfl rfl fun K' hK'=>?_;simp (maxSteps:=4000000) only[gP,jP,sH,↓sP,sA,tyS,simprocAttr,Int.natCast_nonneg,Int.ofNat_lt,hqS,bK hqS,denilL_dg];repeat refine AI ?_
  refine dA (by first|rfl|simp) ?_;try simp (maxSteps:=4000000) only[sH,↓sP,sA,tyS,simprocAttr,Int.natCast_nonneg,Int.ofNat_lt,hqS,bK hqS,denilL_dg]
  repeat refine AI ?_
  refine hK' _ _ ?_;clear hK' K';iterate 4
   (refine aU (g:=none) rfl rfl fun K' hK'=>?_;simp only[sH,↓sP,sA,tyS,simprocAttr,Int.natCast_nonneg,Int.ofNat_lt,hqS,bK hqS,denilL_dg];(repeat refine AI ?_);refine hK' _ _ ?_;clear hK' K')
  simp only[sE,↓reduceIte,simprocAttr];repeat refine AI ?_
  refine hK _ _ _ ?_;clear hK K;refine aH ?_;simp (maxSteps:=4000000) only[bS,Tryz.results40,bP,bR,bN,↓sP,sA,tyS,simprocAttr];refine aU9 (W:=W++[jL l S j]) (by simp) ?_ ⟨by rw[kH (by rw[hgd];exact hk)],by rw[kH (by rw[hgd];exact hk)]⟩;have e1:jL l S j=⟨1,j,S[q].d,[]⟩:=by rw[jL,←hq,hgq]
  rw[e1];simp[fob_at,upd_at,Ln.cv]
 have hk:l[i].k≠1:=by simpa using hb
 clear hb;have hnb:=ht.node _ (List.getElem_mem hi);obtain⟨c1,c2,c3,c4⟩:=eS hnb;have hc1:=c4 hk;have hkn:l[i].k=2∨l[i].k=3∨(l[i].k=4∧1≤l[i].n):=by
  unfold dB inB at hnb;grind
 have hck:nS l i=cY l l[i].c.toNat (i+1):=pE htb hi;have hkl:(cY l l[i].c.toNat (i+1)).length=l[i].c.toNat:=iS l _ _;refine aM ?_;simp (maxSteps:=4000000) only[↓sP,sA,tyS,simprocAttr];repeat refine AI ?_
 refine hK _ _ _ ?_;clear hK K;refine aC fun K hK=>aE (by kernel_rfl) ?_;simp only[sR,simprocAttr];iterate 2
  (refine aF (g:=none) rfl rfl fun K' hK'=>?_;simp only[sH,↓sP,sA,tyS,simprocAttr,denilL_Nd];(repeat refine AI ?_);refine hK' _ _ ?_;clear hK' K')
 refine aF (g:=none) rfl rfl fun K' hK'=>?_;simp (maxSteps:=4000000) only[sH,↓sP,sA,tyS,simprocAttr,denilL_Nd];refine cZ (args:=[_,_]) (aK4 l hn i) ⟨rfl,rfl,rfl,rfl⟩ ?_;rintro u rfl;rw[hck];repeat refine AI ?_
 refine hK' _ _ ?_;clear hK' K';refine aF (g:=none) rfl rfl fun K' hK'=>?_;simp (maxSteps:=4000000) only[sH,↓sP,sA,tyS,simprocAttr,denilL_Nd];repeat refine AI ?_
 refine hK' _ _ ?_;clear hK' K';simp only[sE,↓reduceIte,simprocAttr];repeat refine AI ?_
 refine hK _ _ _ ?_;clear hK K;refine aC fun K hK=>aE (by kernel_rfl) ?_;simp only[sR,simprocAttr];iterate 4
  (refine aF (g:=none) rfl rfl fun K' hK'=>?_;simp only[sH,↓sP,sA,tyS,simprocAttr];(repeat refine AI ?_);refine hK' _ _ ?_;clear hK' K')
 simp only[sE,↓reduceIte,simprocAttr];repeat refine AI ?_
 refine hK _ _ _ ?_;clear hK K;refine aC fun K hK=>aE (by kernel_rfl) ?_;simp (maxSteps:=4000000) only[↓sP,sA,tyS,simprocAttr,List.length_map,hkl];repeat refine AI ?_
 refine hK _ _ _ ?_;clear hK K;refine aC fun K hK=>?_;have key: ∀(kd w:Int) fr ob nx,kd=(if l[i].k=3 then 3 else 2)→w=(if l[i].k=3 then 1 else(l[i].c.toNat:Nat))→Fits 1 fr ob (fin [(0,.c (.slc (l.map Nd.cv))),(1,.c (.slc (S.map Sp.cv))),(2,.c (.int .i64 i)),(3,.own 0 W.length),(9,.c (.slc ((cF S).map bC))),(10,.ptr 33 0),(13,.c (.slc ((cY l l[i].c.toNat (i+1)).map iC))),(14,.ptr 77 0),(15,.c (.int .i64 w))]) (fob [(0,.row 41 4 (W.map Ln.cv)),(33,.box 89 (.c l[i].cv)),(77,.box 41 (.c (.agg [.int .i64 kd,.int .i64 i,.nils,.nils])))]) 200→K fr ob nx:=by
  rintro kd w fr ob nx hkd hw hf;refine hK _ _ _ (bJ hf ?_);clear hf hK K;refine aC fun K hK=>?_;have key: ∀(kd w:Int) fr ob nx,kd=eI l[i]→w=(wantN l[i]:Nat)→Fits 1 fr ob (fin [(0,.c (.slc (l.map Nd.cv))),(1,.c (.slc (S.map Sp.cv))),(2,.c (.int .i64 i)),(3,.own 0 W.length),(9,.c (.slc ((cF S).map bC))),(13,.c (.slc ((cY l l[i].c.toNat (i+1)).map iC))),(14,.ptr 77 0),(15,.c (.int .i64 w))]) (fob [(0,.row 41 4 (W.map Ln.cv)),(77,.box 41 (.c (.agg [.int .i64 kd,.int .i64 i,.nils,.nils])))]) 300→K fr ob nx:=by
   rintro kd w fr ob nx rfl rfl hf;refine hK _ _ _ (bJ hf ?_);clear hf hK K;refine aC fun K hK=>?_;have key: ∀(W':List Ln) (F:List Int) fr ob nx,RvSt l S g i W l[i].c.toNat W' F→Fits 1 fr ob (fin [(3,.own 0 W'.length),(14,.ptr 77 0)]) (fob [(0,.row 41 4 (W'.map Ln.cv)),(77,.box 41 (.agg [.c (.int .i64 (eI l[i])),.c (.int .i64 i),.c .nils,.own 304 F.length])),(304,.row 3 1 (F.map (CV.int .i64)))]) 30000→K fr ob nx:=by
    rintro W' F fr ob nx hst hf;refine hK _ _ _ (bJ hf ?_);clear hf hK K;have q2:=hst.len;have q3:=hst.out;have q4:=hst.fr;rw[iT ht hi]at q2;refine fL [304] (bJ (fr2:=fin [(3,.own 0 W'.length),(14,.ptr 77 0)]) (ob2:=fob [(0,.row 41 4 (W'.map Ln.cv)),(77,.box 41 (.c (Ln.cv ⟨eI l[i],i,[],F⟩)))]) (nx2:=31000) (aO (by omega) (by simp[aX,fS,fin_at,finA_at,upd_at,fob_at,HV.close,HV.closeL,CV.denil,CV.denilL,denilL_int,HV.men,HV.menL,HV.norm,HV.toC,HV.toCL]) (by simp[aY,iH,fob_at,upd_at,none0_at,bO,HO.close,HV.close,HV.closeL,CV.denil,Ln.cv,HO.men,HV.men,HV.menL,HV.norm,HV.toC,HV.toCL])) ?_);refine aC fun K hK=>aE (by kernel_rfl) ?_;simp only[sR,simprocAttr];iterate 5
     (refine aF (g:=none) rfl rfl fun K' hK'=>?_;simp only[sH,↓sP,sA,tyS,simprocAttr];(repeat refine AI ?_);refine hK' _ _ ?_;clear hK' K')
    simp only[sE,↓reduceIte,simprocAttr];repeat refine AI ?_
    refine hK _ _ _ ?_;clear hK K;refine aH ?_;simp (maxSteps:=4000000) only[bS,Tryz.results40,bP,bR,bN,↓sP,sA,tyS,simprocAttr];have hpi:=lT (l:=l) (S:=S) (f:=g) (i:=i) (out:=W) (by rw[hgd];exact hk);rw[hgd,←q3,←q4]at hpi;refine aU9 (W:=W'++[⟨eI l[i],i,[],F⟩]) (by simp) (by simp[fob_at,upd_at]) ⟨by rw[hpi],by rw[hpi]⟩
   refine aC fun K hK=>aE (by kernel_rfl) ?_;simp (maxSteps:=4000000) only[↓sP,sA,tyS,simprocAttr];repeat refine AI ?_
   refine hK _ _ _ ?_;clear hK K;refine aN ?_;refine dX 77 3 3 1 rfl rfl rfl rfl ?_;refine bH (α:={y:Nat×List Ln×List Int//y.1≤l[i].c.toNat∧RvSt l S g i W y.1 y.2.1 y.2.2}) (fun y=>(fin [(0,.c (.slc (l.map Nd.cv))),(1,.c (.slc (S.map Sp.cv))),(2,.c (.int .i64 i)),(3,.own 0 y.1.2.1.length),(9,.c (.slc ((cF S).map bC))),(13,.c (.slc ((cY l l[i].c.toNat (i+1)).map iC))),(14,.ptr 77 0),(15,.c (.int .i64 (wantN l[i]:Nat))),(16,.c (.int .i64 y.1.1))],fob [(0,.row 41 4 (y.1.2.1.map Ln.cv)),(77,.box 41 (.agg [.c (.int .i64 (eI l[i])),.c (.int .i64 i),.c .nils,.own 304 y.1.2.2.length])),(304,.row 3 1 (y.1.2.2.map (CV.int .i64)))])) 20000 (fun y=>l[i].c.toNat-y.1.1) ⟨(0,W,[]),Nat.zero_le _,⟨by simp[cB],by rw[lS],by rw[lS]⟩⟩ (aO (by omega) (by simp[aX,fin_at,finA_at,upd_at,HV.men,HV.menL,HV.norm,HV.toC,HV.toCL]) (by simp[aY,fob_at,upd_at,none0_at,bO,HO.men,HV.men,HV.menL,HV.norm,HV.toC,HV.toCL])) ?_;rintro⟨⟨j,W',F⟩,hj,hst⟩;simp only at hj hst⊢;have q2:=hst.len;have q3:=hst.out;have q4:=hst.fr;have hkf:=pG ht hi hj;have hF0:=rJ l S g i W j;rw[←q4,hgd]at hF0;refine aC fun K hK=>?_;by_cases hjc:j<l[i].c.toNat
   ·
    have hjd:decide ((j:Int)<(l[i].c.toNat:Nat))=true:=decide_eq_true (by omega);refine aC fun K hK=>aE (by kernel_rfl) ?_;simp only[sR,simprocAttr];iterate 5
     (refine aF (g:=none) rfl rfl fun K' hK'=>?_;simp only[sH,↓sP,sA,tyS,simprocAttr,List.length_map,hkl,hjd];(repeat refine AI ?_);refine hK' _ _ ?_;clear hK' K')
    iterate 5
     (refine aF (g:=some (71,true)) rfl rfl fun K' hK'=>?_;simp only[sH,↓sP,sA,tyS,simprocAttr,List.length_map,hkl,hjd];(repeat refine AI ?_);refine hK' _ _ ?_;clear hK' K')
    refine aF (g:=none) rfl rfl fun K' hK'=>?_;simp (maxSteps:=4000000) only[sH,↓sP,sA,tyS,simprocAttr,List.length_map,hkl,hjd];repeat refine AI ?_
    refine hK' _ _ ?_;clear hK' K';simp only[sE,↓reduceIte,simprocAttr];repeat refine AI ?_
    refine hK _ _ _ ?_;clear hK K;refine aK (b:=decide ((F.length:Int)<(wantN l[i]:Nat))) rfl (fun hb=>?_) (fun hb=>?_)
    ·
     have hfl:F.length<wantN l[i]:=by have:=of_decide_eq_true hb;omega
     have hltk:j<(cY l l[i].c.toNat (i+1)).length:=by rw[hkl];exact hjc
     have hel:(cY l l[i].c.toNat (i+1))[j]=cB l j (i+1):=by
      have h1:=kG l l[i].c.toNat (i+1) (j+1) hjc;rw[gA,List.take_succ_eq_append_getElem hltk,kG l _ _ _ hj]at h1;simpa using h1
     clear hb;have hkb:=gQ ht hi hjc;have hks:=gB ht hi j (by omega);have hka:=fI ht hkb;have hkn2:=pG ht hi (j:=j+1) (by omega);rw[cK]at hkn2;have hF1:=aK8 (l:=l) (S:=S) (f:=g) (i:=i) (out:=W) j;rw[←q4]at hF1;have hF2:F.length+1≤maxLen:=by simp only[maxLen];omega
     have hF3:(F.length+1)*8≤140737488355328:=by omega
     refine aM ?_;simp (maxSteps:=4000000) only[↓sP,sA,tyS,simprocAttr];repeat refine AI ?_
     refine hK _ _ _ ?_;clear hK K;refine aC fun K hK=>?_;refine aN ?_;refine aC fun K hK=>aE (by kernel_rfl) ?_;simp only[sR,simprocAttr];iterate 6
      (refine aF (g:=none) rfl rfl fun K' hK'=>?_;simp only[sH,↓sP,sA,tyS,simprocAttr,Int.natCast_nonneg,Int.ofNat_lt,hltk,bK hltk,hel,iC,denilL_Nd,dT];(repeat refine AI ?_);refine hK' _ _ ?_;clear hK' K')
     refine aF (g:=none) rfl rfl fun K' hK'=>?_;simp (maxSteps:=4000000) only[sH,↓sP,sA,tyS,simprocAttr,Int.natCast_nonneg,Int.ofNat_lt,hltk,bK hltk,hel,iC,denilL_Nd,dT];refine cZ (args:=[_,_,_]) (uG l ht (cF S) hTl g (cB l j (i+1)) hkb (by omega)) ⟨rfl,rfl,rfl,rfl⟩ ?_;rintro u rfl;repeat refine AI ?_
     refine hK' _ _ ?_;clear hK' K';simp only[sE,↓reduceIte,simprocAttr];repeat refine AI ?_
     refine hK _ _ _ ?_;clear hK K;refine aK (b:=dK l (cF S) (cB l j (i+1))) rfl (fun hb=>?_) (fun hb=>?_)
     ·
      have hkv:dK l (cF S) (cB l j (i+1))=true:=hb;have hP:gZ l S g i (j+1) W=(prv l S g (cB l j (i+1)) W',F++[((prv l S g (cB l j (i+1)) W').length:Int)-1]):=by
       rw[eO,mY,←q3,←q4,if_pos ⟨by rw[hgd];exact hfl,hkv⟩]
      have hPl:=vZ ht S g (cB l j (i+1)) W' hkb;obtain⟨M,hM⟩: ∃M,M=prv l S g (cB l j (i+1)) W':=⟨_,rfl⟩;clear hb;refine aC fun K hK=>aE (by kernel_rfl) ?_;simp only[sR,simprocAttr];iterate 7
       (refine aF (g:=none) rfl rfl fun K' hK'=>?_;simp only[sH,↓sP,sA,tyS,simprocAttr,Int.natCast_nonneg,Int.ofNat_lt,hltk,bK hltk,hel,iC,denilL_Nd,denilL_Sp];(repeat refine AI ?_);refine hK' _ _ ?_;clear hK' K')
      refine aF (g:=none) rfl rfl fun K' hK'=>?_;simp (maxSteps:=4000000) only[sH,↓sP,sA,tyS,simprocAttr,Int.natCast_nonneg,Int.ofNat_lt,hltk,bK hltk,hel,iC,denilL_Nd,denilL_Sp];refine eX [0] (ih g (by omega) W' (cB l j (i+1)) hkb (by omega) (by omega) hkv) rfl ⟨rfl,trivial⟩ (by simp) (by simp) ⟨rfl,rfl,rfl,rfl⟩ (by simp[dS,HO.men,HV.men,HV.menL]) (by simp[HV.menL,HV.men]) ?_;rintro r os' ⟨rfl,rfl⟩;rw[cX4,cC4,←hM];repeat refine AI ?_
      refine hK' _ _ ?_;clear hK' K';refine aF (g:=none) rfl rfl fun K' hK'=>?_;simp (maxSteps:=4000000) only[sH,↓sP,sA,tyS,simprocAttr,Int.natCast_nonneg,Int.ofNat_lt,hltk,bK hltk,hel,iC,denilL_Nd,denilL_Sp];repeat refine AI ?_
      refine hK' _ _ ?_;clear hK' K';simp only[sE,↓reduceIte,simprocAttr];repeat refine AI ?_
      refine hK _ _ _ ?_;clear hK K;have hMp:0<M.length:=by
       rw[hM];obtain⟨g',rfl⟩: ∃g',g=g'+1:=⟨g-1,by omega⟩;rw[prv];split<;>simp
      rw[←hM]at hPl hP;have hwM:IntKind.i64.wrap ((M.length:Int)-1)=(M.length:Int)-1:=IntWalk.i64_in _ (by omega);refine aE (by kernel_rfl) ?_;simp only[sR,simprocAttr];iterate 9
       (refine aF (g:=none) rfl rfl fun K' hK'=>?_;simp only[sH,↓sP,sA,tyS,simprocAttr,List.length_map,hwM,hF2,hF3];(repeat refine AI ?_);refine hK' _ _ ?_;clear hK' K')
      simp only[sE,↓reduceIte,simprocAttr];repeat refine AI ?_
      refine hK _ _ _ ?_;clear hK K;refine aE (by kernel_rfl) ?_;simp (maxSteps:=4000000) only[↓sP,sA,tyS,simprocAttr,IntWalk.i64_in _ (show-9223372036854775808≤(j:Int)+1∧(j:Int)+1≤9223372036854775807 by omega)];refine⟨⟨(j+1,M,F++[(M.length:Int)-1]),hjc,⟨?_,by rw[hP],by rw[hP]⟩⟩,(aO (by omega) (by simp[aX,fin_at,finA_at,upd_at,HV.men,HV.menL,HV.norm,HV.toC,HV.toCL,List.map_append,List.length_append]) (by simp[aY,fob_at,upd_at,none0_at,bO,HO.men,HV.men,HV.menL,HV.norm,HV.toC,HV.toCL,List.map_append,List.length_append])),?_⟩
      · show M.length+(i+1)≤W.length+cB l (j+1) (i+1);rw[cK];omega
      show l[i].c.toNat-(j+1)<l[i].c.toNat-j;omega
     have hkv:dK l (cF S) (cB l j (i+1))=false:=hb;clear hb;refine aM ?_;simp (maxSteps:=4000000) only[↓sP,sA,tyS,simprocAttr];repeat refine AI ?_
     refine hK _ _ _ ?_;clear hK K;refine aE (by kernel_rfl) ?_;simp (maxSteps:=4000000) only[↓sP,sA,tyS,simprocAttr,IntWalk.i64_in _ (show-9223372036854775808≤(j:Int)+1∧(j:Int)+1≤9223372036854775807 by omega)];refine⟨⟨(j+1,W',F),hjc,⟨?_,?_,?_⟩⟩,aO (by omega) (by simp[aX,fin_at,finA_at,upd_at,HV.men,HV.menL,HV.norm,HV.toC,HV.toCL]) (by simp[aY,fob_at,upd_at,none0_at,bO,HO.men,HV.men,HV.menL,HV.norm,HV.toC,HV.toCL]),?_⟩
     · show W'.length+(i+1)≤W.length+cB l (j+1) (i+1);rw[cK];omega
     · rw[eO,mY,if_neg (fun hc=>by rw[hkv]at hc;cases hc.2)];exact q3
     · rw[eO,mY,if_neg (fun hc=>by rw[hkv]at hc;cases hc.2)];exact q4
     show l[i].c.toNat-(j+1)<l[i].c.toNat-j;omega
    refine aZ ?_;simp (maxSteps:=4000000) only[↓sP,sA,tyS,simprocAttr];clear hK K;have hfl:F.length=wantN l[i]:=by have:=of_decide_eq_false hb;omega
    have hsp:=uI (l:=l) (S:=S) (g:=g) (i:=i) (out:=W) (j:=j) (l[i].c.toNat-j) (by rw[←q4,hgd];exact hfl);rw[show j+(l[i].c.toNat-j)=l[i].c.toNat from by omega]at hsp;refine key W' F _ _ _ ⟨?_,by rw[hsp];exact q3,by rw[hsp];exact q4⟩ (aO (by omega) (by simp[aX,fin_at,finA_at,upd_at,HV.men,HV.menL,HV.norm,HV.toC,HV.toCL]) (by simp[aY,fob_at,upd_at,none0_at,bO,HO.men,HV.men,HV.menL,HV.norm,HV.toC,HV.toCL]));rw[iT ht hi];omega
   have hjd:decide ((j:Int)<(l[i].c.toNat:Nat))=false:=decide_eq_false (by omega);have hje:j=l[i].c.toNat:=by omega
   subst hje;refine aC fun K hK=>aE (by kernel_rfl) ?_;simp only[sR,simprocAttr];iterate 5
    (refine aF (g:=none) rfl rfl fun K' hK'=>?_;simp only[sH,↓sP,sA,tyS,simprocAttr,List.length_map,hkl,hjd];(repeat refine AI ?_);refine hK' _ _ ?_;clear hK' K')
   iterate 5
    (refine aF (g:=some (71,true)) rfl rfl fun K' hK'=>?_;simp only[sH,↓sP,sA,tyS,simprocAttr,List.length_map,hkl,hjd];(repeat refine AI ?_);refine hK' _ _ ?_;clear hK' K')
   refine aF (g:=none) rfl rfl fun K' hK'=>?_;simp (maxSteps:=4000000) only[sH,↓sP,sA,tyS,simprocAttr,List.length_map,hkl,hjd];repeat refine AI ?_
   refine hK' _ _ ?_;clear hK' K';simp only[sE,↓reduceIte,simprocAttr];repeat refine AI ?_
   refine hK _ _ _ ?_;clear hK K;refine aK (b:=false) rfl (fun hb=>?_) (fun hb=>?_)
   · cases hb
   refine aZ ?_;simp (maxSteps:=4000000) only[↓sP,sA,tyS,simprocAttr];clear hK K;exact key W' F _ _ _ hst (aO (by omega) (by simp[aX,fin_at,finA_at,upd_at,HV.men,HV.menL,HV.norm,HV.toC,HV.toCL]) (by simp[aY,fob_at,upd_at,none0_at,bO,HO.men,HV.men,HV.menL,HV.norm,HV.toC,HV.toCL]))
  refine aC fun K hK=>aE (by kernel_rfl) ?_;simp (maxSteps:=4000000) only[↓sP,sA,tyS,simprocAttr];repeat refine AI ?_
  refine hK _ _ _ ?_;clear hK K;refine aK (b:=(l[i].k==4)) rfl (fun hb=>?_) (fun hb=>?_)
  ·
   refine aN8 mixed [(0,[],[]),(1,[],[]),(2,[],[]),(3,[],[0,1]),(4,[],[])] [0,1,0,4,15] (by kernel_rfl) (by kernel_rfl) (by kernel_rfl) (by kernel_rfl) rfl (by kernel_rfl) ?_;iterate 5
    (refine cJ (g:=none) rfl rfl fun K' hK'=>?_;simp only[sH,↓sP,sA,tyS,simprocAttr];(repeat refine AI ?_);refine hK' _ _ ?_;clear hK' K')
   simp only[sE,↓reduceIte,simprocAttr];have h4:l[i].k=4:=by simpa using hb
   have h5:1≤l[i].n:=by omega
   exact key 4 l[i].n _ _ _ (by unfold eI;rw[if_neg (by omega),if_neg (by omega)]) (by unfold wantN;rw[if_neg (by omega),if_neg (by omega)];omega) (aO (by omega) (by simp[aX,fin_at,finA_at,upd_at,HV.men,HV.menL,HV.norm,HV.toC,HV.toCL]) (by simp[aY,fob_at,upd_at,none0_at,bO,HO.men,HV.men,HV.menL,HV.norm,HV.toC,HV.toCL]))
  refine aM ?_;simp (maxSteps:=4000000) only[↓sP,sA,tyS,simprocAttr];have h4:l[i].k≠4:=by simpa using hb
  refine key kd w _ _ _ ?_ ?_ (aO (by omega) (by simp[aX,fin_at,finA_at,upd_at,HV.men,HV.menL,HV.norm,HV.toC,HV.toCL]) (by simp[aY,fob_at,upd_at,none0_at,bO,HO.men,HV.men,HV.menL,HV.norm,HV.toC,HV.toCL]))
  ·
   rw[hkd];unfold eI;split
   · rw[if_neg (by omega)]
   rw[if_pos (by omega)]
  rw[hw];unfold wantN;split
  · rw[if_neg (by omega)]
  rw[if_pos (by omega)]
 refine aC fun K hK=>aE (by kernel_rfl) ?_;simp (maxSteps:=4000000) only[↓sP,sA,tyS,simprocAttr];repeat refine AI ?_
 refine hK _ _ _ ?_;clear hK K;refine aK (b:=(l[i].k==3)) rfl (fun hb=>?_) (fun hb=>?_)
 ·
  refine aE (by kernel_rfl) ?_;simp (maxSteps:=4000000) only[↓sP,sA,tyS,simprocAttr];have h3:l[i].k=3:=by simpa using hb
  exact key 3 1 _ _ _ (by rw[if_pos h3]) (by rw[if_pos h3];rfl) (aO (by omega) (by simp[aX,fin_at,finA_at,upd_at,HV.men,HV.menL,HV.norm,HV.toC,HV.toCL]) (by simp[aY,fob_at,upd_at,none0_at,bO,HO.men,HV.men,HV.menL,HV.norm,HV.toC,HV.toCL]))
 refine aM ?_;simp (maxSteps:=4000000) only[↓sP,sA,tyS,simprocAttr];have h3:l[i].k≠3:=by simpa using hb
 exact key 2 (l[i].c.toNat:Nat) _ _ _ (by rw[if_neg h3]) (by rw[if_neg h3]) (aO (by omega) (by simp[aX,fin_at,finA_at,upd_at,HV.men,HV.menL,HV.norm,HV.toC,HV.toCL]) (by simp[aY,fob_at,upd_at,none0_at,bO,HO.men,HV.men,HV.menL,HV.norm,HV.toC,HV.toCL]))
end Go.Proofs.YthedbjfipmkpiaaGreatDoor
namespace Go.Hl
open Go
theorem aG7 {w:World}{ρ ρ1:Env}{O:Nat→Prop}(h1:ρ1 0=some (.hdr (.slice none 0 0))): ∀{pre:List CV} {xs:List Value},RepHV w ρ O (pre.map .c++[.c .nils]) xs→RepHV w ρ1 O (pre.map .c++[.own 0 0]) xs
 |[],xs,h=>by
  simp only[List.map_nil,List.nil_append]at h⊢;rw[bF]at h⊢;obtain⟨y,ys,rfl,hy,hz⟩:=h;refine⟨y,ys,rfl,?_,by simpa only[RepHV]using hz⟩;have hag:Value.isAgg' y=false:=by rw[←hy.2];rfl
  have hc:=hy.1;rw[cells_single hag]at hc;simp only[RepH,RepC,List.cons.injEq,and_true]at hc;subst hc;refine cR ?_ rfl rfl;simp only[RepH];exact⟨_,rfl,by simp[Value.oneCell'],fun hd hρ=>by rw[h1]at hρ;cases hρ;exact⟨by simp[hlen],fun _=>rfl⟩⟩
 |v::pre,xs,h=>by
  simp only[List.map_cons,List.cons_append]at h⊢;rw[bF]at h⊢;obtain⟨y,ys,rfl,hy,hz⟩:=h;refine⟨y,ys,rfl,⟨?_,hy.2⟩,aG7 h1 hz⟩;have:=hy.1;simp only[RepH]at this⊢;exact this
theorem cK2 {P:Program}{f:FuncId}{pre:List CV}{e:TypeId}{sz:Nat}{R:HV→List HO→Prop}(h:HGe P f (pre.map .c++[.own 0 0]) [.row e sz []] R)(hR: ∀r os',R r os'→r.men (· <4)∧os'.length≤4∧ ∀o∈os',o.men (· <4)):HGe P f (pre.map .c++[.c .nils]) [] R:=by
 refine⟨h.1,fun w ρ X xs hS hA hX=>?_⟩;have hρ: ∀id,ρ id=none:=fun id=>hS.none id (by simp[lst])
 let ρ1:Env:=fun id=>if id=0 then some (.hdr (.slice none 0 0))else none
 have hr0:ρ1 0=some (.hdr (.slice none 0 0)):=rfl;have ho0:Own ρ=fun _=>False:=by
  funext b;apply propext;exact⟨fun⟨i,L,h1,_⟩=>(by rw[hρ i]at h1;cases h1),fun h=>False.elim h⟩
 have ho1:Own ρ1=fun _=>False:=by
  funext b;apply propext;refine⟨fun⟨i,L,h1,h2⟩=>?_,fun h=>False.elim h⟩;by_cases e:i=0
  · subst e;rw[hr0]at h1;cases h1;cases h2
  · simp only[ρ1,if_neg e]at h1;cases h1
 have hO:Owned ρ1 X=Owned ρ X:=by
  funext b;apply propext;show X b∨Own ρ1 b↔X b∨Own ρ b;rw[ho0,ho1]
 have hS1:RepS w ρ1 X (lst [.row e sz []]):=by
  refine⟨fun i o ho=>?_,fun i hi=>?_,fun i i' L L' b h1 h2 h3 h4=>?_,fun i L b h1 h2=>?_⟩
  ·
   match i with
   |0=>cases ho;exact⟨.slice none 0 0,[],hr0,by simp[RepL],by simp,ownsRow_nil⟩
   |i+1=>simp[lst]at ho
  ·
   match i with
   |0=>simp[lst]at hi
   |i+1=>rfl
  ·
   by_cases e:i=0
   · subst e;rw[hr0]at h1;cases h1;cases h3
   · simp only[ρ1,if_neg e]at h1;cases h1
  ·
   by_cases e:i=0
   · subst e;rw[hr0]at h1;cases h1;cases h2
   · simp only[ρ1,if_neg e]at h1;cases h1
 refine(h.2 w ρ1 X xs hS1 (by rw[hO];exact aG7 hr0 hA) hX).mono fun e' w' ⟨r,ob',ρ',x,e1,⟨os',h1,h2,h3⟩,g⟩=>⟨r,ob',ρ',x,e1,⟨os',h1,⟨Nat.zero_le _,by have:=(hR r os' h3).2.1;simpa using this⟩,h3⟩,⟨g.v,g.s,(hR r os' h3).1,fun id o ho=>?_,?_,?_⟩⟩
 · subst h1;obtain⟨_,a2,a3⟩:=hR r os' h3;have h5:=aY0 ho;exact⟨by simp only[List.length_nil];omega,a3 _ (List.mem_of_getElem? ho)⟩
 · have:=g.stay;rw[ho1]at this;rw[ho0];exact this
 · exact fun id L' hid _=>absurd hid (Nat.not_lt_zero id)
end Go.Hl
namespace Go.Proofs.YthedbjfipmkpiaaGreatDoor
open Go Go.Hl Go.Pl
set_option maxRecDepth 10000
set_option maxHeartbeats 16000000
theorem bP4 (l:List Nd)(hn: ∀n∈l,n.q.t.length<2^63)(S:List Sp)(hS:S.length<2^40)(hd: ∀x∈S,x.d.length<2^42):iJ Tryz.prog 15 [.slc (l.map Nd.cv),.slc (S.map Sp.cv)] (fun u v=>u= .slc ((dY l S).map Ln.cv)∧v= .bool (eH l (cF S))):=by
 have hTl:(cF S).length<2^63:=by unfold cF;rw[List.length_map];omega
 refine bI Tryz.func15 rfl (by kernel_rfl) (dJ _) (Nat.le_of_ble_eq_true rfl) ?_;refine aC fun K hK=>aE (by kernel_rfl) ?_;simp (maxSteps:=4000000) only[↓sP,sA,tyS,simprocAttr];repeat refine AI ?_
 refine hK _ _ _ ?_;clear hK K;refine aC fun K hK=>?_;refine aC fun K hK=>aE (by kernel_rfl) ?_;simp only[sR,simprocAttr];iterate 2
  (refine aF (g:=none) rfl rfl fun K' hK'=>?_;simp only[sH,↓sP,sA,tyS,simprocAttr,denilL_Sp,denilL_Nd,dT];(repeat refine AI ?_);refine hK' _ _ ?_;clear hK' K')
 refine aF (g:=none) rfl rfl fun K' hK'=>?_;simp (maxSteps:=4000000) only[sH,↓sP,sA,tyS,simprocAttr,denilL_Sp,denilL_Nd,dT];refine cZ (args:=[_]) (aG6 S hS) ⟨rfl,rfl,rfl,rfl⟩ ?_;rintro u rfl;repeat refine AI ?_
 refine hK' _ _ ?_;clear hK' K';refine aF (g:=none) rfl rfl fun K' hK'=>?_;simp (maxSteps:=4000000) only[sH,↓sP,sA,tyS,simprocAttr,denilL_Sp,denilL_Nd,dT];refine cZ (args:=[_,_]) (cA9 l hn (cF S) hTl) ⟨rfl,rfl,rfl,rfl⟩ ?_;rintro u rfl;repeat refine AI ?_
 refine hK' _ _ ?_;clear hK' K';refine aF (g:=none) rfl rfl fun K' hK'=>?_;simp (maxSteps:=4000000) only[sH,↓sP,sA,tyS,simprocAttr,denilL_Sp,denilL_Nd,dT];repeat refine AI ?_
 refine hK' _ _ ?_;clear hK' K';simp only[sE,↓reduceIte,simprocAttr];repeat refine AI ?_
 refine hK _ _ _ ?_;clear hK K;refine aK (b:=!eH l (cF S)) rfl (fun hb=>?_) (fun hb=>?_)
 ·
  refine aC fun K hK=>aE (by kernel_rfl) ?_;simp (maxSteps:=4000000) only[↓sP,sA,tyS,simprocAttr];repeat refine AI ?_
  refine hK _ _ _ ?_;clear hK K;refine aH ?_;simp (maxSteps:=4000000) only[bS,Tryz.results15,bP,bR,bN,↓sP,sA,tyS,simprocAttr];have hev:eH l (cF S)=false:=by simpa using hb
  exact bD [] (.slc []) (.bool false) (by simp[HV.close,HV.closeL,CV.denil,CV.denilL,HV.norm,HV.toC,HV.toCL]) ⟨by rw[dY,hev];rfl,by rw[hev]⟩
 have hev:eH l (cF S)=true:=by simpa using hb
 clear hb;have htb:dU l=true:=by
  unfold eH at hev;rw[Bool.and_eq_true]at hev;exact hev.1
 have hv:dK l (cF S) 0=true:=by
  unfold eH at hev;rw[Bool.and_eq_true]at hev;exact hev.2
 have ht:=eT htb;have hlen:=ht.len;have hne:0<l.length:=ht.ne;have haf:=(fI ht hne).2.1;have hpl:=(vZ ht S l.length 0 [] hne).2;simp only[List.length_nil]at hpl;have hp0:0<(nT l S).length:=by
  obtain⟨g,hg⟩: ∃g,l.length=g+1:=⟨l.length-1,by omega⟩;unfold nT;rw[hg,prv];split<;>simp
 have hG:=cK2 (P:=Tryz.prog) (pre:=[.slc (l.map Nd.cv),.slc (S.map Sp.cv),.int .i64 0]) (bP3 l htb hn S hS hd l.length [] 0 hne (by omega) (by simp only[List.length_nil];omega) hv) (fun r os' h=>by
  obtain⟨rfl,rfl⟩:=h;exact⟨by simp[HV.men],by simp,fun o ho=>by rw[List.mem_singleton.1 ho];trivial⟩)
 obtain⟨Q,hQ⟩: ∃Q,Q=nT l S:=⟨_,rfl⟩;have hQ':prv l S l.length 0 []=Q:=hQ.symm;rw[←hQ]at hp0;rw[hQ']at hpl hG;have hwq:IntKind.i64.wrap ((Q.length:Int)-1)=(Q.length:Int)-1:=IntWalk.i64_in _ (by omega);refine aM ?_;simp (maxSteps:=4000000) only[↓sP,sA,tyS,simprocAttr];repeat refine AI ?_
 refine hK _ _ _ ?_;clear hK K;refine aC fun K hK=>bY (by kernel_rfl) ?_;simp only[sR,simprocAttr];iterate 2
  (refine aU (g:=none) rfl rfl fun K' hK'=>?_;simp only[sH,↓sP,sA,tyS,simprocAttr,denilL_Sp,denilL_Nd];(repeat refine AI ?_);refine hK' _ _ ?_;clear hK' K')
 refine uZ (g:=none) rfl rfl fun K' hK'=>?_;simp (maxSteps:=4000000) only[sN,↓hopH.eq_def,sH,↓sP,sA,tyS,simprocAttr,denilL_Sp,denilL_Nd];refine eX [] hG rfl trivial (by simp) (by simp) ⟨rfl,rfl,rfl,rfl⟩ (by simp[dS]) (by simp[HV.menL,HV.men]) ?_;rintro r os' ⟨rfl,rfl⟩;rw[show∀(n:Nat) (ob:Ob),jD (sub [] n) ob 0 (osL Q)=upd ob n (some (.row 41 4 (Q.map Ln.cv)))from fun _ _=>rfl,show∀n:Nat,HV.ren (sub [] n) (.own 0 Q.length)= .own n Q.length from fun _=>rfl];repeat refine AI ?_
 refine hK' _ _ ?_;clear hK' K';refine aU (g:=none) rfl rfl fun K' hK'=>?_;simp (maxSteps:=4000000) only[sH,↓sP,sA,tyS,simprocAttr,denilL_Sp,denilL_Nd];repeat refine AI ?_
 refine hK' _ _ ?_;clear hK' K';simp only[sE,↓reduceIte,simprocAttr];repeat refine AI ?_
 refine hK _ _ _ ?_;clear hK K;refine aC fun K hK=>bY (by kernel_rfl) ?_;simp only[sR,simprocAttr];iterate 4
  (refine aU (g:=none) rfl rfl fun K' hK'=>?_;simp only[sH,↓sP,sA,tyS,simprocAttr,List.length_map,hwq];(repeat refine AI ?_);refine hK' _ _ ?_;clear hK' K')
 refine cT (g:=none) 60 rfl rfl fun K' hK'=>?_;simp (maxSteps:=4000000) only[gP,jP,sH,↓sP,sA,tyS,simprocAttr,List.length_map,hwq];repeat refine AI ?_
 refine dA (by first|rfl|simp) ?_;try simp (maxSteps:=4000000) only[sH,↓sP,sA,tyS,simprocAttr,List.length_map,hwq]
 repeat refine AI ?_
 refine hK' _ _ ?_;clear hK' K';iterate 5
  (refine aU (g:=none) rfl rfl fun K' hK'=>?_;simp only[sH,↓sP,sA,tyS,simprocAttr,List.length_map,hwq];(repeat refine AI ?_);refine hK' _ _ ?_;clear hK' K')
 simp only[sE,↓reduceIte,simprocAttr];repeat refine AI ?_
 refine hK _ _ _ ?_;clear hK K;refine aH ?_;simp (maxSteps:=4000000) only[bS,Tryz.results15,bP,bR,bN,↓sP,sA,tyS,simprocAttr];refine bD [36] (.slc ((dY l S).map Ln.cv)) (.bool true) ?_ ⟨rfl,by rw[hev]⟩;rw[dY,if_pos hev,←hQ];simp[HV.close,HV.closeL,fob_at,upd_at,CV.denil,HV.norm,HV.toC,HV.toCL,Ln.cv]
end Go.Proofs.YthedbjfipmkpiaaGreatDoor
