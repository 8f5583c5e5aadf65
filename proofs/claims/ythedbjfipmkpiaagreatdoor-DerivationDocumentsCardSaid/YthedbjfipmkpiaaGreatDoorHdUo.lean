/- Part of a proof: walks of functions of the program, by contracts, and the rules they use. By an AI agent. -/
import Derived.Test.YthedbjfipmkpiaaGreatDoorHdSq
import Derived.Test.YthedbjfipmkpiaaGreatDoorHdX8
import Derived.Test.YthedbjfipmkpiaaGreatDoorHdSb
import Derived.Test.YthedbjfipmkpiaaGreatDoorHdTf
import Derived.Test.YthedbjfipmkpiaaGreatDoorPl28g
import Derived.Test.YthedbjfipmkpiaaGreatDoorHdTl
import Derived.Test.YthedbjfipmkpiaaGreatDoorHdW3
import Derived.Test.YthedbjfipmkpiaaGreatDoorHdUl
set_option linter.unusedSimpArgs false
set_option linter.unusedVariables false
set_option linter.defProp false
namespace Go.Proofs.YthedbjfipmkpiaaGreatDoor
open Go Go.Hl Go.Pl
set_option maxRecDepth 10000
set_option maxHeartbeats 4000000
def aB :Nat→Nat
 |0=>4
 |d+1=>8+3*aB d
theorem aQ1 : ∀d,d≤3→aB d≤400:=by decide
theorem cG0 : ∀d,d≤3→4≤aB d:=by decide
variable {d:Nat}
theorem cK4 {n:Nat}(hd:d≤3){p:Nat×Nat}(h:p∈pos d n):p.1≤60:=by
 rcases Nat.lt_or_ge n 9 with hn|hn
 ·
  have key: ∀d,d<4→ ∀n,n<9→ ∀p∈pos d n,p.1≤60:=by decide+kernel
  exact key d (by omega) n hn p h
 cases d with
 |zero=>simp[pos]at h;subst h;simp
 |succ d=>
  rw[pos,oB,if_neg (by omega)]at h;simp at h;subst h;simp
theorem aQ2 {n:Nat}{t:List Nd}(h:Made d n t)(hd:d≤3):t.length≤60:=cK4 hd h.pos
variable {X:List CV}{L:List Int}{ob:Ob}
theorem aQ3 {a m a':Nat}{T t:List Nd}(h0:ob 0=some (.box 76 (.c (tp L a'))))(h1:ob 1=some (.row 89 7 X))(hm:m=(T++t).length)(hX:X=(T++t).map Nd.cv)(hM:Made d T.length t)(ha:a'≤a+aB d):
  iH 2 (.own 1 m) ob (fun r ob'=> ∃os',ob'=lst os'∧(2≤os'.length∧os'.length≤2+4)∧ ∃(t:List Nd) (a':Nat),r= .own 1 (T++t).length∧os'=[.box 76 (.c (tp L a')),.row 89 7 ((T++t).map Nd.cv)]∧Made d T.length t∧a'≤a+aB d):=by
 subst hm hX;exact gR [] [] (.own 1 (T++t).length) [.box 76 (.c (tp L a')),.row 89 7 ((T++t).map Nd.cv)] rfl (by simp[HV.men]) ⟨⟨by simp[HO.men,HV.men],by simp,_,h0,by simp[HO.close,HV.close,HO.ren,HV.ren,HV.norm,aL0,HV.toC,tp,CV.denil,CV.denilL,denilL_int]⟩,⟨by simp[HO.men],by simp,_,h1,rfl⟩,trivial⟩ rfl List.nodup_nil (by simp) (by simp) ⟨t,a',rfl,rfl,hM,ha⟩
theorem bW9 (n:Nat)(ob:Ob)(e:TypeId)(sz:Nat)(v:CV)(L:List CV)(t:TypeId):iX (sub [0,1] n) ob 0 [.box t (.c v),.row e sz L]=upd (upd ob 0 (some (.box t (.c v)))) 1 (some (.row e sz L)):=rfl
theorem cE5 (n m:Nat):HV.ren (sub [0,1] n) (.own 1 m)= .own 1 m:=rfl
theorem cO8 (L:List Int)(a:Nat)(T:List Nd):lst [.box 76 (.c (tp L a)),.row 89 7 (T.map Nd.cv)]=fob [(0,.box 76 (.c (tp L a))),(1,.row 89 7 (T.map Nd.cv))]:=by
 funext i
 match i with
 |0=>rfl
 |1=>rfl
 |i+2=>simp[lst,fob,upd]
abbrev cR2 (L:List Int)(a d:Nat)(T:List Nd)(r:HV)(os':List HO):Prop:=
 ∃(t:List Nd) (a':Nat),r= .own 1 (T++t).length∧os'=[.box 76 (.c (tp L a')),.row 89 7 ((T++t).map Nd.cv)]∧Made d T.length t∧a'≤a+aB d
theorem cK5 (d:Nat): ∀(L:List Int) (a:Nat) (T:List Nd),d≤3→a+aB d<2^38→0<T.length→T.length<2^38→
  HGe Tryz.prog 36 [.ptr 0 0,.own 1 T.length,.c (.int .i64 d)] [.box 76 (.c (tp L a)),.row 89 7 (T.map Nd.cv)] (cR2 L a d T):=by
 induction d using Nat.strongRecOn with
 |ind d ih=>?_
 intro L a T hd ha hT0 hTl;refine bD (args:=[.ptr 0 0,.own 1 T.length,.c (.int .i64 d)]) Tryz.func36 rfl (by kernel_rfl) (eX rfl (by simp[dU,HO.men,HV.men,HV.menL]) (by simp[HV.menL,HV.men])) (Nat.le_of_ble_eq_true rfl) ?_;show Hw _ _ 2 _ _ _ (lst _) 2;rw[cO8];have hab:=aQ1 d hd;have hw1: ∀x:Int,0≤x→x<100→IntKind.i64.wrap (1+x)=1+x:=fun x h1 h2=>IntWalk.i64_in _ (by omega);have hw2: ∀x:Int,0≤x→x<100→IntKind.i64.wrap (2+x)=2+x:=fun x h1 h2=>IntWalk.i64_in _ (by omega);refine R0 ?_;refine aE fun K hK=>?_;refine aE fun K hK=>?_;have key: ∀(b:Bool) (a1:Nat) fr ob nx,(b=false→0<d∧T.length≤8)→a1≤a+1→Fits 2 fr ob (fin [(0,.ptr 0 0),(1,.own 1 T.length),(2,.c (.int .i64 d)),(20,.c (.bool b))]) (fob [(0,.box 76 (.c (tp L a1))),(1,.row 89 7 (T.map Nd.cv))]) 200→K fr ob nx:=by
  rintro b a1 fr ob nx hbf ha1 hf;refine hK _ _ _ (bX hf ?_);clear hf hK K;refine aG (b:=b) rfl (fun hb=>?_) (fun hb=>?_)
  ·
   clear hbf;refine aE fun K hK=>Rg ?_;iterate 2 refine S0 ?_
   refine aC (g:=none) rfl rfl fun K' hK'=>?_;simp only[sH,↓sP,sA,tyS,simprocAttr];refine cL (args:=[]) (bB8 L a1 (by omega)) rfl (by simp) ⟨rfl,rfl,rfl,rfl⟩ ?_;rintro u v' ⟨q,a2,rfl,rfl,s1,s2⟩;refine AX (hK' _ _ ?_);clear hK' K';iterate 4 refine S0 ?_
   refine T2 (hK _ _ _ ?_);clear hK K;refine aJ ?_;simp only[aT,Tryz.results36,aR,aS,aQ,↓sP,sA,tyS,simprocAttr];have:=cG0 d hd;exact aQ3 (t:=[⟨1,0,0,q⟩]) rfl rfl (by simp) (by simp) (aB6 s2) (by omega)
  obtain⟨hd0,hT8⟩:=hbf hb;clear hbf hb;refine aK ?_;refine T0 (hK _ _ _ ?_);clear hK K;refine aE fun K hK=>Rg ?_;refine S0 ?_;refine aC (g:=none) rfl rfl fun K' hK'=>?_;simp only[sH,↓sP,sA,tyS,simprocAttr];refine cL (args:=[_]) (dY L a1 3 (by omega) (by omega)) rfl (by simp) ⟨rfl,rfl,rfl,rfl⟩ ?_;rintro u v' ⟨x,a2,rfl,rfl,h1,h2,h3,h4⟩;refine AX (hK' _ _ ?_);clear hK' K';iterate 2 refine S0 ?_
  refine aC (g:=none) rfl rfl fun K' hK'=>?_;simp only[sH,↓sP,sA,tyS,simprocAttr];refine cL (args:=[_]) (dY L a2 3 (by omega) (by omega)) rfl (by simp) ⟨rfl,rfl,rfl,rfl⟩ ?_;rintro u v' ⟨y,a3,rfl,rfl,g1,g2,g3,g4⟩;refine AX (hK' _ _ ?_);clear hK' K';iterate 4 refine S0 ?_
  refine T2 (hK _ _ _ ?_);clear hK K;refine aE fun K hK=>?_;have key2: ∀(k c N:Int) (a4:Nat) fr ob nx,(1≤c∧c≤3)→k≠1→dE ⟨k,N,c,rq0⟩=true→a4≤a+4→Fits 2 fr ob (fin [(0,.ptr 0 0),(1,.own 1 T.length),(2,.c (.int .i64 d)),(7,.ptr 228 0)]) (fob [(0,.box 76 (.c (tp L a4))),(1,.row 89 7 (T.map Nd.cv)),(228,.box 89 (.c (Nd.cv ⟨k,N,c,rq0⟩)))]) 700→K fr ob nx:=by
   rintro k c N a4 fr ob nx ⟨hc1,hc3⟩ hk1 hnode ha4 hf;refine hK _ _ _ (bX hf ?_);clear hf hK K;refine aE fun K hK=>Rg ?_;iterate 5 refine S0 ?_
   refine T2 (hK _ _ _ ?_);clear hK K;refine aE fun K hK=>?_;refine R0 ?_;refine aP ?_;refine bR (α:={w:List Nd×Nat×Nat//MadeK (d-1) T.length w.2.1 w.1∧w.2.2≤a+4+w.2.1*aB (d-1)∧(w.2.1:Int)≤c∧w.1.length≤60*w.2.1}) (fun w=>(fin [(0,.ptr 0 0),(1,.own 1 (T.length+1+w.1.1.length)),(2,.c (.int .i64 d)),(7,.ptr 228 0),(8,.c (.int .i64 w.1.2.1))],fob [(0,.box 76 (.c (tp L w.1.2.2))),(1,.row 89 7 ((T++⟨k,N,c,rq0⟩::w.1.1).map Nd.cv)),(228,.box 89 (.c (Nd.cv ⟨k,N,c,rq0⟩)))])) 2000 (fun w=>10-w.1.2.1) ⟨([],0,a4),MadeK.zero _ _,by simp only;omega,by simp only;omega,by simp⟩ (fF) ?_;rintro⟨⟨ts,j,a5⟩,i1,i2,i3,i4⟩;simp only at i1 i2 i3 i4;refine aE fun K hK=>?_;refine aE fun K hK=>Rg ?_;iterate 4 refine S0 ?_
   refine T2 (hK _ _ _ ?_);clear hK K;refine aG (b:=decide ((j:Int)<c)) rfl (fun hb=>?_) (fun hb=>?_)
   ·
    have hjc:(j:Int)<c:=by simpa using hb
    clear hb;obtain⟨M,hM⟩: ∃M,M=T++⟨k,N,c,rq0⟩::ts:=⟨_,rfl⟩;have hMl:T.length+1+ts.length=M.length:=by rw[hM];simp;omega
    rw[←hM,hMl];have hwd:IntKind.i64.wrap ((d:Int)-1)=((d-1:Nat):Int):=by rw[IntWalk.i64_in _ (by omega)];omega
    have hab1:=aQ1 (d-1) (by omega);have hj3:j≤2:=by omega
    have hja:j*aB (d-1)≤2*aB (d-1):=Nat.mul_le_mul_right _ hj3;have hdd:aB d=8+3*aB (d-1):=by
     obtain⟨e,rfl⟩: ∃e,d=e+1:=⟨d-1,by omega⟩;rfl
    refine aK ?_;refine T0 (hK _ _ _ ?_);clear hK K;refine aE fun K hK=>?_;refine aP ?_;refine aD (by kernel_rfl) ?_;simp only[sR,simprocAttr];iterate 4 refine S0 ?_ (e:=fun _ h_=>by simp only[sH,↓sP,sA,tyS,simprocAttr,hwd];exact AX h_)
    refine aC (g:=none) rfl rfl fun K' hK'=>?_;simp only[sH,↓sP,sA,tyS,simprocAttr,hwd];refine fG [0,1] (ih (d-1) (by omega) L a5 M (by omega) (by omega) (by omega) (by omega)) rfl ⟨rfl,rfl,trivial⟩ (by simp) (by simp) ⟨rfl,rfl,rfl,rfl⟩ (by simp[dU,HO.men,HV.men,HV.menL]) (by simp[HV.menL,HV.men]) ?_;rintro r os' ⟨t,a6,rfl,rfl,ht,ha6⟩;rw[bW9,cE5];refine AX (hK' _ _ ?_);clear hK' K';refine S0 ?_ (e:=fun _ h_=>by simp only[sH,↓sP,sA,tyS,simprocAttr,hwd];exact AX h_);refine T2 (hK _ _ _ ?_);clear hK K;refine aD (by kernel_rfl) ?_;simp only[↓sP,sA,tyS,simprocAttr,IntWalk.i64_in ((j:Int)+1) (by omega)];have htl:=aQ2 ht (by omega);have hnx:=i1.next (t:=t) (by rw[hMl];exact ht);refine⟨⟨(ts++t,j+1,a6),hnx,by simp only[Nat.add_mul,Nat.one_mul];omega,by simp only;omega,by simp only[List.length_append];omega⟩,?_,?_⟩
    ·
     have e1:M++t=T++⟨k,N,c,rq0⟩::(ts++t):=by rw[hM];simp
     have e2:(M++t).length=T.length+1+(ts++t).length:=by rw[e1];simp;omega
     simp only[];rw[←e1,←e2];exact fF
    show 10-(j+1)<10-j;omega
   have hjc:(j:Int)=c:=by simp at hb;omega
   have hj3:j≤3:=by omega
   have hja:j*aB (d-1)≤3*aB (d-1):=Nat.mul_le_mul_right _ hj3;obtain⟨d',rfl⟩: ∃d',d=d'+1:=⟨d-1,by omega⟩;simp only[Nat.add_sub_cancel]at i1 i2 hja;have hm:=i1.fin (x:=⟨k,N,c,rq0⟩) hT8 hnode hk1 hjc.symm (by omega) (by omega);refine bK ?_;simp only[↓sP,sA,tyS,simprocAttr];clear hK K;refine AX (hK _ _ _ ?_);clear hK K;refine R0 ?_;refine aJ ?_;simp only[aT,Tryz.results36,aR,aS,aQ,↓sP,sA,tyS,simprocAttr];exact aQ3 (t:=⟨k,N,c,rq0⟩::ts) rfl rfl (by simp;omega) rfl hm (by simp only[aB];omega)
  have hx3:=h4 (by omega);have hy3:=g4 (by omega);obtain⟨k,hk⟩: ∃k,k=IntKind.i64.wrap (2+x):=⟨_,rfl⟩;obtain⟨c,hc⟩: ∃c,c=IntKind.i64.wrap (1+y):=⟨_,rfl⟩;have hkx:k=2+x:=by rw[hk,hw2 x h2 (by omega)]
  have hcy:c=1+y:=by rw[hc,hw1 y g2 (by omega)]
  rw[←hk,←hc];clear hk hc h3 h4 g3 g4;refine R0 ?_;refine aG (b:=_) rfl (fun hb=>?_) (fun hb=>?_)
  ·
   refine aD (by kernel_rfl) ?_;simp only[sR,simprocAttr];iterate 3 refine S0 ?_
   refine aC (g:=none) rfl rfl fun K' hK'=>?_;simp only[sH,↓sP,sA,tyS,simprocAttr];refine cL (args:=[_]) (dY L a3 c (by omega) (by omega)) rfl (by simp) ⟨rfl,rfl,rfl,rfl⟩ ?_;rintro u v' ⟨z,a4,rfl,rfl,f1,f2,f3,f4⟩;refine AX (hK' _ _ ?_);clear hK' K';iterate 3 refine S0 ?_
   simp only[sE,↓reduceIte,simprocAttr];have f5:=f4 (by omega);have hk4:k=4:=by simpa using hb
   exact key2 k c (IntKind.i64.wrap (1+z)) a4 _ _ _ ⟨by omega,by omega⟩ (by omega) (by rw[hw1 z f2 (by omega),dE,if_neg (by simp only;omega),if_neg (by simp only;omega),if_pos hk4];simp[inB,gU];omega) (by omega) (aI (by omega) (by simp[aY,fin_at,finA_at,upd_at,HV.men,HV.menL,HV.norm,HV.toC,HV.toCL,Nd.cv,rq0]) (by simp[bB,fob_at,upd_at,none0_at,bN,HO.men,HV.men,HV.menL,HV.norm,HV.toC,HV.toCL,Nd.cv,rq0]))
  refine aK ?_;simp only[↓sP,sA,tyS,simprocAttr];have hk4: ¬k=4:=by simpa using hb
  exact key2 k c 0 a3 _ _ _ ⟨by omega,by omega⟩ (by omega) (by rw[dE,if_neg (by simp only;omega),if_pos (by simp only;omega)];simp[inB,gU];omega) (by omega) (aI (by omega) (by simp[aY,fin_at,finA_at,upd_at,HV.men,HV.menL,HV.norm,HV.toC,HV.toCL,Nd.cv,rq0]) (by simp[bB,fob_at,upd_at,none0_at,bN,HO.men,HV.men,HV.menL,HV.norm,HV.toC,HV.toCL,Nd.cv,rq0]))
 refine aD (by kernel_rfl) ?_;simp only[sR,simprocAttr];iterate 3 refine S0 ?_
 refine aL 10 rfl (fun h1_10=>?_) (fun h1_10=>?_)
 ·
  iterate 9 refine S0 ?_ (e:=fun _ h_=>by simp only[sH,↓sP,sA,tyS,simprocAttr,h1_10];exact AX h_)
  simp only[sE,↓reduceIte,simprocAttr];exact key true a _ _ _ (fun h=>by cases h) (by omega) (fF)
 refine S0 ?_ (e:=fun _ h_=>by simp only[sH,↓sP,sA,tyS,simprocAttr,h1_10];exact AX h_);refine aC (g:=some (11,false)) rfl rfl fun K' hK'=>?_;simp only[sH,↓sP,sA,tyS,simprocAttr,h1_10];refine cL (args:=[_]) (dY L a 3 (by omega) (by omega)) rfl (by simp) ⟨rfl,rfl,rfl,rfl⟩ ?_;rintro u v' ⟨x,a1,rfl,rfl,h1,h2,h3,h4⟩;refine AX (hK' _ _ ?_);clear hK' K';iterate 3 refine S0 ?_ (e:=fun _ h_=>by simp only[sH,↓sP,sA,tyS,simprocAttr,h1_10];exact AX h_)
 refine aL 14 rfl (fun h1_14=>?_) (fun h1_14=>?_)
 ·
  iterate 4 refine S0 ?_ (e:=fun _ h_=>by simp only[sH,↓sP,sA,tyS,simprocAttr,h1_10,h1_14];exact AX h_)
  simp only[sE,↓reduceIte,simprocAttr];exact key true a1 _ _ _ (fun h=>by cases h) h1 (fF)
 iterate 4 refine S0 ?_ (e:=fun _ h_=>by simp only[sH,↓sP,sA,tyS,simprocAttr,h1_10,h1_14];exact AX h_)
 refine aL 19 rfl (fun h1_19=>?_) (fun h1_19=>?_)
 · simp only[h1_19];simp only[sE,↓reduceIte,simprocAttr];exact key true a1 _ _ _ (fun h=>by cases h) h1 (fF)
 simp only[h1_19];simp only[sE,↓reduceIte,simprocAttr];exact key false a1 _ _ _ (fun _=>⟨by simp at h1_10;omega,by simp at h1_19;omega⟩) h1 (fF)
theorem bK4 (N n:Nat)(ob:Ob)(e:TypeId)(sz:Nat)(v:CV)(L:List CV)(t:TypeId):iX (sub [0,N] n) ob 0 [.box t (.c v),.row e sz L]=upd (upd ob 0 (some (.box t (.c v)))) N (some (.row e sz L)):=rfl
theorem bX0 (N n m:Nat):HV.ren (sub [0,N] n) (.own 1 m)= .own N m:=rfl
theorem cO9 (L:List Int)(a:Nat):lst [.box 76 (.c (tp L a))]=fob [(0,.box 76 (.c (tp L a)))]:=by
 funext i
 match i with
 |0=>rfl
 |i+1=>simp[lst,fob,upd]
abbrev MkR (L:List Int)(a d:Nat)(r:HV)(os':List HO):Prop:=
 ∃(t:List Nd) (a':Nat),r= .own 1 t.length∧os'=[.box 76 (.c (tp L a')),.row 89 7 (t.map Nd.cv)]∧Made d 0 t∧a'≤a+aB d
theorem aC6 {a m a':Nat}{t:List Nd}(N:Nat)(hN:1≤N)(h0:ob 0=some (.box 76 (.c (tp L a'))))(h1:ob N=some (.row 89 7 X))(hm:m=t.length)(hX:X=t.map Nd.cv)(hM:Made d 0 t)(ha:a'≤a+aB d):
  iH 1 (.own N m) ob (fun r ob'=> ∃os',ob'=lst os'∧(1≤os'.length∧os'.length≤1+4)∧ ∃(t:List Nd) (a':Nat),r= .own 1 t.length∧os'=[.box 76 (.c (tp L a')),.row 89 7 (t.map Nd.cv)]∧Made d 0 t∧a'≤a+aB d):=by
 subst hm hX;have e1:tau 1 [N] 1=N:=rfl;exact gR [] [N] (.own 1 t.length) [.box 76 (.c (tp L a')),.row 89 7 (t.map Nd.cv)] (by simp[HV.close,HV.norm,HV.toC,HV.ren,e1]) (by simp[HV.men]) ⟨⟨by simp[HO.men,HV.men],by simp,_,h0,by simp[HO.close,HV.close,HO.ren,HV.ren,HV.norm,aL0,HV.toC,tp,CV.denil,CV.denilL,denilL_int]⟩,⟨by simp[HO.men],by simp,_,h1,rfl⟩,trivial⟩ rfl (by simp) (by simpa using hN) (by simp) ⟨t,a',rfl,rfl,hM,ha⟩
theorem cE6 (d:Nat)(L:List Int)(a:Nat)(hd:d≤3)(ha:a+aB d<2^38):
  HGe Tryz.prog 36 [.ptr 0 0,.c .nils,.c (.int .i64 d)] [.box 76 (.c (tp L a))] (MkR L a d):=by
 refine bD (args:=[.ptr 0 0,.c .nils,.c (.int .i64 d)]) Tryz.func36 rfl (by kernel_rfl) (eX rfl (by simp[dU,HO.men,HV.men,HV.menL]) (by simp[HV.menL,HV.men])) (Nat.le_of_ble_eq_true rfl) ?_;show Hw _ _ 1 _ _ _ (lst _) 1;rw[cO9];have hab:=aQ1 d hd;have hw1: ∀x:Int,0≤x→x<100→IntKind.i64.wrap (1+x)=1+x:=fun x h1 h2=>IntWalk.i64_in _ (by omega);have hw2: ∀x:Int,0≤x→x<100→IntKind.i64.wrap (2+x)=2+x:=fun x h1 h2=>IntWalk.i64_in _ (by omega);refine R0 ?_;refine aE fun K hK=>?_;refine aE fun K hK=>?_;have key: ∀(b:Bool) (a1:Nat) fr ob nx,(b=false→0<d)→a1≤a+1→Fits 1 fr ob (fin [(0,.ptr 0 0),(1,.c .nils),(2,.c (.int .i64 d)),(20,.c (.bool b))]) (fob [(0,.box 76 (.c (tp L a1)))]) 200→K fr ob nx:=by
  rintro b a1 fr ob nx hbf ha1 hf;refine hK _ _ _ (bX hf ?_);clear hf hK K;refine aG (b:=b) rfl (fun hb=>?_) (fun hb=>?_)
  ·
   clear hbf;refine aE fun K hK=>Rg ?_;iterate 2 refine S0 ?_
   refine aC (g:=none) rfl rfl fun K' hK'=>?_;simp only[sH,↓sP,sA,tyS,simprocAttr];refine cL (args:=[]) (bB8 L a1 (by omega)) rfl (by simp) ⟨rfl,rfl,rfl,rfl⟩ ?_;rintro u v' ⟨q,a2,rfl,rfl,s1,s2⟩;refine AX (hK' _ _ ?_);clear hK' K';iterate 4 refine S0 ?_
   refine T2 (hK _ _ _ ?_);clear hK K;refine aJ ?_;simp only[aT,Tryz.results36,aR,aS,aQ,↓sP,sA,tyS,simprocAttr];have:=cG0 d hd;exact aC6 220 (by decide) (t:=[⟨1,0,0,q⟩]) rfl rfl (by simp) (by simp) (aB6 s2) (by omega)
  have hd0:=hbf hb;clear hbf hb;refine aK ?_;refine T0 (hK _ _ _ ?_);clear hK K;refine aE fun K hK=>Rg ?_;refine S0 ?_;refine aC (g:=none) rfl rfl fun K' hK'=>?_;simp only[sH,↓sP,sA,tyS,simprocAttr];refine cL (args:=[_]) (dY L a1 3 (by omega) (by omega)) rfl (by simp) ⟨rfl,rfl,rfl,rfl⟩ ?_;rintro u v' ⟨x,a2,rfl,rfl,h1,h2,h3,h4⟩;refine AX (hK' _ _ ?_);clear hK' K';iterate 2 refine S0 ?_
  refine aC (g:=none) rfl rfl fun K' hK'=>?_;simp only[sH,↓sP,sA,tyS,simprocAttr];refine cL (args:=[_]) (dY L a2 3 (by omega) (by omega)) rfl (by simp) ⟨rfl,rfl,rfl,rfl⟩ ?_;rintro u v' ⟨y,a3,rfl,rfl,g1,g2,g3,g4⟩;refine AX (hK' _ _ ?_);clear hK' K';iterate 4 refine S0 ?_
  refine T2 (hK _ _ _ ?_);clear hK K;refine aE fun K hK=>?_;have key2: ∀(k c N:Int) (a4:Nat) fr ob nx,(1≤c∧c≤3)→k≠1→dE ⟨k,N,c,rq0⟩=true→a4≤a+4→Fits 1 fr ob (fin [(0,.ptr 0 0),(1,.c .nils),(2,.c (.int .i64 d)),(7,.ptr 228 0)]) (fob [(0,.box 76 (.c (tp L a4))),(228,.box 89 (.c (Nd.cv ⟨k,N,c,rq0⟩)))]) 700→K fr ob nx:=by
   rintro k c N a4 fr ob nx ⟨hc1,hc3⟩ hk1 hnode ha4 hf;refine hK _ _ _ (bX hf ?_);clear hf hK K;refine aE fun K hK=>Rg ?_;iterate 5 refine S0 ?_
   refine T2 (hK _ _ _ ?_);clear hK K;refine aE fun K hK=>?_;refine R0 ?_;refine aP ?_;refine bR (α:={w:List Nd×Nat×Nat//MadeK (d-1) 0 w.2.1 w.1∧w.2.2≤a+4+w.2.1*aB (d-1)∧(w.2.1:Int)≤c∧w.1.length≤60*w.2.1}) (fun w=>(fin [(0,.ptr 0 0),(1,.own 712 (1+w.1.1.length)),(2,.c (.int .i64 d)),(7,.ptr 228 0),(8,.c (.int .i64 w.1.2.1))],fob [(0,.box 76 (.c (tp L w.1.2.2))),(712,.row 89 7 ((⟨k,N,c,rq0⟩::w.1.1:List Nd).map Nd.cv)),(228,.box 89 (.c (Nd.cv ⟨k,N,c,rq0⟩)))])) 2000 (fun w=>10-w.1.2.1) ⟨([],0,a4),MadeK.zero _ _,by simp only;omega,by simp only;omega,by simp⟩ (fF) ?_;rintro⟨⟨ts,j,a5⟩,i1,i2,i3,i4⟩;simp only at i1 i2 i3 i4;refine aE fun K hK=>?_;refine aE fun K hK=>Rg ?_;iterate 4 refine S0 ?_
   refine T2 (hK _ _ _ ?_);clear hK K;refine aG (b:=decide ((j:Int)<c)) rfl (fun hb=>?_) (fun hb=>?_)
   ·
    have hjc:(j:Int)<c:=by simpa using hb
    clear hb;obtain⟨M,hM⟩: ∃M:List Nd,M=⟨k,N,c,rq0⟩::ts:=⟨_,rfl⟩;have hMl:1+ts.length=M.length:=by rw[hM];simp;omega
    have hMm:Nd.cv ⟨k,N,c,rq0⟩::List.map Nd.cv ts=List.map Nd.cv M:=by rw[hM];rfl
    rw[hMm,hMl];have hwd:IntKind.i64.wrap ((d:Int)-1)=((d-1:Nat):Int):=by rw[IntWalk.i64_in _ (by omega)];omega
    have hab1:=aQ1 (d-1) (by omega);have hj3:j≤2:=by omega
    have hja:j*aB (d-1)≤2*aB (d-1):=Nat.mul_le_mul_right _ hj3;have hdd:aB d=8+3*aB (d-1):=by
     obtain⟨e,rfl⟩: ∃e,d=e+1:=⟨d-1,by omega⟩;rfl
    refine aK ?_;refine T0 (hK _ _ _ ?_);clear hK K;refine aE fun K hK=>?_;refine aP ?_;refine aD (by kernel_rfl) ?_;simp only[sR,simprocAttr];iterate 4 refine S0 ?_ (e:=fun _ h_=>by simp only[sH,↓sP,sA,tyS,simprocAttr,hwd];exact AX h_)
    refine aC (g:=none) rfl rfl fun K' hK'=>?_;simp only[sH,↓sP,sA,tyS,simprocAttr,hwd];refine fG [0,712] (cK5 (d-1) L a5 M (by omega) (by omega) (by omega) (by omega)) rfl ⟨rfl,rfl,trivial⟩ (by simp) (by simp) ⟨rfl,rfl,rfl,rfl⟩ (by simp[dU,HO.men,HV.men,HV.menL]) (by simp[HV.menL,HV.men]) ?_;rintro r os' ⟨t,a6,rfl,rfl,ht,ha6⟩;rw[bK4,bX0];refine AX (hK' _ _ ?_);clear hK' K';refine S0 ?_ (e:=fun _ h_=>by simp only[sH,↓sP,sA,tyS,simprocAttr,hwd];exact AX h_);refine T2 (hK _ _ _ ?_);clear hK K;refine aD (by kernel_rfl) ?_;simp only[↓sP,sA,tyS,simprocAttr,IntWalk.i64_in ((j:Int)+1) (by omega)];have htl:=aQ2 ht (by omega);have hnx:=i1.next (t:=t) (by rw[Nat.zero_add,hMl];exact ht);refine⟨⟨(ts++t,j+1,a6),hnx,by simp only[Nat.add_mul,Nat.one_mul];omega,by simp only;omega,by simp only[List.length_append];omega⟩,?_,?_⟩
    ·
     have e1:Nd.cv ⟨k,N,c,rq0⟩::List.map Nd.cv (ts++t)=List.map Nd.cv (M++t):=by rw[hM];simp
     have e2:(M++t).length=1+(ts++t).length:=by rw[hM];simp;omega
     simp only[];rw[e1,←e2];exact fF
    show 10-(j+1)<10-j;omega
   have hjc:(j:Int)=c:=by simp at hb;omega
   have hj3:j≤3:=by omega
   have hja:j*aB (d-1)≤3*aB (d-1):=Nat.mul_le_mul_right _ hj3;obtain⟨d',rfl⟩: ∃d',d=d'+1:=⟨d-1,by omega⟩;simp only[Nat.add_sub_cancel]at i1 i2 hja;have hm:=i1.fin (x:=⟨k,N,c,rq0⟩) (by omega) hnode hk1 hjc.symm (by omega) (by omega);refine bK ?_;simp only[↓sP,sA,tyS,simprocAttr];clear hK K;refine AX (hK _ _ _ ?_);clear hK K;refine R0 ?_;refine aJ ?_;simp only[aT,Tryz.results36,aR,aS,aQ,↓sP,sA,tyS,simprocAttr];exact aC6 712 (by decide) (t:=⟨k,N,c,rq0⟩::ts) rfl rfl (by simp;omega) rfl hm (by simp only[aB];omega)
  have hx3:=h4 (by omega);have hy3:=g4 (by omega);obtain⟨k,hk⟩: ∃k,k=IntKind.i64.wrap (2+x):=⟨_,rfl⟩;obtain⟨c,hc⟩: ∃c,c=IntKind.i64.wrap (1+y):=⟨_,rfl⟩;have hkx:k=2+x:=by rw[hk,hw2 x h2 (by omega)]
  have hcy:c=1+y:=by rw[hc,hw1 y g2 (by omega)]
  rw[←hk,←hc];clear hk hc h3 h4 g3 g4;refine R0 ?_;refine aG (b:=_) rfl (fun hb=>?_) (fun hb=>?_)
  ·
   refine aD (by kernel_rfl) ?_;simp only[sR,simprocAttr];iterate 3 refine S0 ?_
   refine aC (g:=none) rfl rfl fun K' hK'=>?_;simp only[sH,↓sP,sA,tyS,simprocAttr];refine cL (args:=[_]) (dY L a3 c (by omega) (by omega)) rfl (by simp) ⟨rfl,rfl,rfl,rfl⟩ ?_;rintro u v' ⟨z,a4,rfl,rfl,f1,f2,f3,f4⟩;refine AX (hK' _ _ ?_);clear hK' K';iterate 3 refine S0 ?_
   simp only[sE,↓reduceIte,simprocAttr];have f5:=f4 (by omega);have hk4:k=4:=by simpa using hb
   exact key2 k c (IntKind.i64.wrap (1+z)) a4 _ _ _ ⟨by omega,by omega⟩ (by omega) (by rw[hw1 z f2 (by omega),dE,if_neg (by simp only;omega),if_neg (by simp only;omega),if_pos hk4];simp[inB,gU];omega) (by omega) (aI (by omega) (by simp[aY,fin_at,finA_at,upd_at,HV.men,HV.menL,HV.norm,HV.toC,HV.toCL,Nd.cv,rq0]) (by simp[bB,fob_at,upd_at,none0_at,bN,HO.men,HV.men,HV.menL,HV.norm,HV.toC,HV.toCL,Nd.cv,rq0]))
  refine aK ?_;simp only[↓sP,sA,tyS,simprocAttr];have hk4: ¬k=4:=by simpa using hb
  exact key2 k c 0 a3 _ _ _ ⟨by omega,by omega⟩ (by omega) (by rw[dE,if_neg (by simp only;omega),if_pos (by simp only;omega)];simp[inB,gU];omega) (by omega) (aI (by omega) (by simp[aY,fin_at,finA_at,upd_at,HV.men,HV.menL,HV.norm,HV.toC,HV.toCL,Nd.cv,rq0]) (by simp[bB,fob_at,upd_at,none0_at,bN,HO.men,HV.men,HV.menL,HV.norm,HV.toC,HV.toCL,Nd.cv,rq0]))
 refine aD (by kernel_rfl) ?_;simp only[sR,simprocAttr];iterate 3 refine S0 ?_
 refine aL 10 rfl (fun h1_10=>?_) (fun h1_10=>?_)
 ·
  iterate 9 refine S0 ?_ (e:=fun _ h_=>by simp only[sH,↓sP,sA,tyS,simprocAttr,h1_10];exact AX h_)
  simp only[sE,↓reduceIte,simprocAttr];exact key true a _ _ _ (fun h=>by cases h) (by omega) (fF)
 refine S0 ?_ (e:=fun _ h_=>by simp only[sH,↓sP,sA,tyS,simprocAttr,h1_10];exact AX h_);refine aC (g:=some (11,false)) rfl rfl fun K' hK'=>?_;simp only[sH,↓sP,sA,tyS,simprocAttr,h1_10];refine cL (args:=[_]) (dY L a 3 (by omega) (by omega)) rfl (by simp) ⟨rfl,rfl,rfl,rfl⟩ ?_;rintro u v' ⟨x,a1,rfl,rfl,h1,h2,h3,h4⟩;refine AX (hK' _ _ ?_);clear hK' K';iterate 3 refine S0 ?_ (e:=fun _ h_=>by simp only[sH,↓sP,sA,tyS,simprocAttr,h1_10];exact AX h_)
 refine aL 14 rfl (fun h1_14=>?_) (fun h1_14=>?_)
 ·
  iterate 4 refine S0 ?_ (e:=fun _ h_=>by simp only[sH,↓sP,sA,tyS,simprocAttr,h1_10,h1_14];exact AX h_)
  simp only[sE,↓reduceIte,simprocAttr];exact key true a1 _ _ _ (fun h=>by cases h) h1 (fF)
 refine S0 ?_ (e:=fun _ h_=>by simp only[sH,↓sP,sA,tyS,simprocAttr,h1_10,h1_14];exact AX h_);refine aC (g:=some (16,false)) rfl rfl fun K' hK'=>?_;simp only[sH,↓sP,sA,tyS,simprocAttr,h1_10,h1_14];obtain⟨z,hz⟩: ∃z:Int,z=0:=⟨_,rfl⟩;rw[←hz];refine AX (hK' _ _ ?_);clear hK' K';iterate 2 refine S0 ?_ (e:=fun _ h_=>by simp only[sH,↓sP,sA,tyS,simprocAttr,h1_10,h1_14];exact AX h_)
 refine aL 19 rfl (fun h1_19=>?_) (fun h1_19=>?_)
 · simp only[h1_19];simp only[sE,↓reduceIte,simprocAttr];exact key true a1 _ _ _ (fun h=>by cases h) h1 (fF)
 simp only[h1_19];simp only[sE,↓reduceIte,simprocAttr];exact key false a1 _ _ _ (fun _=>(by simp at h1_10;omega)) h1 (fF)
theorem cE7 (n:Nat)(ob:Ob)(e:TypeId)(sz:Nat)(v:CV)(L:List CV)(t:TypeId):iX (sub [0] n) ob 0 [.box t (.c v),.row e sz L]=upd (upd ob 0 (some (.box t (.c v)))) n (some (.row e sz L)):=rfl
theorem cK6 (n m:Nat):HV.ren (sub [0] n) (.own 1 m)= .own n m:=rfl
theorem bK5 (L:List Int)(a:Nat)(ha:a<2^37):bD4 Tryz.prog 11 76 (tp L a) [] (fun u v'=> ∃(t:List Nd) (a':Nat),u= .slc (t.map Nd.cv)∧v'=tp L a'∧Made 3 0 t∧a'≤a+400):=by
 refine bD Tryz.func11 rfl (by kernel_rfl) (jC _ _ _) (Nat.le_of_ble_eq_true rfl) ?_;have hab:=aQ1 3 (by decide);refine R0 ?_;refine aE fun K hK=>cK (by kernel_rfl) ?_;simp only[sR,simprocAttr];refine SG0 ?_;refine aK1 (g:=none) rfl rfl fun K' hK'=>?_;simp only[sN,↓hopH.eq_def,sH,↓sP,sA,tyS,simprocAttr];refine fG [0] (cE6 3 L a (by decide) (by omega)) rfl ⟨rfl,trivial⟩ (by simp) (by simp) ⟨rfl,rfl,rfl,rfl⟩ (by simp[dU,HO.men,HV.men,HV.menL]) (by simp[HV.menL,HV.men]) ?_;rintro r os' ⟨t,a',rfl,rfl,ht,ha'⟩;rw[cE7,cK6];refine AX (hK' _ _ ?_);clear hK' K';refine SG0 ?_;refine T2 (hK _ _ _ ?_);clear hK K;refine aJ ?_;simp only[aT,Tryz.results11,aR,aS,aQ,↓sP,sA,tyS,simprocAttr];exact kX [9] (.slc (t.map Nd.cv)) (tp L a') (by simp[HV.close,HV.closeL,CV.denil,CV.denilL,denilL_Nd,HV.norm,HV.toC,HV.toCL,fob_at,upd_at]) rfl (by simp[HV.close,HV.closeL,tp,CV.denil,CV.denilL,denilL_int,HV.norm,HV.toC,HV.toCL]) (by simp) ⟨t,a',rfl,rfl,ht,by omega⟩
end Go.Proofs.YthedbjfipmkpiaaGreatDoor
namespace Go.Pl
open Go Go.Hl
theorem aW2 {X:List Ln}{i:Nat}(h:i<X.length):dD (X.take (i+1))=dD (X.take i)++X[i].d:=by
 unfold dD;rw[List.take_succ_eq_append_getElem h,List.flatMap_append];simp
def xV (V:List Nat)(x:Ln)(k:Nat):Bool:=x.k==1&&(V.take k).any fun j=>(j:Int)==x.n
theorem bK6 (V:List Nat)(x:Ln):xV V x 0=false:=by simp[xV]
variable {x:Ln}
theorem aC7 {V:List Nat}{k:Nat}(h:k<V.length):xV V x (k+1)=(xV V x k||(x.k==1&&(V[k]:Int)==x.n)):=by
 unfold xV;rw[List.take_succ_eq_append_getElem h,List.any_append];cases x.k==1<;>simp
def uL (V:List Nat)(X:List Ln)(i k:Nat)(x:Ln):List Dig:=dD (X.take i)++if xV V x k then x.d else []
variable {S:List Sp}{l:List Nd}
theorem bK7 (h:evalV l (truL S)=true)(hx:x∈proveV l S)(hk:x.k=1){k:Nat}(hkl:k<(dC 0 l).length)(hn:x.n=((dC 0 l)[k]:Nat)):xV (dC 0 l) x k=false∧(S.getD k sp0).h=true∧x.d=(S.getD k sp0).d:=by
 obtain⟨j,hj,h1,h2,h3⟩:=tY h x hx hk;have hxn:x.n=j:=by rw[h2];rfl
 have hjk:(dC 0 l)[k]=j:=by omega
 have hlv:=aB4 hj h1 (k:=k) (by rw[List.getElem?_eq_getElem hkl,hjk]);refine⟨?_,by rw[hlv];exact h3,by rw[h2,hlv];rfl⟩;unfold xV;rw[show(x.k==1)=true from by simp[hk],Bool.true_and,List.any_eq_false];intro m hm;obtain⟨p,hp,rfl⟩:=List.getElem_of_mem hm;rw[List.length_take]at hp;rw[List.getElem_take];have:=List.pairwise_iff_getElem.1 (xI l 0).1 p k (by omega) hkl (by omega);simp only[beq_iff_eq];omega
theorem bX1 (h:evalV l (truL S)=true)(hx:x∈proveV l S):(if xV (dC 0 l) x (dC 0 l).length then x.d else [])=x.d:=by
 rcases Decidable.em (x.k=1)with hk|hk
 ·
  obtain⟨j,hj,h1,h2,h3⟩:=tY h x hx hk;have hxn:x.n=j:=by rw[h2];rfl
  obtain⟨a1,a2⟩:=List.getElem?_eq_some_iff.1 (xH hj h1);rw[if_pos];unfold xV;rw[show(x.k==1)=true from by simp[hk],Bool.true_and,List.take_length,List.any_eq_true];exact⟨_,List.getElem_mem a1,by rw[a2,hxn];simp⟩
 ·
  obtain⟨c,hc⟩:=xO S;rcases(xN hc x hx).2.2.2.2.2 with⟨h1,_⟩|⟨_,h1⟩
  · exact absurd h1 hk
  · rw[h1];simp
end Go.Pl
namespace Go.Proofs.YthedbjfipmkpiaaGreatDoor
open Go Go.Hl Go.Pl
set_option maxRecDepth 10000
set_option maxHeartbeats 4000000
theorem aQ4 (L:List Int)(a:Nat)(T:List Nd)(hn: ∀n∈T,n.q.t.length<2^63)(hlv:(dA T).length≤16)(odds:Int)(ho:odds<2^40)(ha:a<2^38):bD4 Tryz.prog 12 76 (tp L a) [.slc (T.map Nd.cv),.int .i64 odds] (fun u v'=> ∃(S:List Sp) (a':Nat),u= .slc (S.map Sp.cv)∧v'=tp L a'∧S.length=(dA T).length∧(∀x∈S,x.d.length≤2)∧a'≤a+64):=by
 refine bD Tryz.func12 rfl (by kernel_rfl) (jC _ _ _) (Nat.le_of_ble_eq_true rfl) ?_;refine aE fun K hK=>aD (by kernel_rfl) ?_;simp (maxSteps:=4000000) only[↓sP,sA,tyS,simprocAttr];repeat refine AI ?_
 refine hK _ _ _ ?_;clear hK K;refine aE fun K hK=>aD (by kernel_rfl) ?_;simp (maxSteps:=4000000) only[↓sP,sA,tyS,simprocAttr];repeat refine AI ?_
 refine hK _ _ _ ?_;clear hK K;refine aE fun K hK=>?_;refine aE fun K hK=>aD (by kernel_rfl) ?_;simp (maxSteps:=4000000) only[↓sP,sA,tyS,simprocAttr];repeat refine AI ?_
 refine hK _ _ _ ?_;clear hK K;refine aP ?_;refine jJ 7 0 64 3 rfl rfl rfl rfl ?_;refine bR (α:={y:Nat×List Sp×Nat//y.1≤(dA T).length∧y.2.1.length=y.1∧(∀x∈y.2.1,x.d.length≤2)∧y.2.2≤a+4*y.1}) (fun y=>(fin [(0,.ptr 0 0),(1,.c (.slc (T.map Nd.cv))),(2,.c (.int .i64 odds)),(7,.own 13 y.1.2.1.length),(8,.c (.int .i64 y.1.1))],fob [(0,.box 76 (.c (tp L y.1.2.2))),(13,.row 64 3 (y.1.2.1.map Sp.cv))])) 200 (fun y=>(dA T).length-y.1.1) ⟨(0,[],a),by simp,rfl,by simp,by simp⟩ (aI (by omega) (by simp[aY,fin_at,finA_at,upd_at,HV.men,HV.menL,HV.norm,HV.toC,HV.toCL]) (by simp[bB,fob_at,upd_at,none0_at,bN,HO.men,HV.men,HV.menL,HV.norm,HV.toC,HV.toCL])) ?_;rintro⟨⟨i,S,b⟩,hi,hS,hd,hbb⟩;simp only at hi hS hd hbb⊢;refine aE fun K hK=>?_;refine aE fun K hK=>aD (by kernel_rfl) ?_;simp only[sR,simprocAttr];iterate 2
  (refine aC (g:=none) rfl rfl fun K' hK'=>?_;simp only[sH,↓sP,sA,tyS,simprocAttr,denilL_Nd,List.length_map];(repeat refine AI ?_);refine hK' _ _ ?_;clear hK' K')
 refine aC (g:=none) rfl rfl fun K' hK'=>?_;simp (maxSteps:=4000000) only[sH,↓sP,sA,tyS,simprocAttr,denilL_Nd,List.length_map];refine aX (args:=[_]) (oC T hn) ⟨rfl,rfl,rfl,rfl⟩ ?_;rintro u rfl;repeat refine AI ?_
 refine hK' _ _ ?_;clear hK' K';iterate 2
  (refine aC (g:=none) rfl rfl fun K' hK'=>?_;simp only[sH,↓sP,sA,tyS,simprocAttr,denilL_Nd,List.length_map];(repeat refine AI ?_);refine hK' _ _ ?_;clear hK' K')
 simp only[sE,↓reduceIte,simprocAttr];repeat refine AI ?_
 refine hK _ _ _ ?_;clear hK K;refine aG (b:=decide ((i:Int)<(dA T).length)) rfl (fun hb=>?_) (fun hb=>?_)
 ·
  have hlt:i<(dA T).length:=by have:=of_decide_eq_true hb;omega
  clear hb;refine aK ?_;simp (maxSteps:=4000000) only[↓sP,sA,tyS,simprocAttr];repeat refine AI ?_
  refine hK _ _ _ ?_;clear hK K;refine aE fun K hK=>?_;refine aP ?_;refine aE fun K hK=>aD (by kernel_rfl) ?_;simp only[sR,simprocAttr];iterate 2
   (refine aC (g:=none) rfl rfl fun K' hK'=>?_;simp only[sH,↓sP,sA,tyS,simprocAttr];(repeat refine AI ?_);refine hK' _ _ ?_;clear hK' K')
  refine aC (g:=none) rfl rfl fun K' hK'=>?_;simp (maxSteps:=4000000) only[sH,↓sP,sA,tyS,simprocAttr];refine cL (args:=[_]) (dY L b odds (by omega) (by omega)) rfl (by simp) ⟨rfl,rfl,rfl,rfl⟩ ?_;rintro u v' ⟨x,a1,rfl,rfl,h1,h2,h3,h4⟩;repeat refine AI ?_
  refine hK' _ _ ?_;clear hK' K';iterate 4
   (refine aC (g:=none) rfl rfl fun K' hK'=>?_;simp only[sH,↓sP,sA,tyS,simprocAttr];(repeat refine AI ?_);refine hK' _ _ ?_;clear hK' K')
  simp only[sE,↓reduceIte,simprocAttr];repeat refine AI ?_
  refine hK _ _ _ ?_;clear hK K;refine aE fun K hK=>?_;refine aE fun K hK=>aD (by kernel_rfl) ?_;simp only[sR,simprocAttr];refine aC (g:=none) rfl rfl fun K' hK'=>?_;simp (maxSteps:=4000000) only[sH,↓sP,sA,tyS,simprocAttr];repeat refine AI ?_
  refine hK' _ _ ?_;clear hK' K';refine aC (g:=none) rfl rfl fun K' hK'=>?_;simp (maxSteps:=4000000) only[sH,↓sP,sA,tyS,simprocAttr];refine cL (args:=[_]) (dY L a1 3 (by omega) (by omega)) rfl (by simp) ⟨rfl,rfl,rfl,rfl⟩ ?_;rintro u v' ⟨y,a2,rfl,rfl,g1,g2,g3,g4⟩;obtain⟨m,rfl⟩: ∃m:Nat,y=m:=⟨y.toNat,by omega⟩;have hm:m≤2:=by have:=g4 (by omega);omega
  clear g2 g3 g4;repeat refine AI ?_
  refine hK' _ _ ?_;clear hK' K';refine aC (g:=none) rfl rfl fun K' hK'=>?_;simp (maxSteps:=4000000) only[sH,↓sP,sA,tyS,simprocAttr];repeat refine AI ?_
  refine hK' _ _ ?_;clear hK' K';simp only[sE,↓reduceIte,simprocAttr];repeat refine AI ?_
  refine hK _ _ _ ?_;clear hK K;refine aP ?_;obtain⟨hh,hhe⟩: ∃c,c=decide (0<x):=⟨_,rfl⟩;rw[←hhe];refine eJ [] ?_;refine bR (α:={z:Nat×List Dig×Nat//z.1+z.2.1.length≤2∧z.2.2+z.1≤a2+2}) (fun z=>(fin [(0,.ptr 0 0),(1,.c (.slc (T.map Nd.cv))),(2,.c (.int .i64 odds)),(7,.own 13 S.length),(8,.c (.int .i64 i)),(9,.ptr 240 0),(10,.c (.int .i64 z.1.1))],fob [(0,.box 76 (.c (tp L z.1.2.2))),(13,.row 64 3 (S.map Sp.cv)),(240,.box 64 (.c (Sp.cv ⟨hh,z.1.2.1,0⟩)))])) 500 (fun z=>z.1.1) ⟨(m,[],a2),by simp;omega,by simp;omega⟩ (aI (by omega) (by simp[aY,fin_at,finA_at,upd_at,HV.men,HV.menL,HV.norm,HV.toC,HV.toCL,eF,fK,HO.close,HV.close,HV.closeL,tp,CV.denil,CV.denilL,denilL_int,denilL_Nd,Sp.cv]) (by simp[bB,fob_at,upd_at,none0_at,bN,HO.men,HV.men,HV.menL,HV.norm,HV.toC,HV.toCL,eF,fK,HO.close,HV.close,HV.closeL,tp,CV.denil,CV.denilL,denilL_int,denilL_Nd,Sp.cv])) ?_;rintro⟨⟨n,D,a3⟩,hz1,hz2⟩;simp only at hz1 hz2⊢;refine aE fun K hK=>?_;refine aE fun K hK=>aD (by kernel_rfl) ?_;simp only[sR,simprocAttr];iterate 3
   (refine aC (g:=none) rfl rfl fun K' hK'=>?_;simp only[sH,↓sP,sA,tyS,simprocAttr];(repeat refine AI ?_);refine hK' _ _ ?_;clear hK' K')
  refine aL 26 rfl (fun h7_26=>?_) (fun h7_26=>?_)
  ·
   iterate 2
    (refine aC (g:=some (27,true)) rfl rfl fun K' hK'=>?_;simp only[sH,↓sP,sA,tyS,simprocAttr,h7_26];(repeat refine AI ?_);refine hK' _ _ ?_;clear hK' K')
   refine aC (g:=none) rfl rfl fun K' hK'=>?_;simp (maxSteps:=4000000) only[sH,↓sP,sA,tyS,simprocAttr,h7_26];repeat refine AI ?_
   refine hK' _ _ ?_;clear hK' K';refine aL 29 rfl (fun h7_29=>?_) (fun h7_29=>?_)
   ·
    simp only[h7_29];simp only[sE,↓reduceIte,simprocAttr];repeat refine AI ?_
    refine hK _ _ _ ?_;clear hK K;refine aG (b:=true) rfl (fun hb=>?_) (fun hb=>?_)
    ·
     refine aK ?_;simp (maxSteps:=4000000) only[↓sP,sA,tyS,simprocAttr];repeat refine AI ?_
     refine hK _ _ _ ?_;clear hK K;refine aE fun K hK=>?_;refine aP ?_;refine dJ mixed [(0,[],[]),(1,[],[]),(2,[],[]),(3,[],[0,1]),(4,[],[]),(5,[],[]),(6,[],[]),(7,[],[]),(8,[],[]),(9,[],[])] [0,1,0,4,12,28,60,127,255,511] (by kernel_rfl) (by kernel_rfl) (by kernel_rfl) (by kernel_rfl) rfl (by kernel_rfl) ?_;iterate 3
      (refine bG (g:=none) rfl rfl fun K' hK'=>?_;simp only[sH,↓sP,sA,tyS,simprocAttr,denilL_dg,h7_26,h7_29];(repeat refine AI ?_);refine hK' _ _ ?_;clear hK' K')
     refine bG (g:=none) rfl rfl fun K' hK'=>?_;simp (maxSteps:=4000000) only[sH,↓sP,sA,tyS,simprocAttr,denilL_dg,h7_26,h7_29];refine cL (args:=[_]) (dY L a3 9 (by omega) (by omega)) rfl (by simp) ⟨rfl,rfl,rfl,rfl⟩ ?_;rintro u v' ⟨x2,a4,rfl,rfl,k1,k2,k3,k4⟩;have hx2:=k4 (by omega);have e1:IntKind.i64.wrap (1+x2)=1+x2:=IntWalk.i64_in _ (by omega);have e2:IntKind.u8.wrap (1+x2)=1+x2:=IntWalk.u8_in _ (by omega);repeat refine AI ?_
     refine hK' _ _ ?_;clear hK' K';iterate 3
      (refine bG (g:=none) rfl rfl fun K' hK'=>?_;simp only[sH,↓sP,sA,tyS,simprocAttr,denilL_dg,e1,e2,h7_26,h7_29];(repeat refine AI ?_);refine hK' _ _ ?_;clear hK' K')
     refine bG (g:=none) rfl rfl fun K' hK'=>?_;simp (maxSteps:=4000000) only[sH,↓sP,sA,tyS,simprocAttr,denilL_dg,e1,e2,h7_26,h7_29];rw[bD5 (show 0≤1+x2 by omega) (by omega)];refine aX (args:=[_,_]) (bB5 D (dg1 (UInt8.ofNat (1+x2).toNat)) (by omega)) ⟨rfl,rfl,rfl,rfl⟩ ?_;rintro u ⟨Q,rfl,hQ⟩;have hQl:Q.length≤D.length+1:=by
      have h1:=aJ8 (dws D) (dg1 (UInt8.ofNat (1+x2).toNat)).1;rw[←hQ,eU,eU]at h1;exact h1
     repeat refine AI ?_
     refine hK' _ _ ?_;clear hK' K';iterate 2
      (refine bG (g:=none) rfl rfl fun K' hK'=>?_;simp only[sH,↓sP,sA,tyS,simprocAttr,denilL_dg,e1,e2,h7_26,h7_29];(repeat refine AI ?_);refine hK' _ _ ?_;clear hK' K')
     simp only[sE,↓reduceIte,simprocAttr];repeat refine AI ?_
     refine hK _ _ _ ?_;clear hK K;refine aD (by kernel_rfl) ?_;simp (maxSteps:=4000000) only[↓sP,sA,tyS,simprocAttr];have hnp:0<n:=by have:=of_decide_eq_true h7_26;omega
     have ew:IntKind.i64.wrap ((n:Int)-1)=((n-1:Nat):Int):=by rw[IntWalk.i64_in _ (by omega)];omega
     subst h7_29;rw[ew];refine⟨⟨(n-1,Q,a4),by simp only;omega,by simp only;omega⟩,aI (by omega) (by simp[aY,fin_at,finA_at,upd_at,HV.men,HV.menL,HV.norm,HV.toC,HV.toCL]) (by simp[bB,fob_at,upd_at,none0_at,bN,HO.men,HV.men,HV.menL,HV.norm,HV.toC,HV.toCL]),by simp only;omega⟩
    cases hb
   simp only[h7_29];simp only[sE,↓reduceIte,simprocAttr];repeat refine AI ?_
   refine hK _ _ _ ?_;clear hK K;refine aG (b:=false) rfl (fun hb=>?_) (fun hb=>?_)
   · cases hb
   refine bK ?_;simp (maxSteps:=4000000) only[↓sP,sA,tyS,simprocAttr];clear hK K;repeat refine AI ?_
   refine hK _ _ _ ?_;clear hK K;refine aD (by kernel_rfl) ?_;simp only[sR,simprocAttr];iterate 5
    (refine aC (g:=none) rfl rfl fun K' hK'=>?_;simp only[sH,↓sP,sA,tyS,simprocAttr,h7_26,h7_29];(repeat refine AI ?_);refine hK' _ _ ?_;clear hK' K')
   simp only[sE,↓reduceIte,simprocAttr];repeat refine AI ?_
   refine hK _ _ _ ?_;clear hK K;refine aD (by kernel_rfl) ?_;simp (maxSteps:=4000000) only[↓sP,sA,tyS,simprocAttr];have ew:IntKind.i64.wrap ((i:Int)+1)=((i+1:Nat):Int):=by rw[IntWalk.i64_in _ (by omega)];rfl
   rw[ew];refine⟨⟨(i+1,S++[⟨false,D,0⟩],a3),by simp only;omega,by simp only[List.length_append,List.length_cons,List.length_nil];omega,fun z hz=>?_,by simp only;omega⟩,(aI (by omega) (by simp[aY,fin_at,finA_at,upd_at,HV.men,HV.menL,HV.norm,HV.toC,HV.toCL]) (by simp[bB,fob_at,upd_at,none0_at,bN,HO.men,HV.men,HV.menL,HV.norm,HV.toC,HV.toCL])),by simp only;omega⟩;rcases List.mem_append.1 hz with hz|hz
   · exact hd z hz
   rw[List.mem_singleton.1 hz];simp only;omega
  iterate 2
   (refine aC (g:=some (27,true)) rfl rfl fun K' hK'=>?_;simp only[sH,↓sP,sA,tyS,simprocAttr,h7_26];(repeat refine AI ?_);refine hK' _ _ ?_;clear hK' K')
  refine aC (g:=none) rfl rfl fun K' hK'=>?_;simp (maxSteps:=4000000) only[sH,↓sP,sA,tyS,simprocAttr,h7_26];repeat refine AI ?_
  refine hK' _ _ ?_;clear hK' K';simp only[sE,↓reduceIte,simprocAttr];repeat refine AI ?_
  refine hK _ _ _ ?_;clear hK K;refine aG (b:=false) rfl (fun hb=>?_) (fun hb=>?_)
  · cases hb
  refine bK ?_;simp (maxSteps:=4000000) only[↓sP,sA,tyS,simprocAttr];clear hK K;repeat refine AI ?_
  refine hK _ _ _ ?_;clear hK K;refine aD (by kernel_rfl) ?_;simp only[sR,simprocAttr];iterate 5
   (refine aC (g:=none) rfl rfl fun K' hK'=>?_;simp only[sH,↓sP,sA,tyS,simprocAttr,h7_26];(repeat refine AI ?_);refine hK' _ _ ?_;clear hK' K')
  simp only[sE,↓reduceIte,simprocAttr];repeat refine AI ?_
  refine hK _ _ _ ?_;clear hK K;refine aD (by kernel_rfl) ?_;simp (maxSteps:=4000000) only[↓sP,sA,tyS,simprocAttr];have ew:IntKind.i64.wrap ((i:Int)+1)=((i+1:Nat):Int):=by rw[IntWalk.i64_in _ (by omega)];rfl
  rw[ew];refine⟨⟨(i+1,S++[⟨hh,D,0⟩],a3),by simp only;omega,by simp only[List.length_append,List.length_cons,List.length_nil];omega,fun z hz=>?_,by simp only;omega⟩,(aI (by omega) (by simp[aY,fin_at,finA_at,upd_at,HV.men,HV.menL,HV.norm,HV.toC,HV.toCL]) (by simp[bB,fob_at,upd_at,none0_at,bN,HO.men,HV.men,HV.menL,HV.norm,HV.toC,HV.toCL])),by simp only;omega⟩;rcases List.mem_append.1 hz with hz|hz
  · exact hd z hz
  rw[List.mem_singleton.1 hz];simp only;omega
 have hie:i=(dA T).length:=by have:=of_decide_eq_false hb;omega
 subst hie;clear hb;refine bK ?_;simp (maxSteps:=4000000) only[↓sP,sA,tyS,simprocAttr];clear hK K;repeat refine AI ?_
 refine hK _ _ _ ?_;clear hK K;refine aE fun K hK=>aD (by kernel_rfl) ?_;simp (maxSteps:=4000000) only[↓sP,sA,tyS,simprocAttr];repeat refine AI ?_
 refine hK _ _ _ ?_;clear hK K;refine aJ ?_;simp (maxSteps:=4000000) only[aT,Tryz.results12,aR,aS,aQ,↓sP,sA,tyS,simprocAttr];refine kX [13] (.slc (S.map Sp.cv)) (tp L b) (by simp[HV.close,HV.closeL,CV.denil,CV.denilL,denilL_Sp,HV.norm,HV.toC,HV.toCL,fob_at,upd_at]) rfl (by simp[HV.close,HV.closeL,tp,CV.denil,CV.denilL,denilL_int,HV.norm,HV.toC,HV.toCL]) (by simp) ⟨S,b,rfl,rfl,hS,hd,by omega⟩
end Go.Proofs.YthedbjfipmkpiaaGreatDoor
namespace Go.Pl
open Go Go.Hl
end Go.Pl
namespace Go.Proofs.YthedbjfipmkpiaaGreatDoor
open Go Go.Hl Go.Pl
set_option maxRecDepth 10000
set_option maxHeartbeats 8000000
theorem cE (l:List Bool):CV.denilL (l.map bC)=l.map bC:=bU (fun _=>rfl) l
set_option maxHeartbeats 4000000
theorem aC8 (S:List Sp)(hl:S.length<2^40):dB Tryz.prog 31 [.slc (S.map Sp.cv)] (fun v=>v= .slc ((truL S).map bC)):=by
 refine bD Tryz.func31 rfl (by kernel_rfl) (bH _) (Nat.le_of_ble_eq_true rfl) ?_;refine aE fun K hK=>aD (by kernel_rfl) ?_;simp (maxSteps:=4000000) only[↓sP,sA,tyS,simprocAttr];repeat refine AI ?_
 refine hK _ _ _ ?_;clear hK K;refine aE fun K hK=>aD (by kernel_rfl) ?_;simp (maxSteps:=4000000) only[↓sP,sA,tyS,simprocAttr];repeat refine AI ?_
 refine hK _ _ _ ?_;clear hK K;refine aE fun K hK=>?_;refine aE fun K hK=>aD (by kernel_rfl) ?_;simp (maxSteps:=4000000) only[↓sP,sA,tyS,simprocAttr];repeat refine AI ?_
 refine hK _ _ _ ?_;clear hK K;refine aP ?_;refine jJ 3 0 4 1 rfl rfl rfl rfl ?_;refine bR (α:={i:Nat//i≤S.length}) (fun i=>(fin [(0,.c (.slc (S.map Sp.cv))),(3,.own 12 i.1),(4,.c (.int .i64 i.1))],fob [(12,.row 4 1 ((truL (S.take i.1)).map bC))])) 100 (fun i=>S.length-i.1) ⟨0,by omega⟩ (aI (by omega) (by simp[aY,fin_at,finA_at,upd_at,HV.men,HV.menL,HV.norm,HV.toC,HV.toCL,truL]) (by simp[bB,fob_at,upd_at,none0_at,bN,HO.men,HV.men,HV.menL,HV.norm,HV.toC,HV.toCL,truL])) ?_;rintro⟨i,hi⟩;have hti:(truL (S.take i)).length=i:=by simp[truL];omega
 refine aE fun K hK=>?_;refine aE fun K hK=>aD (by kernel_rfl) ?_;simp only[sR,simprocAttr];iterate 4
  (refine aC (g:=none) rfl rfl fun K' hK'=>?_;simp only[sH,↓sP,sA,tyS,simprocAttr,List.length_map];(repeat refine AI ?_);refine hK' _ _ ?_;clear hK' K')
 simp only[sE,↓reduceIte,simprocAttr];repeat refine AI ?_
 refine hK _ _ _ ?_;clear hK K;refine aG (b:=decide ((i:Int)<S.length)) rfl (fun hb=>?_) (fun hb=>?_)
 ·
  have hlt:i<S.length:=by have:=of_decide_eq_true hb;omega
  have hsn:truL (S.take (i+1))=truL (S.take i)++[S[i].h]:=by rw[List.take_succ_eq_append_getElem hlt];unfold truL;rw[List.map_append];rfl
  clear hb;refine aK ?_;simp (maxSteps:=4000000) only[↓sP,sA,tyS,simprocAttr];repeat refine AI ?_
  refine hK _ _ _ ?_;clear hK K;refine aE fun K hK=>?_;refine aP ?_;refine aD (by kernel_rfl) ?_;simp only[sR,simprocAttr];iterate 9
   (refine aC (g:=none) rfl rfl fun K' hK'=>?_;simp only[sH,↓sP,sA,tyS,simprocAttr,Int.natCast_nonneg,Int.ofNat_lt,hlt,bA hlt,hti];(repeat refine AI ?_);refine hK' _ _ ?_;clear hK' K')
  simp only[sE,↓reduceIte,simprocAttr];repeat refine AI ?_
  refine hK _ _ _ ?_;clear hK K;refine aD (by kernel_rfl) ?_;simp (maxSteps:=4000000) only[↓sP,sA,tyS,simprocAttr,IntWalk.i64_in _ (show-9223372036854775808≤(i:Int)+1∧(i:Int)+1≤9223372036854775807 by omega)];refine⟨⟨i+1,by omega⟩,(aI (by omega) (by simp[aY,fin_at,finA_at,upd_at,HV.men,HV.menL,HV.norm,HV.toC,HV.toCL,hsn,bC,hti]) (by simp[bB,fob_at,upd_at,none0_at,bN,HO.men,HV.men,HV.menL,HV.norm,HV.toC,HV.toCL,hsn,bC,hti])),?_⟩;show S.length-(i+1)<S.length-i;omega
 have hie:i=S.length:=by have:=of_decide_eq_false hb;omega
 subst hie;refine bK ?_;simp (maxSteps:=4000000) only[↓sP,sA,tyS,simprocAttr];clear hK K;repeat refine AI ?_
 refine hK _ _ _ ?_;clear hK K;refine aE fun K hK=>aD (by kernel_rfl) ?_;simp (maxSteps:=4000000) only[↓sP,sA,tyS,simprocAttr];repeat refine AI ?_
 refine hK _ _ _ ?_;clear hK K;refine aJ ?_;simp (maxSteps:=4000000) only[aT,Tryz.results31,aR,aS,aQ,↓sP,sA,tyS,simprocAttr];have htl:(truL S).length=S.length:=by simp[truL]
 exact aW [12] (.slc ((truL S).map bC)) (by simp[HV.close,fob_at,upd_at,HV.norm,HV.toC,htl,List.take_length]) rfl
structure RvSt (l:List Nd)(S:List Sp)(g i:Nat)(W:List Ln)(j:Nat)(W':List Ln)(F:List Int):Prop where
 len:W'.length+(i+1)≤W.length+cZ l j (i+1)
 out:W'=(iW l S g i j W).1
 fr:F=(iW l S g i j W).2
end Go.Proofs.YthedbjfipmkpiaaGreatDoor
