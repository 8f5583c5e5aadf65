/- Part of a proof: walks of functions of the program, by contracts, and the rules they use. By an AI agent. -/
import Derived.Test.YtlldglbooaefhaaGreatDoorHzU1
import Derived.Test.YtlldglbooaefhaaGreatDoorHzV4
import Derived.Test.YtlldglbooaefhaaGreatDoorHlTlaw
import Derived.Test.YtlldglbooaefhaaGreatDoorHzUs
import Derived.Test.YtlldglbooaefhaaGreatDoorPl28o
set_option linter.unusedSimpArgs false
set_option linter.unusedVariables false
set_option linter.defProp false
namespace Go.Proofs.YtlldglbooaefhaaGreatDoor
open Go Go.Hl Go.Pl
set_option maxRecDepth 10000
set_option maxHeartbeats 16000000
abbrev oPr (x:Pr)(N:Nat):HV:= .agg [.c (.str x.a),.c (.str x.b),.c (.str x.c),.c (.int .i64 x.g),.own N x.t.length]
def rlO :Nat→List Pr→List HV
 |_,[]=>[]
 |N,x::l=>oPr x N::rlO (N+1) l
def trO :Nat→List Pr→List HO
 |_,[]=>[]
 |N,x::l=> .row 40 7 (x.t.map Nd.cv)::trO (N+1) l
def trH :Nat→List Pr→List (Nat×HO)
 |_,[]=>[]
 |N,x::l=>(N,.row 40 7 (x.t.map Nd.cv))::trH (N+1) l
abbrev hpP (L:List Int)(v:Int)(rs:List Pr)(a:Nat):List (Nat×HO):=
 (0,.box 83 (.c (tp L a)))::(1,.box 45 (.c (.agg [.str [],.int .i64 0,.slc []])))::(13,.box 45 (.agg [.c (.str [112]),.c (.int .i64 v),.own 37 rs.length]))::(37,.hrow 54 5 (rlO 40 rs))::trH 40 rs
theorem bS8 (L:List Int)(a:Nat)(v:Int)(ha:a<2^37):HGe Tryz.prog 31 [.ptr 0 0,.c (.int .i64 v)] [.box 83 (.c (tp L a))] (fun u os'=> ∃(rs:List Pr) (a':Nat),u= .agg [.c (.str [112]),.c (.int .i64 v),.own 1 rs.length]∧os'= .box 83 (.c (tp L a')):: .hrow 54 5 (rlO 2 rs)::trO 2 rs∧MadeRs 0 rs∧1≤rs.length∧a'≤a+1000):=by
 refine bT (args:=[.ptr 0 0,.c (.int .i64 v)]) Tryz.func31 rfl (by kernel_rfl) (eS rfl (by simp[eH,HO.men,HV.men,HV.menL]) (by simp[HV.menL,HV.men])) (Nat.le_of_ble_eq_true rfl) ?_;show Hw _ _ 1 _ _ _ (lst _) 1;rw[bS3];have hab:=aO2 3 (by decide);refine R0 ?_;refine aC fun K hK=>Rg ?_;iterate 4 refine S0 ?_
 refine T2 (hK _ _ _ ?_);clear hK K;refine aC fun K hK=>?_;refine aC fun K hK=>Rg ?_;refine S0 ?_;refine HS rfl rfl fun K' hK'=>T5 ?_;refine bJ (args:=[_]) (dP L a 2 (by omega) (by omega)) rfl (by simp) ⟨rfl,rfl,rfl,rfl⟩ ?_;rintro u v' ⟨x,a1,rfl,rfl,h1,h2,h3,h4⟩;refine AX (hK' _ _ ?_);clear hK' K';iterate 2 refine S0 ?_
 refine T2 (hK _ _ _ ?_);clear hK K;refine aM ?_;have hx2:=h4 (by omega);obtain⟨m,hm⟩: ∃m:Nat,IntKind.i64.wrap (1+x)=m∧1≤m∧m≤2:=⟨(1+x).toNat,by rw[IntWalk.i64_in _ (by omega)];omega,by omega,by omega⟩;obtain⟨hm,hm1,hm2⟩:=hm;rw[hm];clear hm h3 h4;refine uK 13 2 54 5 rfl rfl rfl rfl ?_;refine bU9 37 rfl ?_;refine dA [] ?_;refine bI (α:={w:List Pr×Nat×Nat//MadeRs w.2.1 w.1∧w.1.length+w.2.1=m∧w.2.2+460*w.2.1≤a+921}) (fun w=>(fin [(0,.ptr 0 0),(4,.ptr 1 0),(5,.ptr 13 0),(6,.c (.int .i64 w.1.2.1))],fob (hpP L v w.1.1 w.1.2.2))) 20000 (fun w=>w.1.2.1) ⟨([],m,a1),MadeRs.zero hm1 hm2,by simp,by simp only;omega⟩ (by simp only[hpP,trH,rlO];exact aL (by omega) (by simp[aS,fin_at,finA_at,upd_at,HV.men,HV.menL,HV.norm,HV.toC,HV.toCL,dI,dJ,HO.close,HV.close,HV.closeL,CV.denil,CV.denilL,denilL_int,tp]) (by simp[aT,fob_at,upd_at,none0_at,bL,HO.men,HV.men,HV.menL,HV.norm,HV.toC,HV.toCL,dI,dJ,HO.close,HV.close,HV.closeL,CV.denil,CV.denilL,denilL_int,tp])) ?_;rintro⟨⟨rs,n,a2⟩,hrs,hrn,ha2⟩;simp only at hrs hrn ha2;refine aC fun K hK=>?_;refine R0 ?_;refine aG (b:=decide ((0:Int)<n)) rfl (fun hb=>?_) (fun hb=>?_)
 ·
  have hn0:0<n:=by simp at hb;omega
  clear hb;have hn2:n≤2:=by have:=hrs.two;omega
  obtain⟨hw1,hw2⟩:=cA0 hn2;refine aK ?_;refine T0 (hK _ _ _ ?_);clear hK K;refine aC fun K hK=>?_;refine aM ?_;by_cases hrs0:rs=[]
  ·
   subst hrs0;simp only[hpP,trH,rlO];refine aC fun K hK=>cT mixed [(0,[],[]),(1,[],[]),(2,[],[]),(3,[],[]),(4,[],[]),(5,[],[]),(6,[3],[]),(7,[3],[]),(9,[3,7],[]),(10,[3,7],[]),(12,[3,7,10],[]),(14,[3,7,10],[]),(15,[3,7,10],[]),(16,[3,7,10],[]),(18,[3,7,10,16],[]),(8,[3,10,16,18],[0,1,2,3,4,5,9,10,12,14,15,16,18]),(11,[3,16,18],[0,1,2,3,4,5,12,14,15,16,18]),(13,[3,16,18],[0,1,2,3,4,5,14,15,16,18]),(17,[18],[]),(19,[],[])] [0,1,3,7,15,31,0,0,192,0,0,1984,0,8128,0,16384,49152,131071,0,524287] (by kernel_rfl) (by kernel_rfl) (by kernel_rfl) (by kernel_rfl) rfl (by kernel_rfl) ?_;have F:=aI hw1 (aI hw2 @cJ);iterate 3 refine WGF ?_
   refine cP (g:=none) 20020 rfl rfl fun K' hK'=>?_;simp only[eG,fS,sH,↓sP,sA,tyS,simprocAttr,hw1,hw2,cJ];repeat refine AI ?_
   refine bV (by first|rfl|simp) ?_;try simp only[sH,↓sP,sA,tyS,simprocAttr,hw1,hw2,cJ]
   refine AX (hK' _ _ ?_);clear hK' K';iterate 3 refine WGF ?_
   refine cP (g:=none) 20036 rfl rfl fun K' hK'=>?_;simp only[eG,fS,sH,↓sP,sA,tyS,simprocAttr,hw1,hw2,cJ];repeat refine AI ?_
   refine bV (by first|rfl|simp) ?_;try simp only[sH,↓sP,sA,tyS,simprocAttr,hw1,hw2,cJ]
   refine AX (hK' _ _ ?_);clear hK' K';refine WGF ?_;refine cP (g:=none) 20048 rfl rfl fun K' hK'=>?_;simp only[eG,fS,sH,↓sP,sA,tyS,simprocAttr,hw1,hw2,cJ];repeat refine AI ?_
   refine bV (by first|rfl|simp) ?_;try simp only[sH,↓sP,sA,tyS,simprocAttr,hw1,hw2,cJ]
   refine AX (hK' _ _ ?_);clear hK' K';iterate 5 refine WGF ?_
   refine cG (g:=none) rfl rfl fun K' hK'=>T6 ?_;refine bJ (args:=[_]) (rG L a2 pkA (by omega) (by decide)) rfl (by simp) ⟨rfl,rfl,rfl,rfl⟩ ?_;rintro u v' ⟨b,a3,rfl,hbm,rfl,hb3⟩;refine AX (hK' _ _ ?_);clear hK' K';refine cG (g:=none) rfl rfl fun K' hK'=>T6 ?_;refine bJ (args:=[_]) (rG L a3 pkB (by omega) (by decide)) rfl (by simp) ⟨rfl,rfl,rfl,rfl⟩ ?_;rintro u v' ⟨c,a4,rfl,hc,rfl,hb4⟩;refine AX (hK' _ _ ?_);clear hK' K';refine cG (g:=none) rfl rfl fun K' hK'=>T6 ?_;refine bJ (args:=[_]) (dP L a4 20 (by omega) (by omega)) rfl (by simp) ⟨rfl,rfl,rfl,rfl⟩ ?_;rintro u v' ⟨g,a5,rfl,rfl,g1,g2,g3,g4⟩;have g5:=g4 (by omega);refine AX (hK' _ _ ?_);clear hK' K';iterate 2 refine WGF ?_
   refine T2 (hK _ _ _ ?_);clear hK K;refine aC fun K hK=>?_;have key: ∀(A:Nat) (T:List Nd) (a7:Nat) fr ob nx,1≤A→A<nx→nx≤30000→(T=dfT∨Made 3 0 T)→a7≤a2+404→Fits 1 (mvF A 30000 fr) (mvO A 30000 ob) (fin [(0,.ptr 0 0),(4,.ptr 1 0),(5,.ptr 13 0),(6,.c (.int .i64 n)),(7,.ptr 20080 0)]) (fob [(0,.box 83 (.c (tp L a7))),(1,.box 45 (.c (.agg [.str [],.int .i64 0,.slc []]))),(13,.box 45 (.agg [.c (.str [112]),.c (.int .i64 v),.own 37 0])),(37,.hrow 54 5 []),(20080,.box 54 (oPr ⟨rN n,b,c,g,T⟩ 30000)),(30000,.row 40 7 (T.map Nd.cv))]) 30001→K fr ob nx:=by
    rintro A T a7 fr ob nx hA1 hA hnx hT ha7 hf;refine hK _ _ _ (aO9 A 30000 hA1 hA hnx (bF hf ?_));clear hf hK K hA hnx hA1;obtain⟨R,hR⟩: ∃R:Pr,R=⟨rN n,b,c,g,T⟩:=⟨_,rfl⟩;have hRm:MadeR R:=by rw[hR];exact aO6 (by omega) hbm hc ⟨g2,g5⟩ hT
    have hRt:T=R.t:=by rw[hR]
    rw[←hR,hRt];refine bA (by kernel_rfl) ?_;simp only[sR,simprocAttr];iterate 3 refine SG0 ?_
    refine aU (g:=none) rfl rfl fun K' hK'=>?_;simp only[sN,↓hopH.eq_def,sH,↓sP,sA,tyS,simprocAttr];refine AX (hK' _ _ ?_);clear hK' K';refine aU (g:=none) rfl rfl fun K' hK'=>?_;simp only[sN,↓hopH.eq_def,sH,↓sP,sA,tyS,simprocAttr];refine AX (hK' _ _ ?_);clear hK' K';iterate 2 refine SG0 ?_
    refine T2 (hK _ _ _ ?_);clear hK K;refine bS7 30000 40 31000 [(0,.ptr 0 0),(4,.ptr 1 0),(5,.ptr 13 0),(6,.c (.int .i64 n))] [(0,.box 83 (.c (tp L a7))),(1,.box 45 (.c (.agg [.str [],.int .i64 0,.slc []]))),(13,.box 45 (.agg [.c (.str [112]),.c (.int .i64 v),.own 37 1])),(37,.hrow 54 5 [oPr R 30000]),(30000,.row 40 7 (R.t.map Nd.cv))] (by simp[aS,fin_at,finA_at,upd_at,HV.men,HV.menL]) (by simp[aT,fob_at,upd_at,none0_at,bL,HO.men,HV.men,HV.menL]) (by omega) (by omega) (by omega) (by omega) (by omega) (by omega) (by omega) (by simp[HV.men]) (by simp[HO.men,HV.men,HV.menL]) (bF (fr2:=fin [(0,.ptr 0 0),(4,.ptr 1 0),(5,.ptr 13 0),(6,.c (.int .i64 n))]) (ob2:=fob (hpP L v [R] a7)) (nx2:=32000) (by simp only[hpP,trH,rlO];exact aL (by omega) (by simp[aS,fin_at,finA_at,upd_at,HV.men,HV.menL,HV.norm,HV.toC,HV.toCL,mvF,mvO,mvN,HV.ren,HO.ren,HV.renL]) (by simp[aT,fob_at,upd_at,none0_at,bL,HO.men,HV.men,HV.menL,HV.norm,HV.toC,HV.toCL,mvF,mvO,mvN,HV.ren,HO.ren,HV.renL])) ?_);refine aN (by kernel_rfl) ?_;refine TQ (show IntKind.i64.wrap ((n:Int)-1)=((n-1:Nat):Int)from by rw[IntWalk.i64_in _ (by omega)];omega) ?_;have hnx:MadeRs (n-1) ([]++[R]):=MadeRs.next (n:=n-1) (by rw[Nat.sub_add_cancel hn0];exact hrs) hRm (by rw[hR,Nat.sub_add_cancel hn0]);refine⟨⟨([R],n-1,a7),hnx,by simp at hrn⊢;omega,by simp only;omega⟩,by simp only[hpP,trH,rlO];exact fF,?_⟩;show n-1<n;omega
   refine aC fun K hK=>Rg ?_;refine S0 ?_;refine HS rfl rfl fun K' hK'=>T5 ?_;refine bJ (args:=[_]) (dP L a5 2 (by omega) (by omega)) rfl (by simp) ⟨rfl,rfl,rfl,rfl⟩ ?_;rintro u v' ⟨y,a6,rfl,rfl,y1,y2,y3,y4⟩;refine AX (hK' _ _ ?_);clear hK' K';refine S0 ?_;refine T2 (hK _ _ _ ?_);clear hK K;refine aG (b:=_) rfl (fun hb=>?_) (fun hb=>?_)
   ·
    refine Rg ?_;refine S0 ?_;refine HS rfl rfl fun K' hK'=>T5 ?_;refine eZ [0] (aO5 L a6 (by omega)) rfl ⟨rfl,trivial⟩ (by simp) (by simp) ⟨rfl,rfl,rfl,rfl⟩ (by simp[eH,HO.men,HV.men,HV.menL]) (by simp[HV.menL,HV.men]) ?_;rintro r os' ⟨T,a7,rfl,rfl,hT,ha7⟩;rw[aG1,aU6];refine AX (hK' _ _ ?_);clear hK' K';iterate 2 refine S0 ?_
    refine T4 ?_;exact key 20104 T a7 _ _ _ (by omega) (by omega) (by omega) (.inr hT) (by omega) (aL (by omega) (by simp[aS,fin_at,finA_at,upd_at,HV.men,HV.menL,HV.norm,HV.toC,HV.toCL,mvF,mvO,mvN,HV.ren,HV.renL,HO.ren,rN]) (by simp[aT,fob_at,upd_at,none0_at,bL,HO.men,HV.men,HV.menL,HV.norm,HV.toC,HV.toCL,mvF,mvO,mvN,HV.ren,HV.renL,HO.ren,rN]))
   refine aK (T3 ?_);exact key 20072 dfT a6 _ _ _ (by omega) (by omega) (by omega) (.inl rfl) (by omega) (aL (by omega) (by simp[aS,fin_at,finA_at,upd_at,HV.men,HV.menL,HV.norm,HV.toC,HV.toCL,mvF,mvO,mvN,HV.ren,HV.renL,HO.ren,rN,dfT,Nd.cv,Rq.cv]) (by simp[aT,fob_at,upd_at,none0_at,bL,HO.men,HV.men,HV.menL,HV.norm,HV.toC,HV.toCL,mvF,mvO,mvN,HV.ren,HV.renL,HO.ren,rN,dfT,Nd.cv,Rq.cv]))
  obtain⟨Ra0,rfl⟩: ∃Ra0,rs=[Ra0]:=by
   match rs,hrs0,hrn with
   |[R],_,_=>exact⟨R,rfl⟩
   |_::_::l,_,h=>simp at h;omega
  simp only[hpP,trH,rlO];clear hrs0;refine aC fun K hK=>cT mixed [(0,[],[]),(1,[],[]),(2,[],[]),(3,[],[]),(4,[],[]),(5,[],[]),(6,[3],[]),(7,[3],[]),(9,[3,7],[]),(10,[3,7],[]),(12,[3,7,10],[]),(14,[3,7,10],[]),(15,[3,7,10],[]),(16,[3,7,10],[]),(18,[3,7,10,16],[]),(8,[3,10,16,18],[0,1,2,3,4,5,9,10,12,14,15,16,18]),(11,[3,16,18],[0,1,2,3,4,5,12,14,15,16,18]),(13,[3,16,18],[0,1,2,3,4,5,14,15,16,18]),(17,[18],[]),(19,[],[])] [0,1,3,7,15,31,0,0,192,0,0,1984,0,8128,0,16384,49152,131071,0,524287] (by kernel_rfl) (by kernel_rfl) (by kernel_rfl) (by kernel_rfl) rfl (by kernel_rfl) ?_;have F:=aI hw1 (aI hw2 @cJ);iterate 3 refine WGF ?_
  refine cP (g:=none) 20020 rfl rfl fun K' hK'=>?_;simp only[eG,fS,sH,↓sP,sA,tyS,simprocAttr,hw1,hw2,cJ];repeat refine AI ?_
  refine bV (by first|rfl|simp) ?_;try simp only[sH,↓sP,sA,tyS,simprocAttr,hw1,hw2,cJ]
  refine AX (hK' _ _ ?_);clear hK' K';iterate 3 refine WGF ?_
  refine cP (g:=none) 20036 rfl rfl fun K' hK'=>?_;simp only[eG,fS,sH,↓sP,sA,tyS,simprocAttr,hw1,hw2,cJ];repeat refine AI ?_
  refine bV (by first|rfl|simp) ?_;try simp only[sH,↓sP,sA,tyS,simprocAttr,hw1,hw2,cJ]
  refine AX (hK' _ _ ?_);clear hK' K';refine WGF ?_;refine cP (g:=none) 20048 rfl rfl fun K' hK'=>?_;simp only[eG,fS,sH,↓sP,sA,tyS,simprocAttr,hw1,hw2,cJ];repeat refine AI ?_
  refine bV (by first|rfl|simp) ?_;try simp only[sH,↓sP,sA,tyS,simprocAttr,hw1,hw2,cJ]
  refine AX (hK' _ _ ?_);clear hK' K';iterate 5 refine WGF ?_
  refine cG (g:=none) rfl rfl fun K' hK'=>T6 ?_;refine bJ (args:=[_]) (rG L a2 pkA (by omega) (by decide)) rfl (by simp) ⟨rfl,rfl,rfl,rfl⟩ ?_;rintro u v' ⟨b,a3,rfl,hbm,rfl,hb3⟩;refine AX (hK' _ _ ?_);clear hK' K';refine cG (g:=none) rfl rfl fun K' hK'=>T6 ?_;refine bJ (args:=[_]) (rG L a3 pkB (by omega) (by decide)) rfl (by simp) ⟨rfl,rfl,rfl,rfl⟩ ?_;rintro u v' ⟨c,a4,rfl,hc,rfl,hb4⟩;refine AX (hK' _ _ ?_);clear hK' K';refine cG (g:=none) rfl rfl fun K' hK'=>T6 ?_;refine bJ (args:=[_]) (dP L a4 20 (by omega) (by omega)) rfl (by simp) ⟨rfl,rfl,rfl,rfl⟩ ?_;rintro u v' ⟨g,a5,rfl,rfl,g1,g2,g3,g4⟩;have g5:=g4 (by omega);refine AX (hK' _ _ ?_);clear hK' K';iterate 2 refine WGF ?_
  refine T2 (hK _ _ _ ?_);clear hK K;refine aC fun K hK=>?_;have key: ∀(A:Nat) (T:List Nd) (a7:Nat) fr ob nx,1≤A→A<nx→nx≤30000→(T=dfT∨Made 3 0 T)→a7≤a2+404→Fits 1 (mvF A 30000 fr) (mvO A 30000 ob) (fin [(0,.ptr 0 0),(4,.ptr 1 0),(5,.ptr 13 0),(6,.c (.int .i64 n)),(7,.ptr 20080 0)]) (fob [(0,.box 83 (.c (tp L a7))),(1,.box 45 (.c (.agg [.str [],.int .i64 0,.slc []]))),(13,.box 45 (.agg [.c (.str [112]),.c (.int .i64 v),.own 37 1])),(37,.hrow 54 5 [oPr Ra0 40]),(40,.row 40 7 (Ra0.t.map Nd.cv)),(20080,.box 54 (oPr ⟨rN n,b,c,g,T⟩ 30000)),(30000,.row 40 7 (T.map Nd.cv))]) 30001→K fr ob nx:=by
   rintro A T a7 fr ob nx hA1 hA hnx hT ha7 hf;refine hK _ _ _ (aO9 A 30000 hA1 hA hnx (bF hf ?_));clear hf hK K hA hnx hA1;obtain⟨R,hR⟩: ∃R:Pr,R=⟨rN n,b,c,g,T⟩:=⟨_,rfl⟩;have hRm:MadeR R:=by rw[hR];exact aO6 (by omega) hbm hc ⟨g2,g5⟩ hT
   have hRt:T=R.t:=by rw[hR]
   rw[←hR,hRt];refine bA (by kernel_rfl) ?_;simp only[sR,simprocAttr];iterate 3 refine SG0 ?_
   refine aU (g:=none) rfl rfl fun K' hK'=>?_;simp only[sN,↓hopH.eq_def,sH,↓sP,sA,tyS,simprocAttr];refine AX (hK' _ _ ?_);clear hK' K';refine aU (g:=none) rfl rfl fun K' hK'=>?_;simp only[sN,↓hopH.eq_def,sH,↓sP,sA,tyS,simprocAttr];refine AX (hK' _ _ ?_);clear hK' K';iterate 2 refine SG0 ?_
   refine T2 (hK _ _ _ ?_);clear hK K;refine bS7 30000 41 31000 [(0,.ptr 0 0),(4,.ptr 1 0),(5,.ptr 13 0),(6,.c (.int .i64 n))] [(0,.box 83 (.c (tp L a7))),(1,.box 45 (.c (.agg [.str [],.int .i64 0,.slc []]))),(13,.box 45 (.agg [.c (.str [112]),.c (.int .i64 v),.own 37 2])),(37,.hrow 54 5 [oPr Ra0 40,oPr R 30000]),(40,.row 40 7 (Ra0.t.map Nd.cv)),(30000,.row 40 7 (R.t.map Nd.cv))] (by simp[aS,fin_at,finA_at,upd_at,HV.men,HV.menL]) (by simp[aT,fob_at,upd_at,none0_at,bL,HO.men,HV.men,HV.menL]) (by omega) (by omega) (by omega) (by omega) (by omega) (by omega) (by omega) (by simp[HV.men]) (by simp[HO.men,HV.men,HV.menL]) (bF (fr2:=fin [(0,.ptr 0 0),(4,.ptr 1 0),(5,.ptr 13 0),(6,.c (.int .i64 n))]) (ob2:=fob (hpP L v [Ra0,R] a7)) (nx2:=32000) (by simp only[hpP,trH,rlO];exact aL (by omega) (by simp[aS,fin_at,finA_at,upd_at,HV.men,HV.menL,HV.norm,HV.toC,HV.toCL,mvF,mvO,mvN,HV.ren,HO.ren,HV.renL]) (by simp[aT,fob_at,upd_at,none0_at,bL,HO.men,HV.men,HV.menL,HV.norm,HV.toC,HV.toCL,mvF,mvO,mvN,HV.ren,HO.ren,HV.renL])) ?_);refine aN (by kernel_rfl) ?_;refine TQ (show IntKind.i64.wrap ((n:Int)-1)=((n-1:Nat):Int)from by rw[IntWalk.i64_in _ (by omega)];omega) ?_;have hnx:MadeRs (n-1) ([Ra0]++[R]):=MadeRs.next (n:=n-1) (by rw[Nat.sub_add_cancel hn0];exact hrs) hRm (by rw[hR,Nat.sub_add_cancel hn0]);refine⟨⟨([Ra0,R],n-1,a7),hnx,by simp at hrn⊢;omega,by simp only;omega⟩,by simp only[hpP,trH,rlO];exact fF,?_⟩;show n-1<n;omega
  refine aC fun K hK=>Rg ?_;refine S0 ?_;refine HS rfl rfl fun K' hK'=>T5 ?_;refine bJ (args:=[_]) (dP L a5 2 (by omega) (by omega)) rfl (by simp) ⟨rfl,rfl,rfl,rfl⟩ ?_;rintro u v' ⟨y,a6,rfl,rfl,y1,y2,y3,y4⟩;refine AX (hK' _ _ ?_);clear hK' K';refine S0 ?_;refine T2 (hK _ _ _ ?_);clear hK K;refine aG (b:=_) rfl (fun hb=>?_) (fun hb=>?_)
  ·
   refine Rg ?_;refine S0 ?_;refine HS rfl rfl fun K' hK'=>T5 ?_;refine eZ [0] (aO5 L a6 (by omega)) rfl ⟨rfl,trivial⟩ (by simp) (by simp) ⟨rfl,rfl,rfl,rfl⟩ (by simp[eH,HO.men,HV.men,HV.menL]) (by simp[HV.menL,HV.men]) ?_;rintro r os' ⟨T,a7,rfl,rfl,hT,ha7⟩;rw[aG1,aU6];refine AX (hK' _ _ ?_);clear hK' K';iterate 2 refine S0 ?_
   refine T4 ?_;exact key 20104 T a7 _ _ _ (by omega) (by omega) (by omega) (.inr hT) (by omega) (aL (by omega) (by simp[aS,fin_at,finA_at,upd_at,HV.men,HV.menL,HV.norm,HV.toC,HV.toCL,mvF,mvO,mvN,HV.ren,HV.renL,HO.ren,rN]) (by simp[aT,fob_at,upd_at,none0_at,bL,HO.men,HV.men,HV.menL,HV.norm,HV.toC,HV.toCL,mvF,mvO,mvN,HV.ren,HV.renL,HO.ren,rN]))
  refine aK (T3 ?_);exact key 20072 dfT a6 _ _ _ (by omega) (by omega) (by omega) (.inl rfl) (by omega) (aL (by omega) (by simp[aS,fin_at,finA_at,upd_at,HV.men,HV.menL,HV.norm,HV.toC,HV.toCL,mvF,mvO,mvN,HV.ren,HV.renL,HO.ren,rN,dfT,Nd.cv,Rq.cv]) (by simp[aT,fob_at,upd_at,none0_at,bL,HO.men,HV.men,HV.menL,HV.norm,HV.toC,HV.toCL,mvF,mvO,mvN,HV.ren,HV.renL,HO.ren,rN,dfT,Nd.cv,Rq.cv]))
 have hn:n=0:=by simp at hb;omega
 subst hn;clear hb;refine bD (T3 ?_);clear hK K;refine AX (hK _ _ _ ?_);clear hK K;by_cases h1:rs.length=1
 ·
  obtain⟨Ra0,rfl⟩:=List.length_eq_one_iff.1 h1;simp only[hpP,trH,rlO];refine R0 ?_;refine aF (RT Tryz.results31 ?_);refine⟨rfl,?_⟩;refine eD [] [37,40] (.agg [.c (.str [112]),.c (.int .i64 v),.own 1 1]) [.box 83 (.c (tp L a2)),.hrow 54 5 [oPr Ra0 2],.row 40 7 (Ra0.t.map Nd.cv)] (by simp[HV.close,HV.closeL,CV.denil,HV.norm,HV.toC,HV.toCL,HV.ren,HV.renL,tau]) (by simp[HV.men,HV.menL]) ⟨⟨by simp[HO.men,HV.men],by simp,_,rfl,?_⟩,⟨by simp[HO.men,HV.men,HV.menL],by simp,_,rfl,?_⟩,⟨by simp[HO.men],by simp,_,rfl,rfl⟩,trivial⟩ rfl (by simp) (by simp) (by simp) ⟨[Ra0],a2,rfl,rfl,hrs,by simp,by omega⟩
  · simp[HO.close,HV.close,HV.norm,HV.toC,HO.ren,HV.ren,fB,tp,CV.denil,CV.denilL,denilL_int]
  simp[HO.close,HO.ren,fB,HV.close,HV.closeL,HV.ren,HV.renL,HV.norm,HV.toC,HV.toCL,CV.denil,tau,upd_at,fob_at]
 obtain⟨Ra0,Ra1,rfl⟩: ∃Ra0 Ra1,rs=[Ra0,Ra1]:=by
  match rs,h1,hrn with
  |[],_,h=>simp at h;omega
  |[R],h,_=>simp at h
  |[Ra0,Ra1],_,_=>exact⟨Ra0,Ra1,rfl⟩
  |_::_::_::l,_,h=>simp at h;omega
 simp only[hpP,trH,rlO];refine R0 ?_;refine aF (RT Tryz.results31 ?_);refine⟨rfl,?_⟩;refine eD [] [37,40,41] (.agg [.c (.str [112]),.c (.int .i64 v),.own 1 2]) [.box 83 (.c (tp L a2)),.hrow 54 5 [oPr Ra0 2,oPr Ra1 3],.row 40 7 (Ra0.t.map Nd.cv),.row 40 7 (Ra1.t.map Nd.cv)] (by simp[HV.close,HV.closeL,CV.denil,HV.norm,HV.toC,HV.toCL,HV.ren,HV.renL,tau]) (by simp[HV.men,HV.menL]) ⟨⟨by simp[HO.men,HV.men],by simp,_,rfl,?_⟩,⟨by simp[HO.men,HV.men,HV.menL],by simp,_,rfl,?_⟩,⟨by simp[HO.men],by simp,_,rfl,rfl⟩,⟨by simp[HO.men],by simp,_,rfl,rfl⟩,trivial⟩ rfl (by simp) (by simp) (by simp) ⟨[Ra0,Ra1],a2,rfl,rfl,hrs,by simp,by omega⟩
 · simp[HO.close,HV.close,HV.norm,HV.toC,HO.ren,HV.ren,fB,tp,CV.denil,CV.denilL,denilL_int]
 simp[HO.close,HO.ren,fB,HV.close,HV.closeL,HV.ren,HV.renL,HV.norm,HV.toC,HV.toCL,CV.denil,tau,upd_at,fob_at]
def rdr (ls:List (List aH))(a:Nat):CV:= .agg [.slc (ls.map lsC),.int .i64 a]
theorem aB1 (ls:List (List aH))(a k:Nat)(w:aH)(hk:1≤k):bC3 Tryz.prog 88 94 (rdr ls a) [.str w,.int .i64 k] (fun u v'=>u= .bool (isV ls a w k)∧v'=rdr ls a):=by
 refine bT Tryz.func88 rfl (by kernel_rfl) (dN _ _ _) (Nat.le_of_ble_eq_true rfl) ?_;refine R0 ?_;refine aC fun K hK=>QR ?_;iterate 11 refine S0 ?_ (e:=fun _ h_=>by simp only[sH,↓sP,sA,tyS,simprocAttr,rdr,Int.natCast_nonneg];exact AX h_)
 refine aE 16 rfl (fun h1_16=>?_) (fun h1_16=>?_)
 ·
  iterate 8 refine S0 ?_ (e:=fun _ h_=>by simp only[sH,↓sP,sA,tyS,simprocAttr,rdr,Int.natCast_nonneg,h1_16];exact AX h_)
  refine bE (g:=some (17,true)) rfl rfl fun K' hK'=>?_;simp only[sH,↓sP,sA,tyS,simprocAttr,rdr,Int.natCast_nonneg,h1_16];have hlt:a<ls.length:=by simpa using h1_16
  simp only[↓sP,sA,tyS,simprocAttr,Int.natCast_nonneg,Int.ofNat_lt,hlt,bH hlt,lsC];refine AX (hK' _ _ ?_);clear hK' K';iterate 6 refine S0 ?_ (e:=fun _ h_=>by simp only[sH,↓sP,sA,tyS,simprocAttr,rdr,Int.natCast_nonneg,h1_16];exact AX h_)
  refine aE 30 rfl (fun h1_30=>?_) (fun h1_30=>?_)
  ·
   iterate 8 refine S0 ?_ (e:=fun _ h_=>by simp only[sH,↓sP,sA,tyS,simprocAttr,rdr,Int.natCast_nonneg,h1_16,h1_30];exact AX h_)
   refine bE (g:=some (32,true)) rfl rfl fun K' hK'=>?_;simp only[sH,↓sP,sA,tyS,simprocAttr,rdr,Int.natCast_nonneg,h1_16,h1_30];have hlt:a<ls.length:=by simpa using h1_16
   have h0:0<ls[a].length:=by simp at h1_30;omega
   simp only[↓sP,sA,tyS,simprocAttr,Int.natCast_nonneg,Int.ofNat_lt,hlt,bH hlt,lsC];refine AX (hK' _ _ ?_);clear hK' K';refine S0 ?_ (e:=fun _ h_=>by simp only[sH,↓sP,sA,tyS,simprocAttr,rdr,Int.natCast_nonneg,h1_16,h1_30];exact AX h_);refine bE (g:=some (32,true)) rfl rfl fun K' hK'=>?_;simp only[sH,↓sP,sA,tyS,simprocAttr,rdr,Int.natCast_nonneg,h1_16,h1_30];have hlt:a<ls.length:=by simpa using h1_16
   have h0:0<ls[a].length:=by simp at h1_30;omega
   simp only[↓sP,sA,tyS,simprocAttr,Int.natCast_pos,h0,bH h0];refine AX (hK' _ _ ?_);clear hK' K';iterate 5 refine S0 ?_ (e:=fun _ h_=>by simp only[sH,↓sP,sA,tyS,simprocAttr,rdr,Int.natCast_nonneg,h1_16,h1_30];exact AX h_)
   refine T2 (hK _ _ _ ?_);clear hK K;refine aF (RT Tryz.results88 ?_);have hlt:a<ls.length:=by simpa using h1_16
   have h30:ls[a].length=k:=by simpa[Int.ofNat_inj]using h1_30
   refine fX [] (.bool _) (rdr ls a) rfl rfl (by simp[HV.close,HV.closeL,rdr,CV.denil,CV.denilL,aQ,HV.norm,HV.toC,HV.toCL]) (by simp) ⟨?_,rfl⟩;rw[iU hlt,h30];simp[wd,show 0<ls[a].length by omega]
  iterate 16 refine S0 ?_ (e:=fun _ h_=>by simp only[sH,↓sP,sA,tyS,simprocAttr,rdr,Int.natCast_nonneg,h1_16,h1_30];exact AX h_)
  refine T2 (hK _ _ _ ?_);clear hK K;refine aF (RT Tryz.results88 ?_);have hlt:a<ls.length:=by simpa using h1_16
  have h30: ¬ls[a].length=k:=by simpa[Int.ofNat_inj]using h1_30
  refine fX [] (.bool false) (rdr ls a) rfl rfl (by simp[HV.close,HV.closeL,rdr,CV.denil,CV.denilL,aQ,HV.norm,HV.toC,HV.toCL]) (by simp) ⟨?_,rfl⟩;rw[iU hlt];simp[h30]
 iterate 31 refine S0 ?_ (e:=fun _ h_=>by simp only[sH,↓sP,sA,tyS,simprocAttr,rdr,Int.natCast_nonneg,h1_16];exact AX h_)
 refine T2 (hK _ _ _ ?_);clear hK K;refine aF (RT Tryz.results88 ?_);have hlt: ¬a<ls.length:=by simpa using h1_16
 refine fX [] (.bool false) (rdr ls a) rfl rfl (by simp[HV.close,HV.closeL,rdr,CV.denil,CV.denilL,aQ,HV.norm,HV.toC,HV.toCL]) (by simp) ⟨?_,rfl⟩;rw[aE9 hlt]
theorem lN (ls:List (List aH))(a j:Nat)(ha:a<ls.length)(hj:j<ls[a].length):tQ Tryz.prog 89 94 (rdr ls a) [.int .i64 j] (fun u x v'=>u= .int .i64 ((bN (wd ls[a] j)).getD 0)∧x= .bool (bN (wd ls[a] j)).isSome∧v'=rdr ls a):=by
 refine bT Tryz.func89 rfl (by kernel_rfl) (dN _ _ _) (Nat.le_of_ble_eq_true rfl) ?_;refine R0 ?_;refine aC fun K hK=>DW [(0,[],[]),(1,[],[]),(2,[],[]),(3,[],[]),(4,[],[]),(5,[],[]),(6,[],[]),(7,[],[]),(8,[],[]),(9,[],[]),(10,[],[]),(11,[],[]),(12,[],[]),(13,[],[]),(14,[],[]),(15,[],[]),(16,[],[]),(17,[],[])] [0,1,3,7,0,16,48,112,255,511,0,2047,4095,8191,16383,16383,65535,131071] ?_;iterate 13 refine W0 ?_ (e:=fun _ h_=>by simp only[sH,↓sP,sA,tyS,simprocAttr,rdr,Int.natCast_nonneg,Int.ofNat_lt,ha,bH ha,lsC,hj,bH hj];exact AX h_)
 refine cE (g:=none) rfl rfl fun K' hK'=>?_;simp only[sH,↓sP,sA,tyS,simprocAttr,rdr,Int.natCast_nonneg,Int.ofNat_lt,ha,bH ha,lsC,hj,bH hj];refine D1 (cA1 ls[a][j]) ?_;rintro u v ⟨rfl,rfl⟩;refine AX (hK' _ _ ?_);clear hK' K';iterate 4 refine W0 ?_ (e:=fun _ h_=>by simp only[sH,↓sP,sA,tyS,simprocAttr,rdr,Int.natCast_nonneg,Int.ofNat_lt,ha,bH ha,lsC,hj,bH hj];exact AX h_)
 refine T2 (hK _ _ _ ?_);clear hK K;refine aF (RT Tryz.results89 ?_);exact bW [] (.int .i64 _) (.bool _) (rdr ls a) rfl rfl (by simp[HV.close,HV.closeL,rdr,CV.denil,CV.denilL,aQ,HV.norm,HV.toC,HV.toCL,lsC]) (by simp) ⟨by simp[wd,hj],by simp[wd,hj],rfl⟩
theorem oB (ls:List (List aH))(a:Nat)(w:aH)(ha:ls.length<2^40):bC3 Tryz.prog 130 94 (rdr ls a) [.str w,.slc []] (fun u v'=>u= .bool (isV ls a w 1)∧v'=rdr ls (if isV ls a w 1 then a+1 else a)):=by
 refine bT Tryz.func130 rfl (by kernel_rfl) (dN _ _ _) (Nat.le_of_ble_eq_true rfl) ?_;refine R0 ?_;refine aC fun K hK=>?_;refine aC fun K hK=>Rg ?_;iterate 5 refine S0 ?_
 refine HS rfl rfl fun K' hK'=>T5 ?_;refine bJ (args:=[_,_]) (aB1 ls a 1 w (by omega)) rfl (by simp) ⟨rfl,rfl,rfl,rfl⟩ ?_;rintro u v' ⟨rfl,rfl⟩;refine AX (hK' _ _ ?_);clear hK' K';refine S0 ?_;refine T2 (hK _ _ _ ?_);clear hK K;refine aG (b:=!isV ls a w 1) rfl (fun hb=>?_) (fun hb=>?_)
 ·
  refine R0 ?_;refine aF (RT Tryz.results130 ?_);have hv:isV ls a w 1=false:=by simpa using hb
  refine fX [] (.bool false) (rdr ls a) rfl rfl (by simp[HV.close,HV.closeL,rdr,CV.denil,CV.denilL,aQ,HV.norm,HV.toC,HV.toCL]) (by simp) ⟨by rw[hv],by rw[hv];rfl⟩
 refine aK ?_;refine T0 (hK _ _ _ ?_);clear hK K;refine aC fun K hK=>?_;have hv:isV ls a w 1=true:=by simpa using hb
 obtain⟨hl,hl1,hl2⟩:=gD hv;rw[hv];clear hb;refine R0 ?_;refine aM ?_;refine bI (α:={i:Nat//i=0}) (fun i=>(fin [(0,.ptr 0 0),(18,.c (.slc [])),(19,.c (.int .i64 0)),(20,.c (.int .i64 0))],fob [(0,.box 94 (.c (rdr ls a)))])) 100 (fun i=>0) ⟨0,rfl⟩ (fF) ?_;rintro⟨i,hi⟩;refine R0 ?_;refine aC fun K hK=>?_;refine CF rfl ?_;refine bD (T3 ?_);clear hK K;refine AX (hK _ _ _ ?_);clear hK K;have hw:IntKind.i64.wrap ((a:Int)+1)=((a+1:Nat):Int):=IntWalk.i64_in _ (by omega);refine aC fun K hK=>Rg ?_;iterate 8 refine S0 ?_ (e:=fun _ h_=>by simp only[sH,↓sP,sA,tyS,simprocAttr,rdr,hw];exact AX h_)
 refine T2 (hK _ _ _ ?_);clear hK K;refine R0 ?_;refine aF (RT Tryz.results130 ?_);refine fX [] (.bool true) (rdr ls (a+1)) rfl rfl (by simp[HV.close,HV.closeL,rdr,CV.denil,CV.denilL,aQ,HV.norm,HV.toC,HV.toCL]) (by simp) ⟨by rw[hv],by rw[hv];rfl⟩
theorem cK0 (ls:List (List aH))(a:Nat)(x:Int):lst [.box 94 (.c (rdr ls a)),.hrow 176 1 [.ptr 2 0],.box 2 (.c (.int .i64 x))]=fob [(0,.box 94 (.c (rdr ls a))),(1,.hrow 176 1 [.ptr 2 0]),(2,.box 2 (.c (.int .i64 x)))]:=by
 funext i
 match i with
 |0=>rfl
 |1=>rfl
 |2=>rfl
 |i+3=>simp[lst,fob,upd]
theorem bS9 (ls:List (List aH))(a:Nat)(w:aH)(x:Int)(ha:ls.length<2^40):
  HGe Tryz.prog 130 [.ptr 0 0,.c (.str w),.own 1 1] [.box 94 (.c (rdr ls a)),.hrow 176 1 [.ptr 2 0],.box 2 (.c (.int .i64 x))]
   (fun r os'=>r= .c (.bool (gB ls a w).isSome)∧os'=[.box 94 (.c (rdr ls (if(gB ls a w).isSome then a+1 else a))),.hrow 176 1 [.ptr 2 0],.box 2 (.c (.int .i64 ((gB ls a w).getD x)))]):=by
 refine bT (args:=[.ptr 0 0,.c (.str w),.own 1 1]) Tryz.func130 rfl (by kernel_rfl) (eS rfl (by simp[eH,HO.men,HV.men,HV.menL]) (by simp[HV.menL,HV.men])) (Nat.le_of_ble_eq_true rfl) ?_;show Hw _ _ 3 _ _ _ (lst _) 3;rw[cK0];refine R0 ?_;refine aC fun K hK=>?_;refine aC fun K hK=>bA (by kernel_rfl) ?_;simp only[sR,simprocAttr];iterate 3 refine SG0 ?_
 refine aU (g:=none) rfl rfl fun K' hK'=>?_;simp only[sN,↓hopH.eq_def,sH,↓sP,sA,tyS,simprocAttr];refine AX (hK' _ _ ?_);clear hK' K';refine SG0 ?_;refine bM (g:=none) rfl rfl fun K' hK'=>T5 ?_;refine bJ (args:=[_,_]) (aB1 ls a 2 w (by omega)) rfl (by simp) ⟨rfl,rfl,rfl,rfl⟩ ?_;rintro u v' ⟨rfl,rfl⟩;refine AX (hK' _ _ ?_);clear hK' K';refine SG0 ?_;refine T2 (hK _ _ _ ?_);clear hK K;refine aG (b:=!isV ls a w 2) rfl (fun hb=>?_) (fun hb=>?_)
 ·
  refine R0 ?_;refine aF (RT Tryz.results130 ?_);have hv:isV ls a w 2=false:=by simpa using hb
  rw[bY7 hv];exact eD [] [] (.c (.bool false)) [.box 94 (.c (rdr ls a)),.hrow 176 1 [.ptr 2 0],.box 2 (.c (.int .i64 x))] rfl (by simp[HV.men]) (⟨⟨by simp[HO.men,HV.men],by simp,_,rfl,by simp[HO.close,HV.close,HV.closeL,HO.ren,HV.ren,HV.renL,tau,CV.denil,HV.norm,fB,upd_at,fob_at,HV.toC,HV.toCL,rdr,CV.denilL,aQ]⟩,⟨by simp[HO.men,HV.men,HV.menL],by simp,_,rfl,by simp[HO.close,HV.close,HV.closeL,HO.ren,HV.ren,HV.renL,tau,CV.denil,HV.norm,fB,upd_at,fob_at,HV.toC,HV.toCL]⟩,⟨by simp[HO.men,HV.men],by simp,_,rfl,by simp[HO.close,HV.close,HV.closeL,HO.ren,HV.ren,HV.renL,tau,CV.denil,HV.norm,fB,upd_at,fob_at,HV.toC,HV.toCL]⟩,trivial⟩) rfl List.nodup_nil (by simp) (by simp) ⟨rfl,rfl⟩
 refine aK ?_;refine T0 (hK _ _ _ ?_);clear hK K;refine aC fun K hK=>?_;have hv:isV ls a w 2=true:=by simpa using hb
 obtain⟨hl,hl1,hl2⟩:=gD hv;have hnum:=aF0 hv hl;have hw:IntKind.i64.wrap ((a:Int)+1)=((a+1:Nat):Int):=IntWalk.i64_in _ (by omega);clear hb;refine aC fun K hK=>bA (by kernel_rfl) ?_;simp only[sR,simprocAttr];refine SG0 ?_;refine aU (g:=none) rfl rfl fun K' hK'=>?_;simp only[sN,↓hopH.eq_def,sH,↓sP,sA,tyS,simprocAttr];refine AX (hK' _ _ ?_);clear hK' K';refine SG0 ?_;refine T2 (hK _ _ _ ?_);clear hK K;refine aM ?_;refine bI (α:={y:Nat×Int//(y.1=0∧y.2=x)∨(y.1=1∧bN (wd ls[a] 1)=some y.2)}) (fun y=>(fin [(0,.ptr 0 0),(18,.own 1 1),(19,.c (.int .i64 1)),(20,.c (.int .i64 y.1.1))],fob [(0,.box 94 (.c (rdr ls a))),(1,.hrow 176 1 [.ptr 2 0]),(2,.box 2 (.c (.int .i64 y.1.2)))])) 100 (fun y=>1-y.1.1) ⟨(0,x),.inl ⟨rfl,rfl⟩⟩ (fF) ?_;rintro⟨⟨i,y⟩,hiy⟩;simp only at hiy;refine R0 ?_;refine aC fun K hK=>?_;refine aG (b:=decide ((i:Int)<1)) rfl (fun hb=>?_) (fun hb=>?_)
 ·
  have hi0:i=0:=by simp at hb;omega
  subst hi0;obtain rfl:y=x:=by rcases hiy with h|h;exact h.2;exact absurd h.1 (by decide)
  clear hb;refine aK ?_;refine T0 (hK _ _ _ ?_);clear hK K;refine aC fun K hK=>?_;refine aM ?_;refine aC fun K hK=>bA (by kernel_rfl) ?_;simp only[sR,simprocAttr];refine SG0 ?_;refine aU (g:=none) rfl rfl fun K' hK'=>?_;simp only[sN,↓hopH.eq_def,sH,↓sP,sA,tyS,simprocAttr];refine AX (hK' _ _ ?_);clear hK' K';refine aU (g:=none) rfl rfl fun K' hK'=>?_;simp only[sN,↓hopH.eq_def,sH,↓sP,sA,tyS,simprocAttr];refine AX (hK' _ _ ?_);clear hK' K';iterate 2 refine SG0 ?_
  refine T2 (hK _ _ _ ?_);clear hK K;refine aC fun K hK=>Rg ?_;iterate 3 refine S0 ?_
  refine HS rfl rfl fun K' hK'=>T5 ?_;refine eJ (args:=[_]) (lN ls a 1 hl (by omega)) rfl (by simp) ⟨rfl,rfl,rfl,rfl⟩ ?_;rintro u x' v' ⟨rfl,rfl,rfl⟩;refine AX (hK' _ _ ?_);clear hK' K';iterate 5 refine S0 ?_
  refine T2 (hK _ _ _ ?_);clear hK K;refine aC fun K hK=>?_;refine R0 ?_;refine aG (b:=!(bN (wd ls[a] 1)).isSome) rfl (fun hb=>?_) (fun hb=>?_)
  ·
   have hno:bN (wd ls[a] 1)=none:=by simpa using hb
   rw[hno]at hnum;refine R0 ?_;refine aF (RT Tryz.results130 ?_);rw[hnum];exact eD [] [] (.c (.bool false)) [.box 94 (.c (rdr ls a)),.hrow 176 1 [.ptr 2 0],.box 2 (.c (.int .i64 y))] rfl (by simp[HV.men]) (⟨⟨by simp[HO.men,HV.men],by simp,_,rfl,by simp[HO.close,HV.close,HV.closeL,HO.ren,HV.ren,HV.renL,tau,CV.denil,HV.norm,fB,upd_at,fob_at,HV.toC,HV.toCL,rdr,CV.denilL,aQ]⟩,⟨by simp[HO.men,HV.men,HV.menL],by simp,_,rfl,by simp[HO.close,HV.close,HV.closeL,HO.ren,HV.ren,HV.renL,tau,CV.denil,HV.norm,fB,upd_at,fob_at,HV.toC,HV.toCL]⟩,⟨by simp[HO.men,HV.men],by simp,_,rfl,by simp[HO.close,HV.close,HV.closeL,HO.ren,HV.ren,HV.renL,tau,CV.denil,HV.norm,fB,upd_at,fob_at,HV.toC,HV.toCL]⟩,trivial⟩) rfl List.nodup_nil (by simp) (by simp) ⟨rfl,rfl⟩
  obtain⟨n,hn⟩: ∃n,bN (wd ls[a] 1)=some n:=by
   cases h:bN (wd ls[a] 1)with
   |none=>rw[h]at hb;simp at hb
   |some n=>exact⟨n,rfl⟩
  simp only[hn,Option.getD_some,Option.isSome_some,Bool.not_true];clear hb;refine aK ?_;refine T0 (hK _ _ _ ?_);clear hK K;refine Rg ?_;iterate 4 refine S0 ?_
  refine T2 (hK _ _ _ ?_);clear hK K;refine aN (by kernel_rfl) ?_;refine TQ (show IntKind.i64.wrap 1=1 from rfl) ?_;refine⟨⟨(1,n),.inr ⟨rfl,hn⟩⟩,fF,?_⟩;show 1-1<1-0;omega
 refine bD (T3 ?_);clear hK K;refine AX (hK _ _ _ ?_);clear hK K;obtain⟨rfl,hn⟩:i=1∧bN (wd ls[a] 1)=some y:=by
  rcases hiy with h|h
  · rw[h.1]at hb;simp at hb
  exact h
 clear hb;refine aC fun K hK=>Rg ?_;iterate 8 refine S0 ?_ (e:=fun _ h_=>by simp only[sH,↓sP,sA,tyS,simprocAttr,rdr,hw];exact AX h_)
 refine T2 (hK _ _ _ ?_);clear hK K;refine R0 ?_;refine aF (RT Tryz.results130 ?_);rw[hnum,hn];exact eD [] [] (.c (.bool true)) [.box 94 (.c (rdr ls (a+1))),.hrow 176 1 [.ptr 2 0],.box 2 (.c (.int .i64 y))] rfl (by simp[HV.men]) (⟨⟨by simp[HO.men,HV.men],by simp,_,rfl,by simp[HO.close,HV.close,HV.closeL,HO.ren,HV.ren,HV.renL,tau,CV.denil,HV.norm,fB,upd_at,fob_at,HV.toC,HV.toCL,rdr,CV.denilL,aQ]⟩,⟨by simp[HO.men,HV.men,HV.menL],by simp,_,rfl,by simp[HO.close,HV.close,HV.closeL,HO.ren,HV.ren,HV.renL,tau,CV.denil,HV.norm,fB,upd_at,fob_at,HV.toC,HV.toCL]⟩,⟨by simp[HO.men,HV.men],by simp,_,rfl,by simp[HO.close,HV.close,HV.closeL,HO.ren,HV.ren,HV.renL,tau,CV.denil,HV.norm,fB,upd_at,fob_at,HV.toC,HV.toCL]⟩,trivial⟩) rfl List.nodup_nil (by simp) (by simp) ⟨rfl,rfl⟩
theorem cK1 (ls:List (List aH))(a:Nat)(x y:Int):lst [.box 94 (.c (rdr ls a)),.hrow 176 1 [.ptr 2 0,.ptr 3 0],.box 2 (.c (.int .i64 x)),.box 2 (.c (.int .i64 y))]=fob [(0,.box 94 (.c (rdr ls a))),(1,.hrow 176 1 [.ptr 2 0,.ptr 3 0]),(2,.box 2 (.c (.int .i64 x))),(3,.box 2 (.c (.int .i64 y)))]:=by
 funext i
 match i with
 |0=>rfl
 |1=>rfl
 |2=>rfl
 |3=>rfl
 |i+4=>simp[lst,fob,upd]
theorem bT0 (ls:List (List aH))(a:Nat)(w:aH)(x y:Int)(ha:ls.length<2^40):
  HGe Tryz.prog 130 [.ptr 0 0,.c (.str w),.own 1 2] [.box 94 (.c (rdr ls a)),.hrow 176 1 [.ptr 2 0,.ptr 3 0],.box 2 (.c (.int .i64 x)),.box 2 (.c (.int .i64 y))]
   (fun r os'=>r= .c (.bool (mM ls a w).isSome)∧ ∃x' y',os'=[.box 94 (.c (rdr ls (if(mM ls a w).isSome then a+1 else a))),.hrow 176 1 [.ptr 2 0,.ptr 3 0],.box 2 (.c (.int .i64 x')),.box 2 (.c (.int .i64 y'))]∧ ∀n m,mM ls a w=some (n,m)→x'=n∧y'=m):=by
 refine bT (args:=[.ptr 0 0,.c (.str w),.own 1 2]) Tryz.func130 rfl (by kernel_rfl) (eS rfl (by simp[eH,HO.men,HV.men,HV.menL]) (by simp[HV.menL,HV.men])) (Nat.le_of_ble_eq_true rfl) ?_;show Hw _ _ 4 _ _ _ (lst _) 4;rw[cK1];refine R0 ?_;refine aC fun K hK=>?_;refine aC fun K hK=>bA (by kernel_rfl) ?_;simp only[sR,simprocAttr];iterate 3 refine SG0 ?_
 refine aU (g:=none) rfl rfl fun K' hK'=>?_;simp only[sN,↓hopH.eq_def,sH,↓sP,sA,tyS,simprocAttr];refine AX (hK' _ _ ?_);clear hK' K';refine SG0 ?_;refine bM (g:=none) rfl rfl fun K' hK'=>T5 ?_;refine bJ (args:=[_,_]) (aB1 ls a 3 w (by omega)) rfl (by simp) ⟨rfl,rfl,rfl,rfl⟩ ?_;rintro u v' ⟨rfl,rfl⟩;refine AX (hK' _ _ ?_);clear hK' K';refine SG0 ?_;refine T2 (hK _ _ _ ?_);clear hK K;refine aG (b:=!isV ls a w 3) rfl (fun hb=>?_) (fun hb=>?_)
 ·
  refine R0 ?_;refine aF (RT Tryz.results130 ?_);have hv:isV ls a w 3=false:=by simpa using hb
  rw[bY8 hv];exact eD [] [] (.c (.bool false)) [.box 94 (.c (rdr ls a)),.hrow 176 1 [.ptr 2 0,.ptr 3 0],.box 2 (.c (.int .i64 x)),.box 2 (.c (.int .i64 y))] rfl (by simp[HV.men]) (⟨⟨by simp[HO.men,HV.men],by simp,_,rfl,by simp[HO.close,HV.close,HV.closeL,HO.ren,HV.ren,HV.renL,tau,CV.denil,HV.norm,fB,upd_at,fob_at,HV.toC,HV.toCL,rdr,CV.denilL,aQ]⟩,⟨by simp[HO.men,HV.men,HV.menL],by simp,_,rfl,by simp[HO.close,HV.close,HV.closeL,HO.ren,HV.ren,HV.renL,tau,CV.denil,HV.norm,fB,upd_at,fob_at,HV.toC,HV.toCL,rdr,CV.denilL,aQ]⟩,⟨by simp[HO.men,HV.men],by simp,_,rfl,by simp[HO.close,HV.close,HV.closeL,HO.ren,HV.ren,HV.renL,tau,CV.denil,HV.norm,fB,upd_at,fob_at,HV.toC,HV.toCL,rdr,CV.denilL,aQ]⟩,⟨by simp[HO.men,HV.men],by simp,_,rfl,by simp[HO.close,HV.close,HV.closeL,HO.ren,HV.ren,HV.renL,tau,CV.denil,HV.norm,fB,upd_at,fob_at,HV.toC,HV.toCL,rdr,CV.denilL,aQ]⟩,trivial⟩) rfl List.nodup_nil (by simp) (by simp) ⟨rfl,x,y,rfl,fun n m h=>by cases h⟩
 refine aK ?_;refine T0 (hK _ _ _ ?_);clear hK K;refine aC fun K hK=>?_;have hv:isV ls a w 3=true:=by simpa using hb
 obtain⟨hl,hl1,hl2⟩:=gD hv;have hnum:=aZ6 hv hl;have hw:IntKind.i64.wrap ((a:Int)+1)=((a+1:Nat):Int):=IntWalk.i64_in _ (by omega);clear hb;refine aC fun K hK=>bA (by kernel_rfl) ?_;simp only[sR,simprocAttr];refine SG0 ?_;refine aU (g:=none) rfl rfl fun K' hK'=>?_;simp only[sN,↓hopH.eq_def,sH,↓sP,sA,tyS,simprocAttr];refine AX (hK' _ _ ?_);clear hK' K';refine SG0 ?_;refine T2 (hK _ _ _ ?_);clear hK K;refine aM ?_;refine bI (α:={y':Nat×Int×Int//(y'.1=0∧y'.2=(x,y))∨(y'.1=1∧bN (wd ls[a] 1)=some y'.2.1∧y'.2.2=y)∨(y'.1=2∧bN (wd ls[a] 1)=some y'.2.1∧bN (wd ls[a] 2)=some y'.2.2)}) (fun y'=>(fin [(0,.ptr 0 0),(18,.own 1 2),(19,.c (.int .i64 2)),(20,.c (.int .i64 y'.1.1))],fob [(0,.box 94 (.c (rdr ls a))),(1,.hrow 176 1 [.ptr 2 0,.ptr 3 0]),(2,.box 2 (.c (.int .i64 y'.1.2.1))),(3,.box 2 (.c (.int .i64 y'.1.2.2)))])) 100 (fun y'=>2-y'.1.1) ⟨(0,x,y),.inl ⟨rfl,rfl⟩⟩ (fF) ?_;rintro⟨⟨i,x1,y1⟩,hiy⟩;simp only[Prod.mk.injEq]at hiy;refine R0 ?_;refine aC fun K hK=>?_;refine aG (b:=decide ((i:Int)<2)) rfl (fun hb=>?_) (fun hb=>?_)
 ·
  have hi2:i<2:=by simp at hb;omega
  clear hb;refine aK ?_;refine T0 (hK _ _ _ ?_);clear hK K;refine aC fun K hK=>?_;refine aM ?_;by_cases hi0:i=0
  ·
   subst hi0;refine aC fun K hK=>bA (by kernel_rfl) ?_;simp only[sR,simprocAttr];refine SG0 ?_;refine aU (g:=none) rfl rfl fun K' hK'=>?_;simp only[sN,↓hopH.eq_def,sH,↓sP,sA,tyS,simprocAttr];refine AX (hK' _ _ ?_);clear hK' K';refine aU (g:=none) rfl rfl fun K' hK'=>?_;simp only[sN,↓hopH.eq_def,sH,↓sP,sA,tyS,simprocAttr];refine AX (hK' _ _ ?_);clear hK' K';iterate 2 refine SG0 ?_
   refine T2 (hK _ _ _ ?_);clear hK K;refine aC fun K hK=>Rg ?_;iterate 3 refine S0 ?_
   refine HS rfl rfl fun K' hK'=>T5 ?_;refine eJ (args:=[_]) (lN ls a 1 hl (by omega)) rfl (by simp) ⟨rfl,rfl,rfl,rfl⟩ ?_;rintro u x' v' ⟨rfl,rfl,rfl⟩;refine AX (hK' _ _ ?_);clear hK' K';iterate 5 refine S0 ?_
   refine T2 (hK _ _ _ ?_);clear hK K;refine aC fun K hK=>?_;refine R0 ?_;refine aG (b:=!(bN (wd ls[a] 1)).isSome) rfl (fun hb=>?_) (fun hb=>?_)
   ·
    have hno:bN (wd ls[a] 1)=none:=by simpa using hb
    rw[hno]at hnum;have hnum:mM ls a w=none:=hnum;refine R0 ?_;refine aF (RT Tryz.results130 ?_);rw[hnum];exact eD [] [] (.c (.bool false)) [.box 94 (.c (rdr ls a)),.hrow 176 1 [.ptr 2 0,.ptr 3 0],.box 2 (.c (.int .i64 x1)),.box 2 (.c (.int .i64 y1))] rfl (by simp[HV.men]) (⟨⟨by simp[HO.men,HV.men],by simp,_,rfl,by simp[HO.close,HV.close,HV.closeL,HO.ren,HV.ren,HV.renL,tau,CV.denil,HV.norm,fB,upd_at,fob_at,HV.toC,HV.toCL,rdr,CV.denilL,aQ]⟩,⟨by simp[HO.men,HV.men,HV.menL],by simp,_,rfl,by simp[HO.close,HV.close,HV.closeL,HO.ren,HV.ren,HV.renL,tau,CV.denil,HV.norm,fB,upd_at,fob_at,HV.toC,HV.toCL,rdr,CV.denilL,aQ]⟩,⟨by simp[HO.men,HV.men],by simp,_,rfl,by simp[HO.close,HV.close,HV.closeL,HO.ren,HV.ren,HV.renL,tau,CV.denil,HV.norm,fB,upd_at,fob_at,HV.toC,HV.toCL,rdr,CV.denilL,aQ]⟩,⟨by simp[HO.men,HV.men],by simp,_,rfl,by simp[HO.close,HV.close,HV.closeL,HO.ren,HV.ren,HV.renL,tau,CV.denil,HV.norm,fB,upd_at,fob_at,HV.toC,HV.toCL,rdr,CV.denilL,aQ]⟩,trivial⟩) rfl List.nodup_nil (by simp) (by simp) ⟨rfl,_,_,rfl,fun n m h=>by cases h⟩
   obtain⟨n,hn⟩: ∃n,bN (wd ls[a] 1)=some n:=by
    cases h:bN (wd ls[a] 1)with
    |none=>rw[h]at hb;simp at hb
    |some n=>exact⟨n,rfl⟩
   simp only[hn,Option.getD_some,Option.isSome_some,Bool.not_true];clear hb;refine aK ?_;refine T0 (hK _ _ _ ?_);clear hK K;refine Rg ?_;iterate 4 refine S0 ?_
   refine T2 (hK _ _ _ ?_);clear hK K;refine aN (by kernel_rfl) ?_;simp only[↓sP,sA,tyS,simprocAttr,(show IntKind.i64.wrap 1=1 from rfl),(show IntKind.i64.wrap 2=2 from rfl)];refine⟨⟨(1,n,y1),.inr (.inl ⟨rfl,hn,by rcases hiy with h|h|h;exact h.2.2;exact absurd h.1 (by decide);exact absurd h.1 (by decide)⟩)⟩,fF,?_⟩;show 2-1<2-0;omega
  obtain rfl:i=1:=by omega
  have h1:bN (wd ls[a] 1)=some x1:=by
   rcases hiy with h|h|h
   · omega
   · exact h.2.1
   omega
  refine aC fun K hK=>bA (by kernel_rfl) ?_;simp only[sR,simprocAttr];refine SG0 ?_;refine aU (g:=none) rfl rfl fun K' hK'=>?_;simp only[sN,↓hopH.eq_def,sH,↓sP,sA,tyS,simprocAttr];refine AX (hK' _ _ ?_);clear hK' K';refine aU (g:=none) rfl rfl fun K' hK'=>?_;simp only[sN,↓hopH.eq_def,sH,↓sP,sA,tyS,simprocAttr];refine AX (hK' _ _ ?_);clear hK' K';iterate 2 refine SG0 ?_
  refine T2 (hK _ _ _ ?_);clear hK K;refine aC fun K hK=>Rg ?_;iterate 3 refine S0 ?_
  refine HS rfl rfl fun K' hK'=>T5 ?_;refine eJ (args:=[_]) (lN ls a 2 hl (by omega)) rfl (by simp) ⟨rfl,rfl,rfl,rfl⟩ ?_;rintro u x' v' ⟨rfl,rfl,rfl⟩;refine AX (hK' _ _ ?_);clear hK' K';iterate 5 refine S0 ?_
  refine T2 (hK _ _ _ ?_);clear hK K;refine aC fun K hK=>?_;refine R0 ?_;refine aG (b:=!(bN (wd ls[a] 2)).isSome) rfl (fun hb=>?_) (fun hb=>?_)
  ·
   have hno:bN (wd ls[a] 2)=none:=by simpa using hb
   rw[hno,h1]at hnum;have hnum:mM ls a w=none:=hnum;refine R0 ?_;refine aF (RT Tryz.results130 ?_);rw[hnum];exact eD [] [] (.c (.bool false)) [.box 94 (.c (rdr ls a)),.hrow 176 1 [.ptr 2 0,.ptr 3 0],.box 2 (.c (.int .i64 x1)),.box 2 (.c (.int .i64 y1))] rfl (by simp[HV.men]) (⟨⟨by simp[HO.men,HV.men],by simp,_,rfl,by simp[HO.close,HV.close,HV.closeL,HO.ren,HV.ren,HV.renL,tau,CV.denil,HV.norm,fB,upd_at,fob_at,HV.toC,HV.toCL,rdr,CV.denilL,aQ]⟩,⟨by simp[HO.men,HV.men,HV.menL],by simp,_,rfl,by simp[HO.close,HV.close,HV.closeL,HO.ren,HV.ren,HV.renL,tau,CV.denil,HV.norm,fB,upd_at,fob_at,HV.toC,HV.toCL,rdr,CV.denilL,aQ]⟩,⟨by simp[HO.men,HV.men],by simp,_,rfl,by simp[HO.close,HV.close,HV.closeL,HO.ren,HV.ren,HV.renL,tau,CV.denil,HV.norm,fB,upd_at,fob_at,HV.toC,HV.toCL,rdr,CV.denilL,aQ]⟩,⟨by simp[HO.men,HV.men],by simp,_,rfl,by simp[HO.close,HV.close,HV.closeL,HO.ren,HV.ren,HV.renL,tau,CV.denil,HV.norm,fB,upd_at,fob_at,HV.toC,HV.toCL,rdr,CV.denilL,aQ]⟩,trivial⟩) rfl List.nodup_nil (by simp) (by simp) ⟨rfl,_,_,rfl,fun n m h=>by cases h⟩
  obtain⟨n,hn⟩: ∃n,bN (wd ls[a] 2)=some n:=by
   cases h:bN (wd ls[a] 2)with
   |none=>rw[h]at hb;simp at hb
   |some n=>exact⟨n,rfl⟩
  simp only[hn,Option.getD_some,Option.isSome_some,Bool.not_true];clear hb;refine aK ?_;refine T0 (hK _ _ _ ?_);clear hK K;refine Rg ?_;iterate 4 refine S0 ?_
  refine T2 (hK _ _ _ ?_);clear hK K;refine aN (by kernel_rfl) ?_;simp only[↓sP,sA,tyS,simprocAttr,(show IntKind.i64.wrap 1=1 from rfl),(show IntKind.i64.wrap 2=2 from rfl)];refine⟨⟨(2,x1,n),.inr (.inr ⟨rfl,h1,hn⟩)⟩,fF,?_⟩;show 2-2<2-1;omega
 refine bD (T3 ?_);clear hK K;refine AX (hK _ _ _ ?_);clear hK K;obtain⟨rfl,h1,h2⟩:i=2∧bN (wd ls[a] 1)=some x1∧bN (wd ls[a] 2)=some y1:=by
  rcases hiy with h|h|h
  · rw[h.1]at hb;simp at hb
  · rw[h.1]at hb;simp at hb
  exact h
 have hnum:mM ls a w=some (x1,y1):=by rw[hnum,h1,h2]
 clear hb;refine aC fun K hK=>Rg ?_;iterate 8 refine S0 ?_ (e:=fun _ h_=>by simp only[sH,↓sP,sA,tyS,simprocAttr,rdr,hw];exact AX h_)
 refine T2 (hK _ _ _ ?_);clear hK K;refine R0 ?_;refine aF (RT Tryz.results130 ?_);rw[hnum];exact eD [] [] (.c (.bool true)) [.box 94 (.c (rdr ls (a+1))),.hrow 176 1 [.ptr 2 0,.ptr 3 0],.box 2 (.c (.int .i64 x1)),.box 2 (.c (.int .i64 y1))] rfl (by simp[HV.men]) (⟨⟨by simp[HO.men,HV.men],by simp,_,rfl,by simp[HO.close,HV.close,HV.closeL,HO.ren,HV.ren,HV.renL,tau,CV.denil,HV.norm,fB,upd_at,fob_at,HV.toC,HV.toCL,rdr,CV.denilL,aQ]⟩,⟨by simp[HO.men,HV.men,HV.menL],by simp,_,rfl,by simp[HO.close,HV.close,HV.closeL,HO.ren,HV.ren,HV.renL,tau,CV.denil,HV.norm,fB,upd_at,fob_at,HV.toC,HV.toCL,rdr,CV.denilL,aQ]⟩,⟨by simp[HO.men,HV.men],by simp,_,rfl,by simp[HO.close,HV.close,HV.closeL,HO.ren,HV.ren,HV.renL,tau,CV.denil,HV.norm,fB,upd_at,fob_at,HV.toC,HV.toCL,rdr,CV.denilL,aQ]⟩,⟨by simp[HO.men,HV.men],by simp,_,rfl,by simp[HO.close,HV.close,HV.closeL,HO.ren,HV.ren,HV.renL,tau,CV.denil,HV.norm,fB,upd_at,fob_at,HV.toC,HV.toCL,rdr,CV.denilL,aQ]⟩,trivial⟩) rfl List.nodup_nil (by simp) (by simp) ⟨rfl,_,_,rfl,fun n m h=>by cases h;exact⟨rfl,rfl⟩⟩
variable {x:Int}{a nid:Nat}{ls:List (List aH)}{K:HV→Ob→Prop}{ob:Ob}{av:List Nat}
theorem iE (w:aH){id idh ix:Nat}(hl:ls.length<2^40)(h1:ob id=some (.box 94 (.c (rdr ls a))))(h2:ob idh=some (.hrow 176 1 [.ptr ix 0]))(h3:ob ix=some (.box 2 (.c (.int .i64 x))))
  (hn:[id,idh,ix].Nodup) (hav: ∀s∈[id,idh,ix],s∉av) (hfree:Free4 ob nid)
  (hK:K (.c (.bool (gB ls a w).isSome)) (upd (upd (upd ob id (some (.box 94 (.c (rdr ls (if(gB ls a w).isSome then a+1 else a)))))) idh (some (.hrow 176 1 [.ptr ix 0]))) ix (some (.box 2 (.c (.int .i64 ((gB ls a w).getD x))))))):
  HCall Tryz.prog av 130 [.ptr id 0,.c (.str w),.own idh 1] ob nid K:=by
 refine eZ [id,idh,ix] (bS9 ls a w x hl) rfl ⟨h1,h2,h3,trivial⟩ hn hav hfree (by simp[eH,HO.men,HV.men,HV.menL]) (by simp[HV.menL,HV.men]) ?_;rintro r os' ⟨rfl,rfl⟩;exact hK
theorem aU9 (w:aH){y:Int}{id idh ix iy:Nat}(hl:ls.length<2^40)(h1:ob id=some (.box 94 (.c (rdr ls a))))(h2:ob idh=some (.hrow 176 1 [.ptr ix 0,.ptr iy 0]))(h3:ob ix=some (.box 2 (.c (.int .i64 x))))(h4:ob iy=some (.box 2 (.c (.int .i64 y))))
  (hn:[id,idh,ix,iy].Nodup) (hav: ∀s∈[id,idh,ix,iy],s∉av) (hfree:Free4 ob nid)
  (hK: ∀x' y',(∀n m,mM ls a w=some (n,m)→x'=n∧y'=m)→K (.c (.bool (mM ls a w).isSome)) (upd (upd (upd (upd ob id (some (.box 94 (.c (rdr ls (if(mM ls a w).isSome then a+1 else a)))))) idh (some (.hrow 176 1 [.ptr ix 0,.ptr iy 0]))) ix (some (.box 2 (.c (.int .i64 x'))))) iy (some (.box 2 (.c (.int .i64 y')))))):
  HCall Tryz.prog av 130 [.ptr id 0,.c (.str w),.own idh 2] ob nid K:=by
 refine eZ [id,idh,ix,iy] (bT0 ls a w x y hl) rfl ⟨h1,h2,h3,h4,trivial⟩ hn hav hfree (by simp[eH,HO.men,HV.men,HV.menL]) (by simp[HV.menL,HV.men]) ?_;rintro r os' ⟨rfl,x',y',rfl,h⟩;exact hK x' y' h
theorem aP0 (ls:List (List aH))(a:Nat)(ha:ls.length<2^40):tQ Tryz.prog 128 94 (rdr ls a) [] (fun u x v'=>u=((jZ ls a).getD rq0).cv∧x= .bool (jZ ls a).isSome∧v'=rdr ls (if(jZ ls a).isSome then a+1 else a)):=by
 refine bT Tryz.func128 rfl (by kernel_rfl) (dN _ _ _) (Nat.le_of_ble_eq_true rfl) ?_;refine R0 ?_;refine R0 ?_;refine aC fun K hK=>?_;refine aM ?_;refine aC fun K hK=>bA (by kernel_rfl) ?_;simp only[sR,simprocAttr];refine SG0 ?_;refine aU (g:=none) rfl rfl fun K' hK'=>?_;simp only[sN,↓hopH.eq_def,sH,↓sP,sA,tyS,simprocAttr];refine AX (hK' _ _ ?_);clear hK' K';refine bM (g:=none) rfl rfl fun K' hK'=>T5 ?_;refine iE dO ha rfl rfl rfl (by decide) (by simp) ⟨rfl,rfl,rfl,rfl⟩ ?_;refine AX (hK' _ _ ?_);clear hK' K';refine SG0 ?_;refine T2 (hK _ _ _ ?_);clear hK K;refine aG (b:=(gB ls a dO).isSome) rfl (fun hb=>?_) (fun hb=>?_)
 ·
  obtain⟨n,hn⟩:=Option.isSome_iff_exists.1 hb;obtain⟨hl,hl1,hl2,hl3⟩:=jH hn;have hreq:jZ ls a=some ⟨1,n,0,[]⟩:=by rw[gE hl,xY hl1 hl2,hl3];rfl
  simp only[hn,Option.isSome_some,if_true,Option.getD_some];refine aC fun K hK=>Rg ?_;iterate 4 refine S0 ?_
  refine T2 (hK _ _ _ ?_);clear hK K;refine aF (RT Tryz.results128 ?_);rw[hreq];exact bW [] (Rq.cv ⟨1,n,0,[]⟩) (.bool true) (rdr ls (a+1)) rfl rfl (by simp[HV.close,HV.closeL,rdr,CV.denil,CV.denilL,aQ,HV.norm,HV.toC,HV.toCL]) (by simp) ⟨rfl,rfl,rfl⟩
 have hwReleased:gB ls a dO=none:=by simpa using hb
 simp only[hwReleased,Option.isSome_none,Bool.false_eq_true,if_false,Option.getD_none];clear hb;refine aC fun K hK=>Rg ?_;refine S0 ?_;refine HS rfl rfl fun K' hK'=>T5 ?_;refine bJ (args:=[_,_]) (aB1 ls a 2 eM (by omega)) rfl (by simp) ⟨rfl,rfl,rfl,rfl⟩ ?_;rintro u v' ⟨rfl,rfl⟩;refine AX (hK' _ _ ?_);clear hK' K';refine S0 ?_;refine T2 (hK _ _ _ ?_);clear hK K;refine aG (b:=isV ls a eM 2) rfl (fun hb=>?_) (fun hb=>?_)
 ·
  obtain⟨hl,hl1,hl2⟩:=gD hb;have hreq:jZ ls a=some ⟨2,0,0,wd ls[a] 1⟩:=by rw[gE hl,aF1 hl1 hl2]
  have hw:IntKind.i64.wrap ((a:Int)+1)=((a+1:Nat):Int):=IntWalk.i64_in _ (by omega);have hw2:IntKind.i64.wrap (((a+1:Nat):Int)-1)=(a:Int):=by rw[IntWalk.i64_in _ (by omega)];omega
  have h1:1<ls[a].length:=by omega
  refine aC fun K hK=>Rg ?_;iterate 8 refine S0 ?_ (e:=fun _ h_=>by simp only[sH,↓sP,sA,tyS,simprocAttr,rdr,hw];exact AX h_)
  refine T2 (hK _ _ _ ?_);clear hK K;refine aC fun K hK=>DW [(0,[],[]),(1,[],[]),(2,[],[]),(3,[],[]),(4,[],[]),(5,[],[]),(6,[],[]),(7,[],[]),(8,[],[]),(9,[],[]),(10,[],[]),(11,[],[]),(12,[],[]),(13,[],[]),(14,[],[]),(15,[],[])] [0,1,3,7,0,16,48,112,240,511,1023,2047,4095,8191,16383,32767] ?_;iterate 16 refine W0 ?_ (e:=fun _ h_=>by simp only[sH,↓sP,sA,tyS,simprocAttr,rdr,hw2,Int.natCast_nonneg,Int.ofNat_lt,hl,bH hl,lsC,wQ h1,Int.one_nonneg,hl1];exact AX h_)
  refine T2 (hK _ _ _ ?_);clear hK K;refine aF (RT Tryz.results128 ?_);rw[hreq];exact bW [] (Rq.cv ⟨2,0,0,wd ls[a] 1⟩) (.bool true) (rdr ls (a+1)) rfl rfl (by simp[HV.close,HV.closeL,rdr,CV.denil,CV.denilL,aQ,HV.norm,HV.toC,HV.toCL]) (by simp) ⟨rfl,rfl,rfl⟩
 have hChained:isV ls a eM 2=false:=hb;clear hb;refine aC fun K hK=>bA (by kernel_rfl) ?_;simp only[sR,simprocAttr];refine SG0 ?_;refine aU (g:=none) rfl rfl fun K' hK'=>?_;simp only[sN,↓hopH.eq_def,sH,↓sP,sA,tyS,simprocAttr];refine AX (hK' _ _ ?_);clear hK' K';refine bM (g:=none) rfl rfl fun K' hK'=>T5 ?_;refine iE eB ha rfl rfl rfl (by decide) (by simp) ⟨rfl,rfl,rfl,rfl⟩ ?_;refine AX (hK' _ _ ?_);clear hK' K';refine SG0 ?_;refine T2 (hK _ _ _ ?_);clear hK K;refine aG (b:=(gB ls a eB).isSome) rfl (fun hb=>?_) (fun hb=>?_)
 ·
  obtain⟨n,hn⟩:=Option.isSome_iff_exists.1 hb;obtain⟨hl,hl1,hl2,hl3⟩:=jH hn;have hreq:jZ ls a=some ⟨3,n,0,[]⟩:=by rw[gE hl,xZ hl1 hl2,hl3];rfl
  simp only[hn,Option.isSome_some,if_true,Option.getD_some];refine aC fun K hK=>Rg ?_;iterate 4 refine S0 ?_
  refine T2 (hK _ _ _ ?_);clear hK K;refine aF (RT Tryz.results128 ?_);rw[hreq];exact bW [] (Rq.cv ⟨3,n,0,[]⟩) (.bool true) (rdr ls (a+1)) rfl rfl (by simp[HV.close,HV.closeL,rdr,CV.denil,CV.denilL,aQ,HV.norm,HV.toC,HV.toCL]) (by simp) ⟨rfl,rfl,rfl⟩
 have hwApproved:gB ls a eB=none:=by simpa using hb
 simp only[hwApproved,Option.isSome_none,Bool.false_eq_true,if_false,Option.getD_none];clear hb;refine aC fun K hK=>bA (by kernel_rfl) ?_;simp only[sR,simprocAttr];refine SG0 ?_;refine aU (g:=none) rfl rfl fun K' hK'=>?_;simp only[sN,↓hopH.eq_def,sH,↓sP,sA,tyS,simprocAttr];refine AX (hK' _ _ ?_);clear hK' K';refine bM (g:=none) rfl rfl fun K' hK'=>T5 ?_;refine aU9 fN ha rfl rfl rfl rfl (by decide) (by simp) ⟨rfl,rfl,rfl,rfl⟩ ?_;intro x1 y1 hxy;refine AX (hK' _ _ ?_);clear hK' K';refine SG0 ?_;refine T2 (hK _ _ _ ?_);clear hK K;refine aG (b:=(mM ls a fN).isSome) rfl (fun hb=>?_) (fun hb=>?_)
 ·
  obtain⟨⟨n,m⟩,hn⟩:=Option.isSome_iff_exists.1 hb;obtain⟨hl,hl1,hl2,hl3,hl4⟩:=bG4 hn;obtain⟨rfl,rfl⟩:=hxy _ _ hn;have hreq:jZ ls a=some ⟨4,x1,y1,[]⟩:=by rw[gE hl,aF2 hl1 hl2,hl3,hl4]
  simp only[hn,Option.isSome_some,if_true];refine aC fun K hK=>Rg ?_;iterate 5 refine S0 ?_
  refine T2 (hK _ _ _ ?_);clear hK K;refine aF (RT Tryz.results128 ?_);rw[hreq];exact bW [] (Rq.cv ⟨4,x1,y1,[]⟩) (.bool true) (rdr ls (a+1)) rfl rfl (by simp[HV.close,HV.closeL,rdr,CV.denil,CV.denilL,aQ,HV.norm,HV.toC,HV.toCL]) (by simp) ⟨rfl,rfl,rfl⟩
 have hRebuilt:mM ls a fN=none:=by simpa using hb
 simp only[hRebuilt,Option.isSome_none,Bool.false_eq_true,if_false];clear hb;refine aC fun K hK=>bA (by kernel_rfl) ?_;simp only[sR,simprocAttr];refine SG0 ?_;refine aU (g:=none) rfl rfl fun K' hK'=>?_;simp only[sN,↓hopH.eq_def,sH,↓sP,sA,tyS,simprocAttr];refine AX (hK' _ _ ?_);clear hK' K';refine bM (g:=none) rfl rfl fun K' hK'=>T5 ?_;refine iE gC ha rfl rfl rfl (by decide) (by simp) ⟨rfl,rfl,rfl,rfl⟩ ?_;refine AX (hK' _ _ ?_);clear hK' K';refine SG0 ?_;refine T2 (hK _ _ _ ?_);clear hK K;refine aG (b:=(gB ls a gC).isSome) rfl (fun hb=>?_) (fun hb=>?_)
 ·
  obtain⟨n,hn⟩:=Option.isSome_iff_exists.1 hb;obtain⟨hl,hl1,hl2,hl3⟩:=jH hn;have hreq:jZ ls a=some ⟨5,n,0,[]⟩:=by rw[gE hl,aN7 hl1 hl2,hl3];rfl
  simp only[hn,Option.isSome_some,if_true,Option.getD_some];refine aC fun K hK=>Rg ?_;iterate 4 refine S0 ?_
  refine T2 (hK _ _ _ ?_);clear hK K;refine aF (RT Tryz.results128 ?_);rw[hreq];exact bW [] (Rq.cv ⟨5,n,0,[]⟩) (.bool true) (rdr ls (a+1)) rfl rfl (by simp[HV.close,HV.closeL,rdr,CV.denil,CV.denilL,aQ,HV.norm,HV.toC,HV.toCL]) (by simp) ⟨rfl,rfl,rfl⟩
 have hwListed:gB ls a gC=none:=by simpa using hb
 simp only[hwListed,Option.isSome_none,Bool.false_eq_true,if_false,Option.getD_none];clear hb;refine aC fun K hK=>bA (by kernel_rfl) ?_;simp only[sR,simprocAttr];refine SG0 ?_;refine aU (g:=none) rfl rfl fun K' hK'=>?_;simp only[sN,↓hopH.eq_def,sH,↓sP,sA,tyS,simprocAttr];refine AX (hK' _ _ ?_);clear hK' K';refine bM (g:=none) rfl rfl fun K' hK'=>T5 ?_;refine iE jR ha rfl rfl rfl (by decide) (by simp) ⟨rfl,rfl,rfl,rfl⟩ ?_;refine AX (hK' _ _ ?_);clear hK' K';refine SG0 ?_;refine T2 (hK _ _ _ ?_);clear hK K;refine aG (b:=(gB ls a jR).isSome) rfl (fun hb=>?_) (fun hb=>?_)
 ·
  obtain⟨n,hn⟩:=Option.isSome_iff_exists.1 hb;obtain⟨hl,hl1,hl2,hl3⟩:=jH hn;have hreq:jZ ls a=some ⟨6,n,0,[]⟩:=by rw[gE hl,aU1 hl1 hl2,hl3];rfl
  simp only[hn,Option.isSome_some,if_true,Option.getD_some];refine aC fun K hK=>Rg ?_;iterate 4 refine S0 ?_
  refine T2 (hK _ _ _ ?_);clear hK K;refine aF (RT Tryz.results128 ?_);rw[hreq];exact bW [] (Rq.cv ⟨6,n,0,[]⟩) (.bool true) (rdr ls (a+1)) rfl rfl (by simp[HV.close,HV.closeL,rdr,CV.denil,CV.denilL,aQ,HV.norm,HV.toC,HV.toCL]) (by simp) ⟨rfl,rfl,rfl⟩
 have hwClean:gB ls a jR=none:=by simpa using hb
 simp only[hwClean,Option.isSome_none,Bool.false_eq_true,if_false,Option.getD_none];clear hb;refine aC fun K hK=>bA (by kernel_rfl) ?_;simp only[sR,simprocAttr];refine SG0 ?_;refine aU (g:=none) rfl rfl fun K' hK'=>?_;simp only[sN,↓hopH.eq_def,sH,↓sP,sA,tyS,simprocAttr];refine AX (hK' _ _ ?_);clear hK' K';refine bM (g:=none) rfl rfl fun K' hK'=>T5 ?_;refine iE kT ha rfl rfl rfl (by decide) (by simp) ⟨rfl,rfl,rfl,rfl⟩ ?_;refine AX (hK' _ _ ?_);clear hK' K';refine SG0 ?_;refine T2 (hK _ _ _ ?_);clear hK K;refine aG (b:=(gB ls a kT).isSome) rfl (fun hb=>?_) (fun hb=>?_)
 ·
  obtain⟨n,hn⟩:=Option.isSome_iff_exists.1 hb;obtain⟨hl,hl1,hl2,hl3⟩:=jH hn;have hreq:jZ ls a=some ⟨7,n,0,[]⟩:=by rw[gE hl,aU2 hl1 hl2,hl3];rfl
  simp only[hn,Option.isSome_some,if_true,Option.getD_some];refine aC fun K hK=>Rg ?_;iterate 4 refine S0 ?_
  refine T2 (hK _ _ _ ?_);clear hK K;refine aF (RT Tryz.results128 ?_);rw[hreq];exact bW [] (Rq.cv ⟨7,n,0,[]⟩) (.bool true) (rdr ls (a+1)) rfl rfl (by simp[HV.close,HV.closeL,rdr,CV.denil,CV.denilL,aQ,HV.norm,HV.toC,HV.toCL]) (by simp) ⟨rfl,rfl,rfl⟩
 have hwFresh:gB ls a kT=none:=by simpa using hb
 simp only[hwFresh,Option.isSome_none,Bool.false_eq_true,if_false,Option.getD_none];clear hb;refine aC fun K hK=>Rg ?_;refine S0 ?_;refine HS rfl rfl fun K' hK'=>T5 ?_;refine bJ (args:=[_,_]) (oB ls a iM ha) rfl (by simp) ⟨rfl,rfl,rfl,rfl⟩ ?_;rintro u v' ⟨rfl,rfl⟩;refine AX (hK' _ _ ?_);clear hK' K';refine S0 ?_;refine T2 (hK _ _ _ ?_);clear hK K;refine aG (b:=isV ls a iM 1) rfl (fun hb=>?_) (fun hb=>?_)
 ·
  obtain⟨hl,hl1,hl2⟩:=gD hb;have hreq:jZ ls a=some ⟨8,0,0,[]⟩:=by rw[gE hl,aF3 hl1 hl2]
  rw[hb];refine aC fun K hK=>Rg ?_;iterate 3 refine S0 ?_
  refine T2 (hK _ _ _ ?_);clear hK K;refine aF (RT Tryz.results128 ?_);rw[hreq];exact bW [] (Rq.cv ⟨8,0,0,[]⟩) (.bool true) (rdr ls (a+1)) rfl rfl (by simp[HV.close,HV.closeL,rdr,CV.denil,CV.denilL,aQ,HV.norm,HV.toC,HV.toCL]) (by simp) ⟨rfl,rfl,rfl⟩
 have hno:jZ ls a=none:=bG5 hwReleased hChained hwApproved hRebuilt hwListed hwClean hwFresh hb;rw[hb];refine aK ?_;refine T0 (hK _ _ _ ?_);clear hK K;refine aC fun K hK=>Rg ?_;iterate 3 refine S0 ?_
 refine T2 (hK _ _ _ ?_);clear hK K;refine aF (RT Tryz.results128 ?_);rw[hno];exact bW [] rq0.cv (.bool false) (rdr ls a) rfl rfl (by simp[HV.close,HV.closeL,rdr,CV.denil,CV.denilL,aQ,HV.norm,HV.toC,HV.toCL]) (by simp) ⟨rfl,rfl,rfl⟩
theorem aP1 (ls:List (List aH))(a:Nat)(ha:ls.length<2^40):tQ Tryz.prog 129 94 (rdr ls a) [] (fun u x v'=>u=((jT ls a).getD nd0).cv∧x= .bool (jT ls a).isSome∧v'=rdr ls (if(jT ls a).isSome then a+1 else a)):=by
 refine bT Tryz.func129 rfl (by kernel_rfl) (dN _ _ _) (Nat.le_of_ble_eq_true rfl) ?_;refine R0 ?_;refine R0 ?_;refine aC fun K hK=>?_;refine aM ?_;refine aC fun K hK=>Rg ?_;refine S0 ?_;refine HS rfl rfl fun K' hK'=>T5 ?_;refine bJ (args:=[_,_]) (oB ls a lG ha) rfl (by simp) ⟨rfl,rfl,rfl,rfl⟩ ?_;rintro u v' ⟨rfl,rfl⟩;refine AX (hK' _ _ ?_);clear hK' K';refine S0 ?_;refine T2 (hK _ _ _ ?_);clear hK K;refine aG (b:=isV ls a lG 1) rfl (fun hb=>?_) (fun hb=>?_)
 ·
  have hreq:=bR1 hb;rw[hb];refine aC fun K hK=>Rg ?_;iterate 3 refine S0 ?_
  refine T2 (hK _ _ _ ?_);clear hK K;refine aF (RT Tryz.results129 ?_);rw[hreq];exact bW [] (Nd.cv ⟨2,0,0,rq0⟩) (.bool true) (rdr ls (a+1)) rfl rfl (by simp[HV.close,HV.closeL,rdr,CV.denil,CV.denilL,aQ,HV.norm,HV.toC,HV.toCL]) (by simp) ⟨rfl,rfl,rfl⟩
 have hAll:isV ls a lG 1=false:=hb;rw[hb];simp only[Bool.false_eq_true,if_false];clear hb;refine aC fun K hK=>Rg ?_;refine S0 ?_;refine HS rfl rfl fun K' hK'=>T5 ?_;refine bJ (args:=[_,_]) (oB ls a lH ha) rfl (by simp) ⟨rfl,rfl,rfl,rfl⟩ ?_;rintro u v' ⟨rfl,rfl⟩;refine AX (hK' _ _ ?_);clear hK' K';refine S0 ?_;refine T2 (hK _ _ _ ?_);clear hK K;refine aG (b:=isV ls a lH 1) rfl (fun hb=>?_) (fun hb=>?_)
 ·
  have hreq:=bR2 hb;rw[hb];refine aC fun K hK=>Rg ?_;iterate 3 refine S0 ?_
  refine T2 (hK _ _ _ ?_);clear hK K;refine aF (RT Tryz.results129 ?_);rw[hreq];exact bW [] (Nd.cv ⟨3,0,0,rq0⟩) (.bool true) (rdr ls (a+1)) rfl rfl (by simp[HV.close,HV.closeL,rdr,CV.denil,CV.denilL,aQ,HV.norm,HV.toC,HV.toCL]) (by simp) ⟨rfl,rfl,rfl⟩
 have hAny:isV ls a lH 1=false:=hb;rw[hb];simp only[Bool.false_eq_true,if_false];clear hb;refine aC fun K hK=>bA (by kernel_rfl) ?_;simp only[sR,simprocAttr];refine SG0 ?_;refine aU (g:=none) rfl rfl fun K' hK'=>?_;simp only[sN,↓hopH.eq_def,sH,↓sP,sA,tyS,simprocAttr];refine AX (hK' _ _ ?_);clear hK' K';refine bM (g:=none) rfl rfl fun K' hK'=>T5 ?_;refine iE cR ha rfl rfl rfl (by decide) (by simp) ⟨rfl,rfl,rfl,rfl⟩ ?_;refine AX (hK' _ _ ?_);clear hK' K';refine SG0 ?_;refine T2 (hK _ _ _ ?_);clear hK K;refine aG (b:=(gB ls a cR).isSome) rfl (fun hb=>?_) (fun hb=>?_)
 ·
  obtain⟨n,hn⟩:=Option.isSome_iff_exists.1 hb;have hreq:=bY9 hn;simp only[hn,Option.isSome_some,if_true,Option.getD_some];refine aC fun K hK=>Rg ?_;iterate 4 refine S0 ?_
  refine T2 (hK _ _ _ ?_);clear hK K;refine aF (RT Tryz.results129 ?_);rw[hreq];exact bW [] (Nd.cv ⟨4,n,0,rq0⟩) (.bool true) (rdr ls (a+1)) rfl rfl (by simp[HV.close,HV.closeL,rdr,CV.denil,CV.denilL,aQ,HV.norm,HV.toC,HV.toCL]) (by simp) ⟨rfl,rfl,rfl⟩
 have hAt:gB ls a cR=none:=by simpa using hb
 have hno:=bG6 hAll hAny hAt;simp only[hAt,Option.isSome_none,Bool.false_eq_true,if_false,Option.getD_none];refine aK ?_;refine T0 (hK _ _ _ ?_);clear hK K;refine aC fun K hK=>Rg ?_;iterate 3 refine S0 ?_
 refine T2 (hK _ _ _ ?_);clear hK K;refine aF (RT Tryz.results129 ?_);rw[hno];exact bW [] nd0.cv (.bool false) (rdr ls a) rfl rfl (by simp[HV.close,HV.closeL,rdr,CV.denil,CV.denilL,aQ,HV.norm,HV.toC,HV.toCL]) (by simp) ⟨rfl,rfl,rfl⟩
end Go.Proofs.YtlldglbooaefhaaGreatDoor
