/- Part of a proof: walks of functions of the program, by contracts, and the rules they use. By an AI agent. -/
import Derived.Test.YtlldglbooaefhaaGreatDoorPl03c
import Derived.Test.YtlldglbooaefhaaGreatDoorHzUh
import Derived.Test.YtlldglbooaefhaaGreatDoorHzU1
import Derived.Test.YtlldglbooaefhaaGreatDoorHlTlaw
import Derived.Test.YtlldglbooaefhaaGreatDoorPl28k
import Derived.Test.YtlldglbooaefhaaGreatDoorPlShd
import Derived.Test.YtlldglbooaefhaaGreatDoorHlIt
import Derived.Test.YtlldglbooaefhaaGreatDoorPl28p
set_option linter.unusedSimpArgs false
set_option linter.unusedVariables false
set_option linter.defProp false
namespace Go.Pl
open Go Go.Hl
variable {t:List Nd}
theorem bZ4 (h:Made 3 0 t):t.length≤40:=by
 have key: ∀p∈pos 3 0,p.1≤40:=by decide+kernel
 exact key _ h.pos
def rN (n:Nat):aH:=[114,UInt8.ofNat (48+n)]
def dfT :List Nd:=[⟨1,0,0,⟨1,1,0,[]⟩⟩]
def pkA :List aH:=[[112,114,111,100],[116,101,115,116],[42],[42,42]]
def pkB :List aH:=[[119,101,98],[42],[42,42]]
structure MadeR (r:Pr):Prop where
 ok:iE r=true
 b:r.b.length≤80
 c:r.c.length≤80
 t:r.t.length≤40
variable {n:Nat}
theorem bR5 {b c:aH}{g:Int}(hn:n=1∨n=2)(hb:b∈pkA)(hc:c∈pkB)(hg:0≤g∧g<20)(ht:t=dfT∨Made 3 0 t):MadeR ⟨rN n,b,c,g,t⟩:=by
 have k1: ∀b∈pkA,(eB b).isSome=true∧b.length≤80:=by decide+kernel
 have k2: ∀b∈pkB,(eB b).isSome=true∧b.length≤80:=by decide+kernel
 have k3:cU (rN n)=true:=by rcases hn with rfl|rfl<;>decide+kernel
 have k4:inB g 0 rF=true:=by rw[fP,lS];omega
 have k5:cW t=true∧t.length≤40:=by
  rcases ht with rfl|ht
  · exact⟨by decide,by decide⟩
  · grind[aM0,bX4,bZ4]
 exact⟨by grind[iE,Bool.and_self],(k1 b hb).2,(k2 c hc).2,k5.2⟩
structure MadeRs (n:Nat)(rs:List Pr):Prop where
 two:n+rs.length≤2
 one:1≤n+rs.length
 ok: ∀r∈rs,MadeR r
 nm: ∀r∈rs,∃j,n<j∧j≤2∧r.a=rN j
 ap:gC rs=true
theorem MadeRs.zero (h1:1≤n)(h2:n≤2):MadeRs n []:=⟨by grind,by grind,by simp,by simp,rfl⟩
variable {rs:List Pr}
theorem MadeRs.next (h:MadeRs (n+1) rs){r:Pr}(hr:MadeR r)(ha:r.a=rN (n+1)):MadeRs n (rs++[r]):=by
 have h1:=h.two;refine⟨by grind,by grind,fun x hx=>?_,fun x hx=>?_,?_⟩
 ·
  rcases List.mem_append.1 hx with hx|hx
  · exact h.ok x hx
  grind
 ·
  rcases List.mem_append.1 hx with hx|hx
  · obtain⟨j,h2,h3,h4⟩:=h.nm x hx;grind
  grind
 ·
  rw[nG,h.ap,Bool.true_and,Bool.not_eq_true',←Bool.not_eq_true,List.contains_iff_mem];intro hm;obtain⟨x,hx,he⟩:=List.mem_map.1 hm;obtain⟨j,h2,h3,h4⟩:=h.nm x hx;rw[h4,ha]at he;have hj:j=2:=by omega
  have hn:n=0:=by omega
  subst hj hn
  revert he
  decide
theorem MadeRs.fin (h:MadeRs 0 rs){v:Int}(h1:1≤v)(h2:v≤1099511627776):bN9 ⟨[112],v,rs⟩:=by
 have h3:=h.two;have k:cU [112]=true:=by decide
 refine⟨?_,by grind,fun r hr=>⟨(h.ok r hr).b,(h.ok r hr).c,(h.ok r hr).t⟩⟩;have k1:inB v 1 rF=true:=by rw[fP,lS];exact⟨h1,h2⟩
 have k2:decide (rs.length≤16)=true:=by simp;omega
 have k3:rs.all iE=true:=List.all_eq_true.2 fun r hr=>(h.ok r hr).ok;simp only[eJ,k,k1,k2,k3,h.ap,Bool.and_self]
theorem bR6 {q:Rq}(h:dB q=true):q.t.length≤64:=by
 have hn:cU q.t=true→q.t.length≤64:=fun h=>(wR h).2;have h0:q.t=[]→q.t.length≤64:=fun h=>by grind
 unfold dB at h;grind
theorem bG2 {n:Nd}(h:bP n=true):n.q.t.length≤64:=by
 have h0:n.q=rq0→n.q.t.length≤64:=fun h=>by rw[h];decide
 have h1:dB n.q=true→n.q.t.length≤64:=bR6;unfold bP at h
 repeat' split at h
 all_goals simp_all[Bool.and_eq_true,vI,beq_iff_eq]
theorem bG3 (h:IsTree t): ∀n∈t,n.q.t.length<2^63:=fun n hn=>by have:=bG2 (h.node n hn);omega
theorem bZ5 {p:Po}(h:eJ p=true):PoSz p:=by
 obtain⟨_,h2,h3,h4⟩:=aD8 h;refine⟨by grind[wR],by omega,fun r hr=>?_,fun r hr=>bG3 (nI (h4 r hr)).2.1⟩;have:=(wR (nI (h4 r hr)).2.2.1).2;omega
theorem MadeRs.sz (h:MadeRs 0 rs)(v:Int):PoSz ⟨[112],v,rs⟩:=by
 have:=bZ5 (h.fin (v:=1) (by omega) (by omega)).1;exact⟨this.n,this.r,this.a,this.t⟩
end Go.Pl
namespace Go.Proofs.YtlldglbooaefhaaGreatDoor
open Go Go.Hl Go.Pl
set_option maxRecDepth 10000
set_option maxHeartbeats 16000000
theorem bZ6 (p:Po)(hp:PoSz p)(ns im:aH):bV Tryz.prog 40 [p.cv,.str ns,.str im] (fun v=>v= .int .i64 (aD9 p ns im)):=by
 have hpr:=hp.r;refine FW Tryz.func40 ?_;refine R0 ?_;refine aC fun K hK=>?_;refine R0 ?_;refine aL ?_;refine bF (α:={i:Nat//i≤p.r.length∧(∀j (h:j<p.r.length),j<i→lW ns im p.r[j]=false)}) (fun i=>(fin [(1,.c (.str ns)),(2,.c (.str im)),(3,.ptr 0 0),(7,.c (.int .i64 i.1))],fob [(0,.box 45 (.c p.cv))])) 2000 (fun i=>p.r.length-i.1) ⟨0,by omega,fun j h hj=>by omega⟩ (fF) ?_;rintro⟨i,hi,h0⟩;refine aC fun K hK=>?_;refine aC fun K hK=>?_;have key: ∀(b:Bool) fr ob nx,b=(decide ((i:Int)<p.r.length)&&eJ p)→Fits 0 fr ob (fin [(1,.c (.str ns)),(2,.c (.str im)),(3,.ptr 0 0),(7,.c (.int .i64 i)),(16,.c (.bool b))]) (fob [(0,.box 45 (.c p.cv))]) 3000→K fr ob nx:=by
  rintro b fr ob nx rfl hf;refine hK _ _ _ (bG hf ?_);clear hf hK K;refine aJ (b:=decide ((i:Int)<p.r.length)&&eJ p) rfl (fun hb=>?_) (fun hb=>?_)
  ·
   obtain⟨hlt',hv⟩:decide ((i:Int)<p.r.length)=true∧eJ p=true:=by simpa only[Bool.and_eq_true]using hb
   have hlt:i<p.r.length:=by simpa using hlt'
   clear hb;refine aK ?_;refine T0 (hK _ _ _ ?_);clear hK K;refine aC fun K hK=>?_;refine aL ?_;refine aC fun K hK=>?_;have key: ∀(b:Bool) fr ob nx,b=lW ns im p.r[i]→Fits 0 fr ob (fin [(1,.c (.str ns)),(2,.c (.str im)),(3,.ptr 0 0),(7,.c (.int .i64 i)),(36,.c (.bool b))]) (fob [(0,.box 45 (.c p.cv))]) 4000→K fr ob nx:=by
    rintro b fr ob nx rfl hf;refine hK _ _ _ (bG hf ?_);clear hf hK K;refine aJ (b:=lW ns im p.r[i]) rfl (fun hb=>?_) (fun hb=>?_)
    · refine R0 ?_;refine aF (RT Tryz.results40 ?_);exact aG [] (.int .i64 i) rfl (by rw[aD9,if_pos hv];exact congrArg _ (aO1 hlt hb fun j hj=>h0 j (by omega) hj).symm)
    refine aK ?_;refine T0 (hK _ _ _ ?_);clear hK K;refine aM (by kernel_rfl) ?_;refine TQ (IntWalk.i64_in ((i:Int)+1) (by omega)) ?_;refine⟨⟨i+1,hlt,fun j h hj=>?_⟩,fF,?_⟩
    ·
     rcases Nat.lt_or_ge j i with h1|h1
     · exact h0 j h h1
     obtain rfl:j=i:=by omega
     exact hb
    show p.r.length-(i+1)<p.r.length-i;omega
   refine Rg ?_;have F:=aI @Int.natCast_nonneg (aI @Int.ofNat_lt (aI hlt (nM hlt)));iterate 7 refine SF ?_
   refine HS rfl rfl fun K' hK'=>T6 ?_;refine C2 (zT p.r[i].b ns) ?_;rintro u rfl;refine AX (hK' _ _ ?_);clear hK' K';refine SF ?_;refine aE 26 rfl (fun h4_26=>?_) (fun h4_26=>?_)
   ·
    have F:=aI @Int.natCast_nonneg (aI @Int.ofNat_lt (aI hlt (aI (nM hlt) h4_26)));iterate 7 refine SF ?_
    refine aV (g:=some (27,true)) rfl rfl fun K' hK'=>T6 ?_;refine C2 (zT p.r[i].c im) ?_;rintro u rfl;refine AX (hK' _ _ ?_);clear hK' K';refine SF ?_;refine aE 35 rfl (fun h4_35=>?_) (fun h4_35=>?_)
    · simp only[h4_35];refine T4 ?_;exact key true _ _ _ (by simp only[lW,h4_26,h4_35,Bool.and_true,Bool.and_false,Bool.true_and,Bool.false_and]) (fF)
    simp only[h4_35];refine T4 ?_;exact key false _ _ _ (by simp only[lW,h4_26,h4_35,Bool.and_true,Bool.and_false,Bool.true_and,Bool.false_and]) (fF)
   have F:=aI @Int.natCast_nonneg (aI @Int.ofNat_lt (aI hlt (aI (nM hlt) h4_26)));iterate 9 refine SF ?_
   refine T4 ?_;exact key false _ _ _ (by simp only[lW,h4_26,Bool.and_true,Bool.and_false,Bool.true_and,Bool.false_and]) (fF)
  refine bA (T3 ?_);clear hK K;refine AX (hK _ _ _ ?_);clear hK K;refine R0 ?_;refine aF (RT Tryz.results40 ?_);have e:aD9 p ns im= -1:=by
   cases hv:eJ p with
   |false=>exact aM1 hv
   |true=>
    rw[hv]at hb;have hei:i=p.r.length:=by simp at hb;omega
    subst hei;rw[aD9,if_pos hv];exact aA0 fun j hj=>h0 j hj hj
  exact aG [] (.int .i64 (-1)) rfl (by rw[e])
 refine Rg ?_;iterate 6 refine S0 ?_
 refine aE 12 rfl (fun h2_12=>?_) (fun h2_12=>?_)
 ·
  have F:=h2_12;refine SF ?_;refine aV (g:=some (13,true)) rfl rfl fun K' hK'=>T6 ?_;refine C1 (bF8 p hp) ?_;rintro u rfl;refine AX (hK' _ _ ?_);clear hK' K';refine SF ?_;refine aE 15 rfl (fun h2_15=>?_) (fun h2_15=>?_)
  · simp only[h2_15];refine T4 ?_;exact key true _ _ _ (by simp only[h2_12,h2_15,Bool.and_true,Bool.and_false,Bool.true_and,Bool.false_and]) (fF)
  simp only[h2_15];refine T4 ?_;exact key false _ _ _ (by simp only[h2_12,h2_15,Bool.and_true,Bool.and_false,Bool.true_and,Bool.false_and]) (fF)
 have F:=h2_12;iterate 3 refine SF ?_
 refine T4 ?_;exact key false _ _ _ (by simp only[h2_12,Bool.and_true,Bool.and_false,Bool.true_and,Bool.false_and]) (fF)
theorem bZ7 {n:Nat}(h:n≤2):IntKind.i64.wrap (48+(n:Int))=((48+n:Nat):Int)∧IntKind.u8.wrap (((48+n:Nat):Int))=((UInt8.ofNat (48+n)).toNat:Int):=by
 match n,h with
 |0,_=>decide
 |1,_=>decide
 |2,_=>decide
theorem aU4 (L:List Int)(a:Nat)(v:Int)(ha:a<2^37):aQ9 Tryz.prog 31 83 (tp L a) [.int .i64 v] (fun u v'=> ∃(rs:List Pr) (a':Nat),u=(Po.mk [112] v rs).cv∧v'=tp L a'∧MadeRs 0 rs∧a'≤a+1000):=by
 refine bS Tryz.func31 rfl (by kernel_rfl) (cR _ _ _) (Nat.le_of_ble_eq_true rfl) ?_;have hab:=aO2 3 (by decide);refine R0 ?_;refine aC fun K hK=>Rg ?_;iterate 4 refine S0 ?_
 refine T2 (hK _ _ _ ?_);clear hK K;refine aC fun K hK=>?_;refine aC fun K hK=>Rg ?_;refine S0 ?_;refine HS rfl rfl fun K' hK'=>T5 ?_;refine bI (args:=[_]) (dP L a 2 (by omega) (by omega)) rfl (by simp) ⟨rfl,rfl,rfl,rfl⟩ ?_;rintro u v' ⟨x,a1,rfl,rfl,h1,h2,h3,h4⟩;refine AX (hK' _ _ ?_);clear hK' K';iterate 2 refine S0 ?_
 refine T2 (hK _ _ _ ?_);clear hK K;refine aL ?_;have hx2:=h4 (by omega);obtain⟨m,hm⟩: ∃m:Nat,IntKind.i64.wrap (1+x)=m∧1≤m∧m≤2:=⟨(1+x).toNat,by rw[IntWalk.i64_in _ (by omega)];omega,by omega,by omega⟩;obtain⟨hm,hm1,hm2⟩:=hm;rw[hm];clear hm h3 h4;refine tZ 13 2 54 5 rfl rfl rfl rfl ?_;refine dU [] ?_;refine bF (α:={w:List Pr×Nat×Nat//MadeRs w.2.1 w.1∧w.2.2+460*w.2.1≤a+921}) (fun w=>(fin [(0,.ptr 0 0),(4,.ptr 1 0),(5,.ptr 13 0),(6,.c (.int .i64 w.1.2.1))],fob [(0,.box 83 (.c (tp L w.1.2.2))),(1,.box 45 (.c (.agg [.str [],.int .i64 0,.slc []]))),(13,.box 45 (.agg [.c (.str [112]),.c (.int .i64 v),.own 37 w.1.1.length])),(37,.row 54 5 (w.1.1.map Pr.cv))])) 20000 (fun w=>w.1.2.1) ⟨([],m,a1),MadeRs.zero hm1 hm2,by simp only;omega⟩ (aN (by omega) (by simp[aY,fY,fin_at,finA_at,upd_at,fob_at,HV.close,HV.closeL,CV.denil,CV.denilL,HV.men,HV.menL,HV.norm,HV.toC,HV.toCL]) (by simp[aW,fZ,fob_at,upd_at,none0_at,bW,HO.close,HV.close,HV.closeL,HO.men,HV.men,HV.menL,HV.norm,HV.toC,HV.toCL,CV.denil,CV.denilL,tp,denilL_int])) ?_;rintro⟨⟨rs,n,a2⟩,hrs,ha2⟩;simp only at hrs ha2;refine aC fun K hK=>?_;refine R0 ?_;refine aJ (b:=decide ((0:Int)<n)) rfl (fun hb=>?_) (fun hb=>?_)
 ·
  have hn0:0<n:=by simp at hb;omega
  clear hb;have hn2:n≤2:=by have:=hrs.two;omega
  obtain⟨hw1,hw2⟩:=bZ7 hn2;refine aK ?_;refine T0 (hK _ _ _ ?_);clear hK K;refine aC fun K hK=>?_;refine aL ?_;refine aC fun K hK=>eL mixed [(0,[],[]),(1,[],[]),(2,[],[]),(3,[],[]),(4,[],[]),(5,[],[]),(6,[3],[]),(7,[3],[]),(9,[3,7],[]),(10,[3,7],[]),(12,[3,7,10],[]),(14,[3,7,10],[]),(15,[3,7,10],[]),(16,[3,7,10],[]),(18,[3,7,10,16],[]),(8,[3,10,16,18],[0,1,2,3,4,5,9,10,12,14,15,16,18]),(11,[3,16,18],[0,1,2,3,4,5,12,14,15,16,18]),(13,[3,16,18],[0,1,2,3,4,5,14,15,16,18]),(17,[18],[]),(19,[],[])] [0,1,3,7,15,31,0,0,192,0,0,1984,0,8128,0,16384,49152,131071,0,524287] (by kernel_rfl) (by kernel_rfl) (by kernel_rfl) (by kernel_rfl) rfl (by kernel_rfl) ?_;have F:=aI hw1 (aI hw2 @eI);iterate 3 refine WGF ?_
  refine eO (g:=none) 20020 rfl rfl fun K' hK'=>?_;simp only[eX,gZ,sH,↓sP,sA,tyS,simprocAttr,hw1,hw2,eI];repeat refine AI ?_
  refine cF (by first|rfl|simp) ?_;try simp only[sH,↓sP,sA,tyS,simprocAttr,hw1,hw2,eI]
  refine AX (hK' _ _ ?_);clear hK' K';iterate 3 refine WGF ?_
  refine eO (g:=none) 20036 rfl rfl fun K' hK'=>?_;simp only[eX,gZ,sH,↓sP,sA,tyS,simprocAttr,hw1,hw2,eI];repeat refine AI ?_
  refine cF (by first|rfl|simp) ?_;try simp only[sH,↓sP,sA,tyS,simprocAttr,hw1,hw2,eI]
  refine AX (hK' _ _ ?_);clear hK' K';refine WGF ?_;refine eO (g:=none) 20048 rfl rfl fun K' hK'=>?_;simp only[eX,gZ,sH,↓sP,sA,tyS,simprocAttr,hw1,hw2,eI];repeat refine AI ?_
  refine cF (by first|rfl|simp) ?_;try simp only[sH,↓sP,sA,tyS,simprocAttr,hw1,hw2,eI]
  refine AX (hK' _ _ ?_);clear hK' K';iterate 3 refine WGF ?_
  refine eO (g:=none) 20072 rfl rfl fun K' hK'=>?_;simp only[eX,gZ,sH,↓sP,sA,tyS,simprocAttr,hw1,hw2,eI];repeat refine AI ?_
  refine cF (by first|rfl|simp) ?_;try simp only[sH,↓sP,sA,tyS,simprocAttr,hw1,hw2,eI]
  refine AX (hK' _ _ ?_);clear hK' K';refine WGF ?_;refine eG (g:=none) rfl rfl fun K' hK'=>T6 ?_;refine bI (args:=[_]) (qO L a2 pkA (by omega) (by decide)) rfl (by simp) ⟨rfl,rfl,rfl,rfl⟩ ?_;rintro u v' ⟨b,a3,rfl,hb,rfl,hb3⟩;refine AX (hK' _ _ ?_);clear hK' K';refine eG (g:=none) rfl rfl fun K' hK'=>T6 ?_;refine bI (args:=[_]) (qO L a3 pkB (by omega) (by decide)) rfl (by simp) ⟨rfl,rfl,rfl,rfl⟩ ?_;rintro u v' ⟨c,a4,rfl,hc,rfl,hb4⟩;refine AX (hK' _ _ ?_);clear hK' K';refine eG (g:=none) rfl rfl fun K' hK'=>T6 ?_;refine bI (args:=[_]) (dP L a4 20 (by omega) (by omega)) rfl (by simp) ⟨rfl,rfl,rfl,rfl⟩ ?_;rintro u v' ⟨g,a5,rfl,rfl,g1,g2,g3,g4⟩;have g5:=g4 (by omega);have hrl:rs.length≤2:=by have:=hrs.two;omega
  refine AX (hK' _ _ ?_);clear hK' K';iterate 2 refine WGF ?_
  refine T2 (hK _ _ _ ?_);clear hK K;refine aC fun K hK=>?_;have key: ∀(cl:List Nat) (T:List Nd) (a7:Nat) fr ob nx,(T=dfT∨Made 3 0 T)→a7≤a2+404→Fits 1 (clF ob cl fr) (clO ob cl) (fin [(0,.ptr 0 0),(4,.ptr 1 0),(5,.ptr 13 0),(6,.c (.int .i64 n)),(7,.ptr 20080 0)]) (fob [(0,.box 83 (.c (tp L a7))),(1,.box 45 (.c (.agg [.str [],.int .i64 0,.slc []]))),(13,.box 45 (.agg [.c (.str [112]),.c (.int .i64 v),.own 37 rs.length])),(37,.row 54 5 (rs.map Pr.cv)),(20080,.box 54 (.c (Pr.cv ⟨rN n,b,c,g,T⟩)))]) 30000→K fr ob nx:=by
   rintro cl T a7 fr ob nx hT ha7 hf;refine hK _ _ _ (dU cl (bG hf ?_));clear hf hK K;obtain⟨R,hR⟩: ∃R:Pr,R=⟨rN n,b,c,g,T⟩:=⟨_,rfl⟩;have hRm:MadeR R:=by rw[hR];exact bR5 (by omega) hb hc ⟨g2,g5⟩ hT
   rw[←hR];refine Rg ?_;have F:=@Pr.cells;iterate 7 refine SF ?_
   refine T2 (hK _ _ _ ?_);clear hK K;refine aM (by kernel_rfl) ?_;refine TQ (show IntKind.i64.wrap ((n:Int)-1)=((n-1:Nat):Int)from by rw[IntWalk.i64_in _ (by omega)];omega) ?_;have hnx:MadeRs (n-1) (rs++[R]):=MadeRs.next (n:=n-1) (by rw[Nat.sub_add_cancel hn0];exact hrs) hRm (by rw[hR,Nat.sub_add_cancel hn0]);refine⟨⟨(rs++[R],n-1,a7),hnx,by simp only;omega⟩,fF,?_⟩;show n-1<n;omega
  refine aC fun K hK=>Rg ?_;refine S0 ?_;refine HS rfl rfl fun K' hK'=>T5 ?_;refine bI (args:=[_]) (dP L a5 2 (by omega) (by omega)) rfl (by simp) ⟨rfl,rfl,rfl,rfl⟩ ?_;rintro u v' ⟨y,a6,rfl,rfl,y1,y2,y3,y4⟩;refine AX (hK' _ _ ?_);clear hK' K';refine S0 ?_;refine T2 (hK _ _ _ ?_);clear hK K;refine aJ (b:=_) rfl (fun hb=>?_) (fun hb=>?_)
  ·
   refine Rg ?_;refine S0 ?_;refine HS rfl rfl fun K' hK'=>T5 ?_;refine fT [0] (bR4 L a6 (by omega)) rfl ⟨rfl,trivial⟩ (by simp) (by simp) ⟨rfl,rfl,rfl,rfl⟩ (by simp[eC,HO.men,HV.men,HV.menL]) (by simp[HV.menL,HV.men]) ?_;rintro r os' ⟨T,a7,rfl,rfl,hT,ha7⟩;rw[bA0,bR3];refine AX (hK' _ _ ?_);clear hK' K';iterate 2 refine S0 ?_
   refine T4 ?_;exact key [20104] T a7 _ _ _ (.inr hT) (by omega) (aN (by omega) (by simp[aY,fY,fin_at,finA_at,upd_at,fob_at,HV.close,HV.closeL,CV.denil,CV.denilL,denilL_Nd,HV.men,HV.menL,HV.norm,HV.toC,HV.toCL]) (by simp[aW,fZ,fob_at,upd_at,none0_at,bW,HO.close,HV.close,HV.closeL,HO.men,HV.men,HV.menL,HV.norm,HV.toC,HV.toCL,CV.denil,CV.denilL,denilL_Nd,Pr.cv,Po.cv,tp,denilL_int,rN]))
  refine aK (T3 ?_);exact key [] dfT a6 _ _ _ (.inl rfl) (by omega) (aN (by omega) (by simp[aY,fY,fin_at,finA_at,upd_at,fob_at,HV.close,HV.closeL,CV.denil,CV.denilL,denilL_Nd,HV.men,HV.menL,HV.norm,HV.toC,HV.toCL]) (by simp[aW,fZ,fob_at,upd_at,none0_at,bW,HO.close,HV.close,HV.closeL,HO.men,HV.men,HV.menL,HV.norm,HV.toC,HV.toCL,CV.denil,CV.denilL,denilL_Nd,Pr.cv,Po.cv,tp,denilL_int,rN,dfT,Nd.cv,Rq.cv]))
 refine bA (T3 ?_);clear hK K;refine AX (hK _ _ _ ?_);clear hK K;refine R0 ?_;refine aF (RT Tryz.results31 ?_);have hn:n=0:=by simp at hb;omega
 subst hn;refine⟨rfl,?_⟩;exact eW [37] (Po.mk [112] v rs).cv (tp L a2) (by simp[HV.close,HV.closeL,Po.cv,CV.denil,CV.denilL,denilL_Pr,HV.norm,HV.toC,HV.toCL,fob_at,upd_at]) rfl (by simp[HV.close,HV.closeL,tp,CV.denil,CV.denilL,denilL_int,HV.norm,HV.toC,HV.toCL]) (by simp) ⟨rs,a2,rfl,rfl,hrs,by omega⟩
theorem cB7 {α:Type}(l:List (List UInt8))(j:Nat)(p:List UInt8)(r:List (List UInt8))(h:l.drop j=p::r): ∃hj:j<(l.map fun p=>[CV.slc (p.map u8)]).length,(l.map fun p=>[CV.slc (p.map u8)])[j]=[CV.slc (p.map u8)]∧l.drop (j+1)=r:=by
 have hj:j<l.length:=by
  rcases Nat.lt_or_ge j l.length with h'|h'
  · exact h'
  rw[List.drop_eq_nil_of_le h']at h;cases h
 have h1:=List.drop_eq_getElem_cons hj;rw[h1]at h;cases h;exact⟨by simpa using hj,by simp,rfl⟩
theorem aU5 (l:List UInt8)(c:UInt8)(hl:l.length<2^40):aD2 Tryz.prog 126 [(47,.slc [u8 c]),(47,.slc (l.map u8)),(3,.int .i64 0)] ((aR c l).map fun p=>[.slc (p.map u8)]):=by
 refine yX Tryz.func126 rfl (by kernel_rfl) (Nat.le_of_ble_eq_true rfl) rfl fun L J hS hY=>?_;have e0:jO [(47,CV.slc [u8 c]),(47,.slc (l.map u8)),(3,.int .i64 0)]=fob [(0,.box 47 (.c (.slc [u8 c]))),(1,.box 47 (.c (.slc (l.map u8)))),(2,.box 3 (.c (.int .i64 0)))]:=by
  funext i
  match i with
  |0=>rfl
  |1=>rfl
  |2=>rfl
  |i+3=>simp[jO,fob,upd]
 have e1:gM (List.range [((47:Nat),CV.slc [u8 c]),(47,.slc (l.map u8)),(3,.int .i64 0)].length)=[.ptr 0 0,.ptr 1 0,.ptr 2 0]:=rfl;rw[e0,e1];refine eQ fun K hK=>?_;refine eQ fun K1 hK1=>mY hS rfl (aM (by kernel_rfl) ?_);simp only[sR,simprocAttr];have F:=rI;iterate 3 refine SF ?_
 simp only[sE,↓reduceIte,simprocAttr,rI];refine hK1 _ _ _ _ _ ?_;clear hK1 K1;refine jD (b:=false) rfl (fun hb=>by cases hb) (fun _=>?_);refine mZ ?_;simp only[sE,↓reduceIte,simprocAttr,rI];refine hK _ _ _ _ _ ?_;clear hK K;refine eQ fun K hK=>?_;refine oB ?_;refine aK6 (α:={y:Nat×List UInt8//(aR c l).drop y.1=aR c y.2∧y.2.length≤l.length}) hS (fun y=>(fin [(0,.opq (.func (.yield L) #[] #[])),(1,.ptr 0 0),(2,.ptr 1 0),(3,.ptr 2 0)],fob [(0,.box 47 (.c (.slc [u8 c]))),(1,.box 47 (.c (.slc (y.1.2.map u8)))),(2,.box 3 (.c (.int .i64 0)))])) (fun y=>y.1.1) 100 (fun y=>y.1.2.length) ⟨(0,l),rfl,Nat.le_refl _⟩ rfl (fF) rfl ?_;rintro⟨⟨j,rest⟩,hsp,hle⟩;simp only at hsp hle;refine oB ?_;refine eQ fun K1 hK1=>mY hS rfl (aM (by kernel_rfl) ?_);simp only[sR,simprocAttr];iterate 2 refine SF ?_
 have F:=aI rI @denilL_u8;refine HS rfl rfl fun K' hK'=>T6 ?_;refine C2 (zA rest c) ?_;rintro u rfl;refine AX (hK' _ _ ?_);clear hK' K';have F:=rI;refine SF ?_;simp only[sE,↓reduceIte,simprocAttr,rI];refine hK1 _ _ _ _ _ ?_;clear hK1 K1;refine eQ fun K1 hK1=>?_;refine eQ fun K2 hK2=>mY hS rfl (aM (by kernel_rfl) ?_);simp only[sR,simprocAttr];iterate 2 refine SF ?_
 simp only[sE,↓reduceIte,simprocAttr,rI];refine hK2 _ _ _ _ _ ?_;clear hK2 K2;refine jD (b:=decide (cX rest c<0)) rfl (fun hb=>?_) (fun hb=>?_)
 ·
  have hn:cX rest c<0:=by simpa using hb
  rw[mV hn]at hsp;obtain⟨hj,hx,hd⟩:=cB7 (α:=Nat) _ _ _ _ hsp;refine aK5 ?_;simp only[sE,↓reduceIte,simprocAttr,rI];clear hK1 K1;refine hK _ _ _ _ _ ?_;clear hK K;have htk:List.take rest.length (rest.map u8)=rest.map u8:=List.take_of_length_le (by simp);refine rO (l:=L) 7 hS hY rfl (by kernel_rfl) (by decide) ?_;simp only[sR,List.range',simprocAttr];have F:=aI rI @List.length_map.{0,0};iterate 6 refine SF ?_
  refine S0 ?_ (e:=fun _ h_=>by simp only[sH,↓sP,sA,tyS,simprocAttr,rI,htk,List.length_map,↓hslice3.eq_def,Int.natCast_nonneg,mT,List.drop_zero,Nat.sub_zero,Int.le_refl,Int.toNat_zero];exact AX h_);rw[hlex];refine⟨_,_,_,hj,rfl,rfl,rfl,rfl,rfl,?_,?_,?_⟩
  · rw[hx];rfl
  · simp only[sR,List.range',simprocAttr];rw[hlex];refine⟨by simp,fun _=>?_⟩;have:=List.drop_eq_nil_iff.1 hd;simp only[List.length_map]at hj⊢;omega
  simp only[sR,List.range',simprocAttr];rw[hlex];exact⟨by simp,fun h=>by cases h⟩
 have hn: ¬cX rest c<0:=by simpa using hb
 obtain⟨k,hk,hkl,hsp2⟩:=dJ hn;rw[hk];rw[hsp2]at hsp;obtain⟨hj,hx,hd⟩:=cB7 (α:=Nat) _ _ _ _ hsp;have hkm:min k rest.length=k:=by omega
 have ek:List.take k (rest.map u8)=(rest.take k).map u8:=List.map_take.symm;have htk:List.take k ((rest.take k).map u8)=(rest.take k).map u8:=List.take_of_length_le (by simp;omega);have hw1:IntKind.i64.wrap ((k:Int)+1)=((k+1:Nat):Int):=by rw[IntWalk.i64_in _ (by omega)];rfl
 have hkl1:k+1≤rest.length:=hkl;have edr:List.take (rest.length-(k+1)) (List.drop (k+1) (rest.map u8))=(rest.drop (k+1)).map u8:=by rw[List.map_drop,List.take_of_length_le (by simp)]
 refine mZ ?_;simp only[sE,↓reduceIte,simprocAttr,rI];refine hK1 _ _ _ _ _ ?_;clear hK1 K1;refine eQ fun K1 hK1=>mY hS rfl (aM (by kernel_rfl) ?_);simp only[sR,simprocAttr];iterate 6 refine S0 ?_ (e:=fun _ h_=>by simp only[sH,↓sP,sA,tyS,simprocAttr,rI,ek,List.length_map,Int.natCast_nonneg,mT,Int.add_zero,Int.ofNat_le,Nat.le_of_lt hkl,List.drop_zero,Nat.sub_zero,show IntKind.i64.wrap (k:Int)=(k:Int)from IntWalk.i64_in _ (by omega)];exact AX h_)
 simp only[sE,↓reduceIte,simprocAttr,rI];refine hK1 _ _ _ _ _ ?_;clear hK1 K1;refine eQ fun K1 hK1=>?_;refine eQ fun K2 hK2=>rO (l:=L) 7 hS hY rfl (by kernel_rfl) (by decide) ?_;simp only[sR,List.range',simprocAttr];have F:=aI rI (aI @List.length_map.{0,0} (aI @List.length_take.{0} hkm));iterate 6 refine SF ?_
 refine S0 ?_ (e:=fun _ h_=>by simp only[sH,↓sP,sA,tyS,simprocAttr,rI,htk,List.length_map,List.length_take,hkm,↓hslice3.eq_def,Int.natCast_nonneg,mT,List.drop_zero,Nat.sub_zero,Int.le_refl,Int.toNat_zero];exact AX h_);rw[hlex];refine⟨_,_,_,hj,rfl,rfl,rfl,rfl,rfl,?_,?_,?_⟩
 · rw[hx];rfl
 ·
  simp only[sR,List.range',simprocAttr];have F:=rI;refine SF ?_;simp only[sE,↓reduceIte,simprocAttr,rI];refine hK2 _ _ _ _ _ ?_;clear hK2 K2;refine jD (b:=false) rfl (fun hb=>by cases hb) (fun _=>?_);refine mZ ?_;simp only[sE,↓reduceIte,simprocAttr,rI];refine hK1 _ _ _ _ _ ?_;clear hK1 K1;refine mY hS rfl (aM (by kernel_rfl) ?_);simp only[sR,simprocAttr];have F:=aI rI (aI edr (aI hw1 (aI @List.length_map.{0,0} (aI @Int.natCast_nonneg (aI @mT (aI @Int.ofNat_le (aI hkl1 @denilL_u8)))))));iterate 7 refine SF ?_
  simp only[sE,↓reduceIte,simprocAttr,rI];refine⟨⟨(j+1,rest.drop (k+1)),hd,by simp;omega⟩,fF,trivial,rfl,?_⟩;show(rest.drop (k+1)).length<rest.length;simp;omega
 simp only[sR,List.range',simprocAttr];have F:=rI;refine SF ?_;simp only[sE,↓reduceIte,simprocAttr,rI];refine hK2 _ _ _ _ _ ?_;clear hK2 K2;refine jD (b:=true) rfl (fun _=>?_) (fun hb=>by cases hb);refine aX4 ?_;simp only[sE,↓reduceIte,simprocAttr,rI];exact⟨by simp,fun h=>by cases h⟩
theorem cF0 (s:aH)(hl:s.length<2^40):lK Tryz.prog 87 [.str s] (fun u v=>u= .str ((unW s).getD [])∧v= .bool (unW s).isSome):=by
 refine FW Tryz.func87 ?_;refine R0 ?_;refine aC fun K hK=>?_;refine R0 ?_;refine aJ (b:=s==[126]) rfl (fun hb=>?_) (fun hb=>?_)
 ·
  refine R0 ?_;refine aF (RT Tryz.results87 ?_);have hs:s=[126]:=by simpa using hb
  subst hs;exact bD [] (.str []) (.bool true) rfl ⟨rfl,rfl⟩
 refine aK ?_;refine T0 (hK _ _ _ ?_);clear hK K;have hne:s≠[126]:=by simpa using hb
 clear hb;refine R0 ?_;refine aC fun K hK=>?_;refine R0 ?_;refine aL ?_;refine rE 4 0 5 1 rfl rfl rfl rfl ?_;refine bF (α:={y:Nat×aH//UnSt s y.1 y.2}) (fun y=>(fin [(0,.c (.str s)),(4,.own 24 y.1.2.length),(5,.c (.int .i64 y.1.1))],fob [(24,.row 5 1 (y.1.2.map eA))])) 100 (fun y=>s.length-y.1.1) ⟨(0,[]),UnSt.init s⟩ (fF) ?_;rintro⟨⟨i,out⟩,hst⟩;simp only at hst;have hi:=hst.1;have ho:=hst.2.2.2;refine aC fun K hK=>?_;refine aC fun K hK=>Rg ?_;iterate 4 refine S0 ?_
 refine T2 (hK _ _ _ ?_);clear hK K;refine aJ (b:=decide ((i:Int)<s.length)) rfl (fun hb=>?_) (fun hb=>?_)
 ·
  have hlt:i<s.length:=by simpa using hb
  clear hb;have hgd:s.getD i 0=s[i]:=by simp[hlt]
  refine aK ?_;refine T0 (hK _ _ _ ?_);clear hK K;refine aC fun K hK=>?_;refine aL ?_;refine aC fun K hK=>?_;refine aC fun K hK=>Rg ?_;iterate 3 refine S0 ?_ (e:=fun _ h_=>by simp only[sH,↓sP,sA,tyS,simprocAttr,Int.natCast_nonneg,Int.ofNat_lt,hlt,hgd];exact AX h_)
  refine HS rfl rfl fun K' hK'=>?_;simp only[sH,↓sP,sA,tyS,simprocAttr,Int.natCast_nonneg,Int.ofNat_lt,hlt,hgd];refine C1 (pZ s[i]) ?_;rintro u rfl;refine AX (hK' _ _ ?_);clear hK' K';refine T2 (hK _ _ _ ?_);clear hK K;refine aJ (b:=cS s[i]) rfl (fun hb=>?_) (fun hb=>?_)
  ·
   refine aC fun K hK=>Rg ?_;iterate 7 refine S0 ?_ (e:=fun _ h_=>by simp only[sH,↓sP,sA,tyS,simprocAttr,Int.natCast_nonneg,Int.ofNat_lt,hlt,hgd,List.length_append,List.length_map];exact AX h_)
   refine T2 (hK _ _ _ ?_);clear hK K;refine bA (T3 ?_);clear hK K;refine AX (hK _ _ _ ?_);clear hK K;refine aM (by kernel_rfl) ?_;refine TQ (jP i) ?_;refine⟨⟨(i+1,out++[s[i]]),hst.plain hlt hb⟩,aN (by omega) ?_ ?_,?_⟩
   · simp[aY,upd_at,fin_at,HV.men]
   · simp only[aW,List.map_append];exact⟨rfl,by omega,trivial,trivial⟩
   show s.length-(i+1)<s.length-i;omega
  refine aK ?_;refine T0 (hK _ _ _ ?_);clear hK K;refine aC fun K hK=>?_;have hp:cS s[i]=false:=hb;clear hb;have hw1:IntKind.i64.wrap ((i:Int)+1)=((i+1:Nat):Int):=by rw[IntWalk.i64_in _ (by omega)];rfl
  have hw2:IntKind.i64.wrap ((i:Int)+2)=((i+2:Nat):Int):=by rw[IntWalk.i64_in _ (by omega)];rfl
  have hw3:IntKind.i64.wrap (((i+2:Nat):Int)+1)=((i+3:Nat):Int):=by rw[IntWalk.i64_in _ (by omega)];rfl
  refine aC fun K hK=>Rg ?_;iterate 5 refine S0 ?_ (e:=fun _ h_=>by simp only[sH,↓sP,sA,tyS,simprocAttr,Int.natCast_nonneg,Int.ofNat_lt,hlt,hgd,hw2];exact AX h_)
  refine aE 29 rfl (fun h9_29=>?_) (fun h9_29=>?_)
  ·
   iterate 6 refine S0 ?_ (e:=fun _ h_=>by simp only[sH,↓sP,sA,tyS,simprocAttr,Int.natCast_nonneg,Int.ofNat_lt,hlt,hgd,hw2,h9_29];exact AX h_)
   refine T2 (hK _ _ _ ?_);clear hK K;refine CT rfl ?_;refine R0 ?_;refine aF (RT Tryz.results87 ?_);have h37:s[i]≠37:=by rintro h;rw[h]at h9_29;simp at h9_29
   have hn:=mW (hst.bad1 hlt hp (.inl h37)) hne;exact bD [] (.str []) (.bool false) rfl ⟨by rw[hn];rfl,by rw[hn];rfl⟩
  iterate 6 refine S0 ?_ (e:=fun _ h_=>by simp only[sH,↓sP,sA,tyS,simprocAttr,Int.natCast_nonneg,Int.ofNat_lt,hlt,hgd,hw2,h9_29];exact AX h_)
  refine aE 35 rfl (fun h9_35=>?_) (fun h9_35=>?_)
  ·
   simp only[h9_35];refine T2 (hK _ _ _ ?_);clear hK K;refine CT rfl ?_;refine R0 ?_;refine aF (RT Tryz.results87 ?_);have hi2:s.length≤i+2:=by simp at h9_35;omega
   have hn:=mW (hst.bad1 hlt hp (.inr hi2)) hne;exact bD [] (.str []) (.bool false) rfl ⟨by rw[hn];rfl,by rw[hn];rfl⟩
  simp only[h9_35];refine T2 (hK _ _ _ ?_);clear hK K;refine CF rfl ?_;refine aK ?_;refine T0 (hK _ _ _ ?_);clear hK K;have h37:s[i]=37:=by
   simp only[bne_eq_false_iff_eq]at h9_29;exact UInt8.toNat_inj.1 (by show s[i].toNat=37;omega)
  have hi2:i+2<s.length:=by simp at h9_35;omega
  have hi1:i+1<s.length:=by omega
  have hg1:s.getD (i+1) 0=s[i+1]:=by simp[hi1]
  have hg2:s.getD (i+2) 0=s[i+2]:=by simp[hi2]
  refine aC fun K hK=>DW [(0,[],[]),(1,[],[]),(2,[],[]),(3,[],[]),(5,[],[]),(6,[],[]),(7,[],[]),(8,[],[]),(4,[],[5,6,7,8]),(9,[],[]),(10,[],[]),(11,[],[])] [0,0,2,7,15,0,0,64,224,511,1023,2047] ?_;have F:=aI @Int.natCast_nonneg (aI @Int.ofNat_lt (aI hw1 (aI hw2 (aI hg1 (aI hg2 (aI hi1 (aI hi2 (aI h9_29 h9_35))))))));iterate 8 refine WF ?_
  refine cC (g:=none) rfl rfl fun K' hK'=>T6 ?_;refine C2 (qA bU4 s[i+1]) ?_;rintro u rfl;refine AX (hK' _ _ ?_);clear hK' K';refine cC (g:=none) rfl rfl fun K' hK'=>T6 ?_;refine C2 (qA bU4 s[i+2]) ?_;rintro u rfl;refine AX (hK' _ _ ?_);clear hK' K';iterate 2 refine WF ?_
  refine T2 (hK _ _ _ ?_);clear hK K;refine aC fun K hK=>?_;by_cases hx:valH s[i+1]<16
  ·
   by_cases hy:valH s[i+2]<16
   ·
    rw[pT,pT,if_pos hx,if_pos hy];have hx0:decide (((valH s[i+1]:Nat):Int)<0)=false:=by simp
    have hy0:decide (((valH s[i+2]:Nat):Int)<0)=false:=by simp
    have e1:IntKind.i64.wrap (16*((valH s[i+1]:Nat):Int))=((16*valH s[i+1]:Nat):Int):=by rw[IntWalk.i64_in _ (by omega)];omega
    have e2:IntKind.i64.wrap (((16*valH s[i+1]:Nat):Int)+((valH s[i+2]:Nat):Int))=((16*valH s[i+1]+valH s[i+2]:Nat):Int):=by rw[IntWalk.i64_in _ (by omega)];omega
    have e3:IntKind.u8.wrap ((16*valH s[i+1]+valH s[i+2]:Nat):Int)=((byteH s[i+1] s[i+2]).toNat:Int):=by rw[IntWalk.u8_in _ (by omega),yP hx hy]
    refine aC fun K hK=>Rg ?_;have F:=aI hx0 (aI hy0 (aI e1 (aI e2 (aI e3 (aI h9_29 h9_35)))));iterate 12 refine SF ?_
    refine aV (g:=some (53,false)) rfl rfl fun K' hK'=>T6 ?_;refine C1 (pZ (byteH s[i+1] s[i+2])) ?_;rintro u rfl;refine AX (hK' _ _ ?_);clear hK' K';refine SF ?_;refine T2 (hK _ _ _ ?_);clear hK K;refine aJ (b:=cS (byteH s[i+1] s[i+2])) rfl (fun hb=>?_) (fun hb=>?_)
    · refine R0 ?_;refine aF (RT Tryz.results87 ?_);have hn:=mW (hst.bad2 hi2 h37 (by simp[okH,hx,hy,hb])) hne;exact bD [] (.str []) (.bool false) rfl ⟨by rw[hn];rfl,by rw[hn];rfl⟩
    refine aK ?_;refine T0 (hK _ _ _ ?_);clear hK K;refine aC fun K hK=>Rg ?_;have F:=aI @Int.natCast_nonneg (aI @List.length_append.{0} (aI @List.length_map.{0,0} (aI e1 (aI e2 (aI e3 (aI h9_29 h9_35))))));iterate 9 refine SF ?_
    refine T2 (hK _ _ _ ?_);clear hK K;refine aM (by kernel_rfl) ?_;refine TQ hw2 ?_;refine AX (hK _ _ _ ?_);clear hK K;refine aM (by kernel_rfl) ?_;refine TQ hw3 ?_;refine⟨⟨(i+3,out++[byteH s[i+1] s[i+2]]),hst.esc hi2 h37 (by simp[okH,hx,hy,hb])⟩,aN (by omega) ?_ ?_,?_⟩
    · simp[aY,upd_at,fin_at,HV.men]
    · simp only[aW,List.map_append];exact⟨rfl,by omega,trivial,trivial⟩
    show s.length-(i+3)<s.length-i;omega
   rw[pT,pT,if_pos hx,if_neg hy];have hx0:decide (((valH s[i+1]:Nat):Int)<0)=false:=by simp
   refine aC fun K hK=>Rg ?_;have F:=aI hx0 (aI h9_29 h9_35);iterate 14 refine SF ?_
   refine T2 (hK _ _ _ ?_);clear hK K;refine CT rfl ?_;refine R0 ?_;refine aF (RT Tryz.results87 ?_);have hn:=mW (hst.bad2 hi2 h37 (by simp[okH,hx,hy])) hne;exact bD [] (.str []) (.bool false) rfl ⟨by rw[hn];rfl,by rw[hn];rfl⟩
  rw[pT,if_neg hx];refine aC fun K hK=>Rg ?_;have F:=aI h9_29 h9_35;iterate 14 refine SF ?_
  refine T2 (hK _ _ _ ?_);clear hK K;refine CT rfl ?_;refine R0 ?_;refine aF (RT Tryz.results87 ?_);have hn:=mW (hst.bad2 hi2 h37 (by simp[okH,hx])) hne;exact bD [] (.str []) (.bool false) rfl ⟨by rw[hn];rfl,by rw[hn];rfl⟩
 refine bA (T3 ?_);clear hK K;refine AX (hK _ _ _ ?_);clear hK K;have hei:i=s.length:=by simp at hb;omega
 have hfin:=hst.fin hei hne;refine dU [24] (bG (fr2:=fin [(4,.c (.slc (out.map eA)))]) (ob2:=fob []) (nx2:=200) (aN (by omega) (by simp[aY,fY,fin_at,finA_at,upd_at,fob_at,HV.close,HV.closeL,CV.denil,CV.denilL,dV,HV.men,HV.menL,HV.norm,HV.toC,HV.toCL]) (by simp[aW,fZ,fob_at,upd_at,none0_at,bW,HO.close,HV.close,HV.closeL,HO.men,HV.men,HV.menL,HV.norm,HV.toC,HV.toCL])) ?_);refine aC fun K hK=>Rg ?_;have F:=aI @bytesC_map @List.length_map.{0,0};iterate 7 refine SF ?_
 refine T2 (hK _ _ _ ?_);clear hK K;refine aF (RT Tryz.results87 ?_);refine bD [] (.str out) (.bool (decide (0<(out.length:Int)))) rfl ?_;rw[hfin];by_cases ho0:out=[]
 · subst ho0;simp
 have:0<out.length:=List.length_pos_iff.2 ho0;simp[ho0,this]
def lsC (l:List aH):CV:= .slc (l.map .str)
theorem kZ (l:List aH):(lsC l).cells=1:=rfl
theorem lA (l:List aH):(lsC l).denil=lsC l:=by simp only[lsC,CV.denil,denilL_str]
theorem aS (l:List (List aH)):CV.denilL (l.map lsC)=l.map lsC:=cB lA l
theorem cF1 (b:aH)(hl:b.length<2^40):lK Tryz.prog 62 [.slc (b.map u8)] (fun u v=>u= .slc ((fI b).map lsC)∧v= .int .i64 (iK b)):=by
 refine FW Tryz.func62 ?_;have F:=rI;refine RF ?_;refine bK6 ?_;refine aC fun K hK=>?_;have F:=aI rI @List.length_map.{0,0};refine RF ?_;refine aJ (b:=decide ((262144:Int)<b.length)) rfl (fun hb=>?_) (fun hb=>?_)
 ·
  have F:=rI;refine RF ?_;refine aF ?_;simp only[gK,Tryz.results62,fL,gJ,eV,↓sP,sA,tyS,simprocAttr,rI];have hE:iK b=3:=by unfold iK;rw[if_pos (by simp at hb;omega)]
  refine bD [] (.slc []) (.int .i64 3) ?_ ⟨by simp only[fI,hE];rfl,by rw[hE]⟩;simp[HV.close,HV.closeL,CV.denil,CV.denilL,HV.norm,HV.toC,HV.toCL]
 refine aK ?_;refine TQ rI ?_;refine AX (hK _ _ _ ?_);clear hK K;have hle:b.length≤262144:=by simp at hb;omega
 clear hb;have F:=rI;refine RF ?_;refine RF ?_;refine aC fun K hK=>?_;refine bI2 ?_;try simp only[↓sP,sA,tyS,simprocAttr,rI]
 refine AX (hK _ _ _ ?_);clear hK K;refine aC fun K hK=>?_;have key: ∀(ok:Bool) (ls:List (List aH)) fr ob nx,(ok=true→gA b=some ls)→(ok=false→gA b=none)→ls.length≤b.length→Fits 0 fr ob (fin [(4,.own 32 ls.length),(5,.ptr 24 0)]) (fob [(24,.box 4 (.c (.bool ok))),(32,.row 60 1 (ls.map lsC))]) 1000→K fr ob nx:=by
  intro ok ls fr ob nx h1 h2 h3 hf;refine hK _ _ _ (bG hf ?_);clear hf hK K;refine aC fun K hK=>?_;cases ok
  ·
   refine aC fun K hK=>Rg ?_;have F:=aI rI @List.length_map.{0,0};iterate 7 refine SF ?_
   simp only[sE,↓reduceIte,simprocAttr,rI];refine AX (hK _ _ _ ?_);clear hK K;refine CT rfl ?_;have F:=rI;refine RF ?_;refine aF ?_;simp only[gK,Tryz.results62,fL,gJ,eV,↓sP,sA,tyS,simprocAttr,rI];have hE:iK b=2:=by unfold iK;rw[if_neg (by omega),h2 rfl]
   refine bD [] (.slc []) (.int .i64 2) ?_ ⟨by simp only[fI,hE];rfl,by rw[hE]⟩;simp[HV.close,HV.closeL,CV.denil,CV.denilL,HV.norm,HV.toC,HV.toCL]
  refine aC fun K hK=>Rg ?_;have F:=aI rI @List.length_map.{0,0};iterate 7 refine SF ?_
  simp only[sE,↓reduceIte,simprocAttr,rI];refine AX (hK _ _ _ ?_);clear hK K;refine aJ (b:=decide ((1000:Int)<ls.length)) rfl (fun hb=>?_) (fun hb=>?_)
  ·
   have F:=rI;refine RF ?_;refine aF ?_;simp only[gK,Tryz.results62,fL,gJ,eV,↓sP,sA,tyS,simprocAttr,rI];have hE:iK b=2:=by unfold iK;rw[if_neg (by omega),h1 rfl];simp only;rw[if_pos (by simp at hb;omega)]
   refine bD [] (.slc []) (.int .i64 2) ?_ ⟨by simp only[fI,hE];rfl,by rw[hE]⟩;simp[HV.close,HV.closeL,CV.denil,CV.denilL,HV.norm,HV.toC,HV.toCL]
  refine aK ?_;refine TQ rI ?_;refine AX (hK _ _ _ ?_);clear hK K;have F:=rI;refine RF ?_;refine aF ?_;simp only[gK,Tryz.results62,fL,gJ,eV,↓sP,sA,tyS,simprocAttr,rI];have hE:iK b=0:=by unfold iK;rw[if_neg (by omega),h1 rfl];simp only;rw[if_neg (by simp at hb;omega)]
  refine bD [32] (.slc (ls.map lsC)) (.int .i64 0) ?_ ⟨by simp only[fI,hE,h1 rfl];rfl,by rw[hE]⟩;simp[HV.close,fob_at,upd_at,HV.norm,HV.toC,HV.closeL,HV.toCL,CV.denil,aS]
 refine aL ?_;refine rE 4 0 60 1 rfl rfl rfl rfl ?_;refine bF (α:={y:aH×List (List aH)//DecSt b y.1 y.2}) (fun y=>(fin [(0,.c (.slc (y.1.1.map u8))),(4,.own 32 y.1.2.length),(5,.ptr 24 0)],fob [(24,.box 4 (.c (.bool true))),(32,.row 60 1 (y.1.2.map lsC))])) 100 (fun y=>y.1.1.length) ⟨(b,[]),DecSt.init b⟩ (fF) ?_;rintro⟨⟨rest,ls⟩,hst⟩;simp only at hst;have hr1:=hst.2.1;have hr2:=hst.2.2;refine aC fun K hK=>?_;have F:=aI rI @List.length_map.{0,0};refine RF ?_;refine aJ (b:=decide ((0:Int)<rest.length)) rfl (fun hb=>?_) (fun hb=>?_)
 ·
  refine aK ?_;refine TQ rI ?_;refine AX (hK _ _ _ ?_);clear hK K;refine aL ?_;have hne:rest≠[]:=by rintro rfl;simp at hb
  clear hb;refine aC fun K hK=>bH (by kernel_rfl) ?_;simp only[sR,simprocAttr];have F:=aI rI @denilL_u8;refine SGF ?_;refine cH (g:=none) 116 rfl rfl fun K' hK'=>?_;simp only[eX,gZ,sH,↓sP,sA,tyS,simprocAttr,rI,denilL_u8];repeat refine AI ?_
  refine cF (by first|rfl|simp) ?_;try simp only[sH,↓sP,sA,tyS,simprocAttr,rI,denilL_u8]
  refine AX (hK' _ _ ?_);clear hK' K';refine bK (g:=none) rfl rfl fun K' hK'=>T6 ?_;refine oV (args:=[_,_]) (bV1 rest 10 (by omega)) ⟨rfl,rfl,rfl,rfl⟩ ?_;rintro u v x ⟨li,re,fd,rfl,rfl,rfl,hcut⟩;have hlt:=hcut.lt hne;refine AX (hK' _ _ ?_);clear hK' K';iterate 7 refine SGF ?_
  simp only[sE,↓reduceIte,simprocAttr,rI];refine AX (hK _ _ _ ?_);clear hK K;have F:=rI;refine RF ?_;refine aC fun K hK=>?_;refine aC fun K hK=>bH (by kernel_rfl) ?_;simp only[sR,simprocAttr];refine SG0 ?_ (e:=fun _ h_=>by simp only[sH,↓sP,sA,tyS,simprocAttr,rI,denilL_u8,lY,gM,List.range',List.map_cons,List.map_nil];exact AX h_);refine cH (g:=none) 160 rfl rfl fun K' hK'=>?_;simp only[eX,gZ,sH,↓sP,sA,tyS,simprocAttr,rI,denilL_u8,lY,gM,List.range',List.map_cons,List.map_nil];repeat refine AI ?_
  refine cF (by first|rfl|simp) ?_;try simp only[sH,↓sP,sA,tyS,simprocAttr,rI,denilL_u8,lY,gM,List.range',List.map_cons,List.map_nil]
  refine AX (hK' _ _ ?_);clear hK' K';refine bK (g:=none) rfl rfl fun K' hK'=>?_;simp only[sH,↓sP,sA,tyS,simprocAttr,rI,denilL_u8,lY,gM,List.range',List.map_cons,List.map_nil];refine rP (args:=[_,_]) (bD8 li 32) (by simp) ⟨rfl,rfl,rfl,rfl⟩ ?_;refine AX (hK' _ _ ?_);clear hK' K';simp only[sE,↓reduceIte,simprocAttr,rI];refine AX (hK _ _ _ ?_);clear hK K;refine aL ?_;refine tZ 152 0 9 1 rfl rfl rfl rfl ?_;refine yW (ids:=[164,165,166]) (fin [(0,.c (.slc (rest.map u8))),(4,.own 32 ls.length),(5,.ptr 24 0),(7,.c (.slc (re.map u8))),(8,.c (.bool fd)),(9,.ptr 152 0)]) (fun i=>fob [(24,.box 4 (.c (.bool true))),(32,.row 60 1 (ls.map lsC)),(152,.box 60 (.own 168 i)),(168,.row 9 1 ((wsT li i).map .str))]) 200 (fun i=>bJ6 li i) (fun p hp=>by simp at hp) (aU5 li 32 (by omega)) rfl rfl (by decide) ?_ ?_ ?_ ?_ ?_ rfl rfl ?_ ?_
  ·
   intro j x hx
   match j,hx with
   |0,hx=>cases hx;rfl
   |1,hx=>cases hx;rfl
   |2,hx=>cases hx;rfl
  · exact aN (by omega) (by simp[aY,fin_at,finA_at,upd_at,HV.men,HV.menL,HV.norm,HV.toC,HV.toCL]) (by simp[aW,fob_at,upd_at,none0_at,bW,lY,wsT,HO.men,HV.men,HV.menL,HV.norm,HV.toC,HV.toCL])
  · intro id hid;simp only[List.mem_cons,List.not_mem_nil,or_false]at hid;rcases hid with rfl|rfl|rfl<;>rfl
  · intro x hx;obtain⟨p,_,rfl⟩:=List.mem_map.1 hx;rfl
  · intro p hp;simp only[List.mem_cons,List.not_mem_nil,or_false]at hp;subst hp;exact Nat.le_of_ble_eq_true rfl
  ·
   intro i hi hΦ K hK;have hi':i<(aR 32 li).length:=by simpa using hi
   have hwl:=vS (r:=li) (Nat.le_of_lt hi');have hsl:=fM 32 li;obtain⟨p,hp⟩: ∃p,p=(aR 32 li)[i]:=⟨_,rfl⟩;have hpl:p.length≤li.length:=by rw[hp];exact vQ 32 li _ (List.getElem_mem hi')
   have hx:(List.map (fun p=>[CV.slc (List.map u8 p)]) (aR 32 li))[i]=[CV.slc (p.map u8)]:=by rw[List.getElem_map,hp]
   rw[hx];simp only[vX];have hbc:iJ (p.map u8)=some p:=bytesC_map p;refine aM (by kernel_rfl) ?_;refine TQ rI ?_;refine AX (hK _ _ _ ?_);clear hK K;refine aL ?_;refine aC fun K hK=>Rg ?_;have F:=aI rI hbc;iterate 2 refine SF ?_
   refine HS rfl rfl fun K' hK'=>T6 ?_;refine D1 (cF0 p (by omega)) ?_;rintro u v ⟨rfl,rfl⟩;refine AX (hK' _ _ ?_);clear hK' K';iterate 5 refine SF ?_
   simp only[sE,↓reduceIte,simprocAttr,rI];refine AX (hK _ _ _ ?_);clear hK K;refine aC fun K hK=>?_;have F:=rI;refine RF ?_;refine aJ (b:=!(unW p).isSome) rfl (fun hb=>?_) (fun hb=>?_)
   · refine RF ?_;refine bA ?_;refine TQ rI ?_;clear hK K;clear hK K;exact key false ls _ _ _ (fun h=>by cases h) (fun _=>hst.bad hcut hne (bJ8 hi' (by rw[←hp];simpa using hb))) (by omega) (fF)
   refine aK ?_;refine TQ rI ?_;refine AX (hK _ _ _ ?_);clear hK K;refine Rg ?_;have F:=aI rI (aI @List.length_append.{0} (aI @List.length_map.{0,0} hwl));iterate 5 refine SF ?_
   simp only[sE,↓reduceIte,simprocAttr,rI];refine⟨(show Fits 200 _ _ (fin []) _ 200 from aN (by omega) trivial ?_),bC8 hi' hΦ (by rw[←hp];simpa using hb)⟩;rw[bJ7 hi',←hp];simp[aW,fob_at,upd_at,none0_at,bW,HO.men,HV.men,HV.menL,HV.norm,HV.toC,HV.toCL]
  intro hΦ;simp only[sE,↓reduceIte,simprocAttr,rI];rw[List.length_map]at hΦ⊢;have hwl:=vS (r:=li) (Nat.le_refl _);have hul:=bU5 hΦ;have hsl:=fM 32 li;obtain⟨ws,hws⟩: ∃ws,ws=wsT li (aR 32 li).length:=⟨_,rfl⟩;rw[←hws]at hul hwl;rw[←hws,←hwl];refine AX (hK _ _ _ ?_);clear hK K;refine aC fun K hK=>?_;cases fd
  ·
   refine dU [168] (bG (fr2:=fin [(0,.c (.slc (rest.map u8))),(4,.own 32 ls.length),(5,.ptr 24 0),(7,.c (.slc (re.map u8))),(8,.c (.bool false)),(9,.ptr 152 0)]) (ob2:=fob [(24,.box 4 (.c (.bool true))),(32,.row 60 1 (ls.map lsC)),(152,.box 60 (.c (.slc (ws.map .str))))]) (nx2:=300) (aN (by omega) (by simp[aY,fY,fin_at,finA_at,upd_at,fob_at,HV.close,HV.closeL,CV.denil,CV.denilL,denilL_u8,HV.men,HV.menL,HV.norm,HV.toC,HV.toCL]) (by simp[aW,fZ,fob_at,upd_at,none0_at,bW,HO.close,HV.close,HV.closeL,CV.denil,denilL_str,HO.men,HV.men,HV.menL,HV.norm,HV.toC,HV.toCL])) ?_);refine aC fun K hK=>Rg ?_;iterate 7 refine SF ?_
   simp only[sE,↓reduceIte,simprocAttr,rI];refine AX (hK _ _ _ ?_);clear hK K;refine CT rfl ?_;refine RF ?_;refine bA ?_;refine TQ rI ?_;clear hK K;exact key false ls _ _ _ (fun h=>by cases h) (fun _=>hst.bad0 hcut hne) (by omega) (fF)
  refine dU [168] (bG (fr2:=fin [(0,.c (.slc (rest.map u8))),(4,.own 32 ls.length),(5,.ptr 24 0),(7,.c (.slc (re.map u8))),(8,.c (.bool true)),(9,.ptr 152 0)]) (ob2:=fob [(24,.box 4 (.c (.bool true))),(32,.row 60 1 (ls.map lsC)),(152,.box 60 (.c (.slc (ws.map .str))))]) (nx2:=300) (aN (by omega) (by simp[aY,fY,fin_at,finA_at,upd_at,fob_at,HV.close,HV.closeL,CV.denil,CV.denilL,denilL_u8,HV.men,HV.menL,HV.norm,HV.toC,HV.toCL]) (by simp[aW,fZ,fob_at,upd_at,none0_at,bW,HO.close,HV.close,HV.closeL,CV.denil,denilL_str,HO.men,HV.men,HV.menL,HV.norm,HV.toC,HV.toCL])) ?_);refine aC fun K hK=>Rg ?_;iterate 4 refine SF ?_
  refine aV (g:=some (44,false)) rfl rfl fun K' hK'=>T6 ?_;refine C1 (aK8 ws (by omega)) ?_;rintro u rfl;refine AX (hK' _ _ ?_);clear hK' K';iterate 2 refine SF ?_
  simp only[sE,↓reduceIte,simprocAttr,rI];refine AX (hK _ _ _ ?_);clear hK K;refine aJ (b:=rJ ws !=0) rfl (fun hb=>?_) (fun hb=>?_)
  · refine RF ?_;refine bA ?_;refine TQ rI ?_;clear hK K;exact key false ls _ _ _ (fun h=>by cases h) (fun _=>hst.bad hcut hne (by rw[hul,if_neg];unfold okL;simpa using hb)) (by omega) (fF)
  refine aK ?_;refine TQ rI ?_;refine AX (hK _ _ _ ?_);clear hK K;refine Rg ?_;have F:=aI rI (aI @List.length_append.{0} @List.length_map.{0,0});iterate 7 refine SF ?_
  simp only[sE,↓reduceIte,simprocAttr,rI];have hok:okL ws=true:=by unfold okL;simpa using hb
  refine⟨⟨(re,ls++[ws]),hst.next hcut hne (by rw[hul,if_pos hok])⟩,aN (by omega) ?_ ?_,hlt.1⟩
  · simp[aY,upd_at,fin_at,HV.men]
  simp only[aW,List.map_append];exact⟨rfl,by omega,trivial,rfl,by omega,trivial,trivial⟩
 refine bA ?_;refine TQ rI ?_;clear hK K;have hr0:rest=[]:=by simpa using hb
 subst hr0;exact key true ls _ _ _ (fun _=>hst.fin) (fun h=>by cases h) (by omega) (fF)
theorem bZ8 (s:aH):lK Tryz.prog 107 [.str s] (fun u v=>u= .int .i64 ((bL s).getD 0)∧v= .bool (bL s).isSome):=by
 refine FW Tryz.func107 ?_;refine R0 ?_;refine aC fun K hK=>?_;have key: ∀fr ob nx,gN s=false→Fits 0 fr ob (fin [(0,.c (.str s))]) (fob []) 100→K fr ob nx:=by
  intro fr ob nx hbad hf;refine hK _ _ _ (bG hf ?_);clear hf hK K;have hlen:s.length≤13:=by
   simp only[gN,Bool.or_eq_false_iff,decide_eq_false_iff_not]at hbad;omega
  refine R0 ?_;refine aC fun K hK=>?_;refine R0 ?_;refine aL ?_;refine bF (α:={y:Nat×Nat//DgSt s y.1 y.2}) (fun y=>(fin [(0,.c (.str s)),(4,.c (.int .i64 y.1.2)),(5,.c (.int .i64 y.1.1))],fob [])) 200 (fun y=>s.length-y.1.1) ⟨(0,0),DgSt.init s⟩ (fF) ?_;rintro⟨⟨i,n⟩,hst⟩;simp only at hst;have hi:=hst.1;have hnl:=hst.lt hlen;refine aC fun K hK=>?_;refine aC fun K hK=>Rg ?_;iterate 4 refine S0 ?_
  refine T2 (hK _ _ _ ?_);clear hK K;refine aJ (b:=decide ((i:Int)<s.length)) rfl (fun hb=>?_) (fun hb=>?_)
  ·
   have hlt:i<s.length:=by simpa using hb
   clear hb;have hgd:s.getD i 0=s[i]:=by simp[hlt]
   have hdi:=bL3 s[i];refine aK ?_;refine T0 (hK _ _ _ ?_);clear hK K;refine aC fun K hK=>?_;refine aL ?_;refine aC fun K hK=>?_;have key2: ∀fr ob nx,nA s[i]=true→Fits 0 fr ob (fin [(0,.c (.str s)),(4,.c (.int .i64 n)),(5,.c (.int .i64 i))]) (fob []) 300→K fr ob nx:=by
    intro fr ob nx hd hf;refine hK _ _ _ (bG hf ?_);clear hf hK K;have hd2:48≤s[i].toNat∧s[i].toNat≤57:=by simpa[nA]using hd
    have e1:IntKind.i64.wrap (10*(n:Int))=((10*n:Nat):Int):=by rw[IntWalk.i64_in _ (by omega)];omega
    have e2:IntKind.u8.wrap ((s[i].toNat:Int)-48)=((s[i].toNat-48:Nat):Int):=by rw[IntWalk.u8_in _ (by omega)];omega
    have e3:IntKind.i64.wrap ((s[i].toNat-48:Nat):Int)=((s[i].toNat-48:Nat):Int):=by rw[IntWalk.i64_in _ (by omega)]
    have e4:IntKind.i64.wrap (((10*n:Nat):Int)+((s[i].toNat-48:Nat):Int))=((10*n+(s[i].toNat-48):Nat):Int):=by rw[IntWalk.i64_in _ (by omega)];omega
    refine Rg ?_;iterate 9 refine S0 ?_ (e:=fun _ h_=>by simp only[sH,↓sP,sA,tyS,simprocAttr,Int.natCast_nonneg,Int.ofNat_lt,hlt,hgd,e1,e2,e3,e4];exact AX h_)
    refine T2 (hK _ _ _ ?_);clear hK K;refine aM (by kernel_rfl) ?_;refine TQ (jP i) ?_;refine⟨⟨(i+1,10*n+(s[i].toNat-48)),hst.next hlt hd⟩,fF,?_⟩;show s.length-(i+1)<s.length-i;omega
   refine aC fun K hK=>Rg ?_;iterate 5 refine S0 ?_ (e:=fun _ h_=>by simp only[sH,↓sP,sA,tyS,simprocAttr,Int.natCast_nonneg,Int.ofNat_lt,hlt,hgd];exact AX h_)
   refine aE 33 rfl (fun h7_33=>?_) (fun h7_33=>?_)
   ·
    iterate 5 refine S0 ?_ (e:=fun _ h_=>by simp only[sH,↓sP,sA,tyS,simprocAttr,Int.natCast_nonneg,Int.ofNat_lt,hlt,hgd,h7_33];exact AX h_)
    refine T2 (hK _ _ _ ?_);clear hK K;refine CT rfl ?_;refine R0 ?_;refine aF (RT Tryz.results107 ?_);have hd:nA s[i]=false:=by simp only[nA,Bool.and_eq_false_iff,decide_eq_false_iff_not];simp at h7_33;omega
    have hn:=zB (hst.bad hlt hd);exact bD [] (.int .i64 0) (.bool false) rfl ⟨by rw[hn];rfl,by rw[hn];rfl⟩
   iterate 5 refine S0 ?_ (e:=fun _ h_=>by simp only[sH,↓sP,sA,tyS,simprocAttr,Int.natCast_nonneg,Int.ofNat_lt,hlt,hgd,h7_33];exact AX h_)
   refine aE 38 rfl (fun h7_38=>?_) (fun h7_38=>?_)
   ·
    simp only[h7_38];refine T2 (hK _ _ _ ?_);clear hK K;refine CT rfl ?_;refine R0 ?_;refine aF (RT Tryz.results107 ?_);have hd:nA s[i]=false:=by simp only[nA,Bool.and_eq_false_iff,decide_eq_false_iff_not];simp at h7_38;omega
    have hn:=zB (hst.bad hlt hd);exact bD [] (.int .i64 0) (.bool false) rfl ⟨by rw[hn];rfl,by rw[hn];rfl⟩
   simp only[h7_38];refine T2 (hK _ _ _ ?_);clear hK K;refine CF rfl ?_;refine aK (T3 ?_);exact key2 _ _ _ (by simp only[nA,Bool.and_eq_true,decide_eq_true_eq];simp at h7_33 h7_38;omega) (fF)
  refine bA (T3 ?_);clear hK K;refine AX (hK _ _ _ ?_);clear hK K;refine aC fun K hK=>?_;have hfin:=hst.fin (by simp at hb;omega);clear hb;refine R0 ?_;refine aJ (b:=decide ((1099511627776:Int)<(n:Int))) rfl (fun hb=>?_) (fun hb=>?_)
  · refine R0 ?_;refine aF (RT Tryz.results107 ?_);have hn:=bL2 hfin (by simp at hb;omega);exact bD [] (.int .i64 0) (.bool false) rfl ⟨by rw[hn];rfl,by rw[hn];rfl⟩
  refine aK ?_;refine T0 (hK _ _ _ ?_);clear hK K;refine R0 ?_;refine aF (RT Tryz.results107 ?_);have hn:=aX9 hbad hfin (by simp at hb;omega);exact bD [] (.int .i64 n) (.bool true) rfl ⟨by rw[hn];rfl,by rw[hn];rfl⟩
 refine aC fun K hK=>Rg ?_;iterate 4 refine S0 ?_
 refine aE 8 rfl (fun h1_8=>?_) (fun h1_8=>?_)
 ·
  have F:=h1_8;iterate 14 refine SF ?_
  refine T2 (hK _ _ _ ?_);clear hK K;refine CT rfl ?_;refine R0 ?_;refine aF (RT Tryz.results107 ?_);have hn:bL s=none:=wF (by simp only[gN,Bool.or_eq_true,decide_eq_true_eq];simp at h1_8;left;left;omega);exact bD [] (.int .i64 0) (.bool false) rfl ⟨by rw[hn];rfl,by rw[hn];rfl⟩
 have F:=h1_8;iterate 5 refine SF ?_
 refine aE 12 rfl (fun h1_12=>?_) (fun h1_12=>?_)
 ·
  have F:=aI h1_8 h1_12;iterate 9 refine SF ?_
  refine T2 (hK _ _ _ ?_);clear hK K;refine CT rfl ?_;refine R0 ?_;refine aF (RT Tryz.results107 ?_);have hn:bL s=none:=wF (by simp only[gN,Bool.or_eq_true,decide_eq_true_eq];simp at h1_12;left;right;omega);exact bD [] (.int .i64 0) (.bool false) rfl ⟨by rw[hn];rfl,by rw[hn];rfl⟩
 have F:=aI h1_8 h1_12;iterate 4 refine SF ?_
 refine aE 17 rfl (fun h1_17=>?_) (fun h1_17=>?_)
 ·
  have F:=aI h1_8 (aI h1_12 h1_17);refine SF ?_;refine aV (g:=some (18,true)) rfl rfl fun K' hK'=>T6 ?_;refine⟨by simp at h1_17;omega,?_⟩;refine AX (hK' _ _ ?_);clear hK' K';iterate 3 refine SF ?_
  refine aE 21 rfl (fun h1_21=>?_) (fun h1_21=>?_)
  ·
   simp only[h1_21];refine T2 (hK _ _ _ ?_);clear hK K;refine CT rfl ?_;refine R0 ?_;refine aF (RT Tryz.results107 ?_);have hn:bL s=none:=wF (by
    simp only[gN,Bool.or_eq_true,Bool.and_eq_true,decide_eq_true_eq,beq_iff_eq];right;refine⟨by simp at h1_17;omega,UInt8.toNat_inj.1 ?_⟩;simp only[beq_iff_eq]at h1_21;show(s.getD 0 0).toNat=48;omega)
   exact bD [] (.int .i64 0) (.bool false) rfl ⟨by rw[hn];rfl,by rw[hn];rfl⟩
  simp only[h1_21];refine T2 (hK _ _ _ ?_);clear hK K;refine CF rfl ?_;refine aK (T3 ?_);refine key _ _ _ ?_ (fF);simp only[gN,Bool.or_eq_false_iff,Bool.and_eq_false_iff,decide_eq_false_iff_not,beq_eq_false_iff_ne,ne_eq];simp only[decide_eq_false_iff_not,decide_eq_true_eq]at h1_8 h1_12;refine⟨⟨by omega,by omega⟩,?_⟩;first
   |(right;intro h0;rw[h0]at h1_21;simp at h1_21)
   |(left;simp at h1_17;omega)
 have F:=aI h1_8 (aI h1_12 h1_17);iterate 5 refine SF ?_
 refine T2 (hK _ _ _ ?_);clear hK K;refine CF rfl ?_;refine aK (T3 ?_);refine key _ _ _ ?_ (fF);simp only[gN,Bool.or_eq_false_iff,Bool.and_eq_false_iff,decide_eq_false_iff_not,beq_eq_false_iff_ne,ne_eq];simp only[decide_eq_false_iff_not,decide_eq_true_eq]at h1_8 h1_12;refine⟨⟨by omega,by omega⟩,?_⟩;first
  |(right;intro h0;rw[h0]at h1_21;simp at h1_21)
  |(left;simp at h1_17;omega)
def rdr (ls:List (List aH))(a:Nat):CV:= .agg [.slc (ls.map lsC),.int .i64 a]
theorem aA1 (ls:List (List aH))(a k:Nat)(w:aH)(hk:1≤k):aQ9 Tryz.prog 88 94 (rdr ls a) [.str w,.int .i64 k] (fun u v'=>u= .bool (isV ls a w k)∧v'=rdr ls a):=by
 refine bS Tryz.func88 rfl (by kernel_rfl) (cR _ _ _) (Nat.le_of_ble_eq_true rfl) ?_;refine R0 ?_;refine aC fun K hK=>QR ?_;iterate 11 refine S0 ?_ (e:=fun _ h_=>by simp only[sH,↓sP,sA,tyS,simprocAttr,rdr,Int.natCast_nonneg];exact AX h_)
 refine aE 16 rfl (fun h1_16=>?_) (fun h1_16=>?_)
 ·
  iterate 8 refine S0 ?_ (e:=fun _ h_=>by simp only[sH,↓sP,sA,tyS,simprocAttr,rdr,Int.natCast_nonneg,h1_16];exact AX h_)
  refine aV (g:=some (17,true)) rfl rfl fun K' hK'=>?_;simp only[sH,↓sP,sA,tyS,simprocAttr,rdr,Int.natCast_nonneg,h1_16];have hlt:a<ls.length:=by simpa using h1_16
  simp only[↓sP,sA,tyS,simprocAttr,Int.natCast_nonneg,Int.ofNat_lt,hlt,bR hlt,lsC];refine AX (hK' _ _ ?_);clear hK' K';iterate 6 refine S0 ?_ (e:=fun _ h_=>by simp only[sH,↓sP,sA,tyS,simprocAttr,rdr,Int.natCast_nonneg,h1_16];exact AX h_)
  refine aE 30 rfl (fun h1_30=>?_) (fun h1_30=>?_)
  ·
   iterate 8 refine S0 ?_ (e:=fun _ h_=>by simp only[sH,↓sP,sA,tyS,simprocAttr,rdr,Int.natCast_nonneg,h1_16,h1_30];exact AX h_)
   refine aV (g:=some (32,true)) rfl rfl fun K' hK'=>?_;simp only[sH,↓sP,sA,tyS,simprocAttr,rdr,Int.natCast_nonneg,h1_16,h1_30];have hlt:a<ls.length:=by simpa using h1_16
   have h0:0<ls[a].length:=by simp at h1_30;omega
   simp only[↓sP,sA,tyS,simprocAttr,Int.natCast_nonneg,Int.ofNat_lt,hlt,bR hlt,lsC];refine AX (hK' _ _ ?_);clear hK' K';refine S0 ?_ (e:=fun _ h_=>by simp only[sH,↓sP,sA,tyS,simprocAttr,rdr,Int.natCast_nonneg,h1_16,h1_30];exact AX h_);refine aV (g:=some (32,true)) rfl rfl fun K' hK'=>?_;simp only[sH,↓sP,sA,tyS,simprocAttr,rdr,Int.natCast_nonneg,h1_16,h1_30];have hlt:a<ls.length:=by simpa using h1_16
   have h0:0<ls[a].length:=by simp at h1_30;omega
   simp only[↓sP,sA,tyS,simprocAttr,Int.natCast_pos,h0,bR h0];refine AX (hK' _ _ ?_);clear hK' K';iterate 5 refine S0 ?_ (e:=fun _ h_=>by simp only[sH,↓sP,sA,tyS,simprocAttr,rdr,Int.natCast_nonneg,h1_16,h1_30];exact AX h_)
   refine T2 (hK _ _ _ ?_);clear hK K;refine aF (RT Tryz.results88 ?_);have hlt:a<ls.length:=by simpa using h1_16
   have h30:ls[a].length=k:=by simpa[Int.ofNat_inj]using h1_30
   refine eW [] (.bool _) (rdr ls a) rfl rfl (by simp[HV.close,HV.closeL,rdr,CV.denil,CV.denilL,aS,HV.norm,HV.toC,HV.toCL]) (by simp) ⟨?_,rfl⟩;rw[iL hlt,h30];simp[wd,show 0<ls[a].length by omega]
  iterate 16 refine S0 ?_ (e:=fun _ h_=>by simp only[sH,↓sP,sA,tyS,simprocAttr,rdr,Int.natCast_nonneg,h1_16,h1_30];exact AX h_)
  refine T2 (hK _ _ _ ?_);clear hK K;refine aF (RT Tryz.results88 ?_);have hlt:a<ls.length:=by simpa using h1_16
  have h30: ¬ls[a].length=k:=by simpa[Int.ofNat_inj]using h1_30
  refine eW [] (.bool false) (rdr ls a) rfl rfl (by simp[HV.close,HV.closeL,rdr,CV.denil,CV.denilL,aS,HV.norm,HV.toC,HV.toCL]) (by simp) ⟨?_,rfl⟩;rw[iL hlt];simp[h30]
 iterate 31 refine S0 ?_ (e:=fun _ h_=>by simp only[sH,↓sP,sA,tyS,simprocAttr,rdr,Int.natCast_nonneg,h1_16];exact AX h_)
 refine T2 (hK _ _ _ ?_);clear hK K;refine aF (RT Tryz.results88 ?_);have hlt: ¬a<ls.length:=by simpa using h1_16
 refine eW [] (.bool false) (rdr ls a) rfl rfl (by simp[HV.close,HV.closeL,rdr,CV.denil,CV.denilL,aS,HV.norm,HV.toC,HV.toCL]) (by simp) ⟨?_,rfl⟩;rw[aE3 hlt]
theorem lB (ls:List (List aH))(a j:Nat)(ha:a<ls.length)(hj:j<ls[a].length):tA Tryz.prog 89 94 (rdr ls a) [.int .i64 j] (fun u x v'=>u= .int .i64 ((bL (wd ls[a] j)).getD 0)∧x= .bool (bL (wd ls[a] j)).isSome∧v'=rdr ls a):=by
 refine bS Tryz.func89 rfl (by kernel_rfl) (cR _ _ _) (Nat.le_of_ble_eq_true rfl) ?_;refine R0 ?_;refine aC fun K hK=>DW [(0,[],[]),(1,[],[]),(2,[],[]),(3,[],[]),(4,[],[]),(5,[],[]),(6,[],[]),(7,[],[]),(8,[],[]),(9,[],[]),(10,[],[]),(11,[],[]),(12,[],[]),(13,[],[]),(14,[],[]),(15,[],[]),(16,[],[]),(17,[],[])] [0,1,3,7,0,16,48,112,255,511,0,2047,4095,8191,16383,16383,65535,131071] ?_;iterate 13 refine W0 ?_ (e:=fun _ h_=>by simp only[sH,↓sP,sA,tyS,simprocAttr,rdr,Int.natCast_nonneg,Int.ofNat_lt,ha,bR ha,lsC,hj,bR hj];exact AX h_)
 refine cC (g:=none) rfl rfl fun K' hK'=>?_;simp only[sH,↓sP,sA,tyS,simprocAttr,rdr,Int.natCast_nonneg,Int.ofNat_lt,ha,bR ha,lsC,hj,bR hj];refine D1 (bZ8 ls[a][j]) ?_;rintro u v ⟨rfl,rfl⟩;refine AX (hK' _ _ ?_);clear hK' K';iterate 4 refine W0 ?_ (e:=fun _ h_=>by simp only[sH,↓sP,sA,tyS,simprocAttr,rdr,Int.natCast_nonneg,Int.ofNat_lt,ha,bR ha,lsC,hj,bR hj];exact AX h_)
 refine T2 (hK _ _ _ ?_);clear hK K;refine aF (RT Tryz.results89 ?_);exact bT [] (.int .i64 _) (.bool _) (rdr ls a) rfl rfl (by simp[HV.close,HV.closeL,rdr,CV.denil,CV.denilL,aS,HV.norm,HV.toC,HV.toCL,lsC]) (by simp) ⟨by simp[wd,hj],by simp[wd,hj],rfl⟩
end Go.Proofs.YtlldglbooaefhaaGreatDoor
