/- Part of a proof: walks of functions of the program, by contracts, and the rules they use. By an AI agent. -/
import Derived.Test.YtlgckianjabghaaGreatDoorHpTb
import Derived.Test.YtlgckianjabghaaGreatDoorRows
set_option maxRecDepth 10000
set_option maxHeartbeats 16000000
set_option linter.unusedSimpArgs false
set_option linter.unusedVariables false
set_option linter.defProp false
namespace Go.Pl
open Go Go.Hl
variable {q:Rq}
theorem cB3 (h:(q.k==1||(q.k==3||q.k==5))=true):eA q=(inB q.n 1 32&&gA q ⟨q.k,q.n,0,[]⟩):=by grind[eA,gA]
theorem aX0 (h:q.k=4):eA q=((inB q.n 1 32&&inB q.m 0 32)&&gA q ⟨q.k,q.n,q.m,[]⟩):=by simp[eA,h,gA,AP]
theorem cB4 (h:q.k=2):eA q=(dX q.t&&gA q ⟨q.k,0,0,q.t⟩):=by simp[eA,h,gA]
theorem cB5 (h:q.k=6):eA q=(inB q.n 1 10&&gA q ⟨q.k,q.n,0,[]⟩):=by simp[eA,h,gA]
theorem cB6 (h:q.k=7):eA q=(inB q.n 0 uP&&gA q ⟨q.k,q.n,0,[]⟩):=by simp[eA,h,gA]
theorem cB7 (h:q.k=8):eA q=(true&&gA q ⟨q.k,0,0,[]⟩):=by simp[eA,h,gA]
theorem bJ6 (h:(q.k==1||(q.k==3||q.k==5))=false)(h4:q.k≠4)(h2:q.k≠2)(h6:q.k≠6)(h7:q.k≠7)(h8:q.k≠8):eA q=false:=by simp_all[eA,A7]
theorem zQ (h:(q.k==1||(q.k==3||q.k==5))=true):eA q=(inB q.n 1 32&&(q.m==0&&q.t==[])):=by simp_all[eA,B6]
theorem tU (h:(q.k==4)=true):eA q=(inB q.n 1 32&&(decide (0≤q.m)&&(decide (q.m≤32)&&q.t==[]))):=by grind[eA,inB,Bool.and_assoc]
theorem zR (h:(q.k==2)=true):eA q=(q.n==0&&(q.m==0&&dX q.t)):=by grind[eA,dX]
theorem tV (h:(q.k==6)=true):eA q=(decide (1≤q.n)&&(decide (q.n≤10)&&(q.m==0&&q.t==[]))):=by grind[eA,inB,Bool.and_assoc]
theorem zS (h:(q.k==7)=true):eA q=(inN q.n&&(q.m==0&&q.t==[])):=by
 have h':q.k=7:=by simpa using h
 have e:inB q.n 0 uP=inN q.n:=rfl;simp[eA,h',e]
theorem zT (h:(q.k==8)=true):eA q=(q.n==0&&(q.m==0&&q.t==[])):=by grind[eA]
def pG (n:Nd):Bool:=
 if n.k=1 then n.c==0&&(n.n==0&&eA n.q)
 else if n.k=2∨n.k=3 then decide (1≤n.c)&&(n.n==0&&gA n.q rq0)
 else if n.k=4 then decide (1≤n.c)&&(decide (1≤n.n)&&(decide (n.n≤n.c)&&gA n.q rq0))
 else false
theorem aM9 (n:Nd):cB n=(pG n&&!decide (60<n.c)):=by
 unfold cB pG inB;have e:(!decide (60<n.c))=decide (n.c≤60):=by
  by_cases h:n.c≤60
  · rw[O6 h,M7 (by omega)];rfl
  · rw[M7 h,O6 (by omega)];rfl
 rw[e];split
 ·
  by_cases h:n.c=0
  · simp[h]
  · simp[h]
 ·
  split
  · generalize decide (1≤n.c)=A;generalize decide (n.c≤60)=B;generalize gA n.q rq0=C;generalize (n.n==0)=D;cases A<;>cases B<;>cases C<;>cases D<;>rfl
  ·
   split
   · generalize decide (1≤n.c)=A;generalize decide (n.c≤60)=B;generalize gA n.q rq0=C;generalize decide (1≤n.n)=D;generalize decide (n.n≤n.c)=E;cases A<;>cases B<;>cases C<;>cases D<;>cases E<;>rfl
   · rfl
variable {n:Nd}
theorem rU (h:n.k=1):cB n=(n.c==0&&(n.n==0&&eA n.q)):=by simp only[cB,B6 h]
theorem aH1 (h:(n.k==2||n.k==3)=true):cB n=((inB n.c 1 60&&gA n.q rq0)&&n.n==0):=by
 have h':n.k=2∨n.k=3:=by simpa using h
 have h1:n.k≠1:=by omega
 simp_all[cB,A7,B6,AP]
theorem rV (h:n.k=4):cB n=((inB n.c 1 60&&gA n.q rq0)&&inB n.n 1 n.c):=by simp_all[cB,A7,B6,AP]
theorem cB8 (h1:n.k≠1)(h:(n.k==2||n.k==3)=false)(h4:n.k≠4):cB n=false:=by simp_all[cB,A7]
theorem rW (h:n.k=1):pG n=(n.c==0&&(n.n==0&&eA n.q)):=by simp only[pG,B6 h]
theorem vF (h:(n.k==2||n.k==3)=true):pG n=(decide (1≤n.c)&&(n.n==0&&gA n.q rq0)):=by
 have h':n.k=2∨n.k=3:=by simpa using h
 have h1:n.k≠1:=by omega
 simp_all[pG,A7,B6]
theorem nV (h:n.k=4):pG n=(decide (1≤n.c)&&(decide (1≤n.n)&&(decide (n.n≤n.c)&&gA n.q rq0))):=by simp_all[pG,if_neg,if_pos]
theorem cB9 (h1:n.k≠1)(h:(n.k==2||n.k==3)=false)(h4:n.k≠4):pG n=false:=by simp_all[pG,A7]
structure ScSt (l:List Nd)(i:Nat)(m v:Int):Prop where
 le:i≤l.length
 eq:sW l 1 0=sW (l.drop i) m v
 m0:0≤m
 m1:m≤1+60*i
 v0:0≤v
 v1:v≤i
theorem ScSt.init (l:List Nd):ScSt l 0 1 0:=⟨by omega,rfl,by omega,by omega,by omega,by omega⟩
variable {m v:Int}{i:Nat}{l:List Nd}
theorem ScSt.stop (h:ScSt l i m v)(hi:i<l.length)(hb:m=0∨cB l[i]=false):eB l=false:=by
 have:sW l 1 0=none:=by
  rw[h.eq,B2 hi,sW];rcases hb with hb|hb
  · rw[B6 hb]
  · grind
 simp[eB,this]
theorem ScSt.next (h:ScSt l i m v)(hi:i<l.length)(hm:m≠0)(hb:cB l[i]=true):ScSt l (i+1) (m+(l[i].c-1)) (if l[i].k=1 then v+1 else v):=by
 obtain⟨c1,c2,_,_⟩:=eF hb;have h0:=h.m0;have h1:=h.m1;have h2:=h.v0;have h3:=h.v1;refine⟨hi,?_,by omega,by omega,?_,?_⟩
 · rw[h.eq,B2 hi,sW,A7 hm,B6 hb]
 all_goals grind
theorem ScSt.fin (h:ScSt l l.length m v)(h1:1≤l.length)(h2:l.length≤60):eB l=(m==0&&decide (v≤16)):=by
 have:sW l 1 0=some (m,v):=by rw[h.eq,S3];rfl
 grind[eB]
theorem lV (h:l.length<1∨60<l.length):eB l=false:=by grind[eB]
theorem rX {l:List Nd}{i:Int}(h:eB l=false∨i<0∨(l.length:Int)≤i):vB l i=[]:=by
 unfold vB;grind
theorem bR8 (h:eB l=true)(hi:i<l.length):vB l i=mT l l[i].c.toNat (i+1):=by simp_all[vB,B6,bY4]
theorem wN (h:eB l=false):kM l=[]:=by simp[kM,h]
theorem rY (h:eB l=true):kM l=jA 0 l:=by simp[kM,h]
theorem rF : ∀{l:List Bool} {k:Nat},k<l.length→cnt (l.take (k+1))=cnt (l.take k)+(if l.getD k false=true then 1 else 0)
 |x::l,0,_=>by cases x<;>simp[cnt]
 |x::l,k+1,h=>by
  have h':k<l.length:=by simpa using h
  have e: ∀m,cnt ((x::l).take (m+1))=(if x=true then 1 else 0)+cnt (l.take m):=fun m=>by grind[cnt]
  rw[e,e,rF h'];grind
theorem bJ7 (h:i<l.length):lv (l.take (i+1))=lv (l.take i)+(if l[i].k=1 then 1 else 0):=by grind[List.take_succ_eq_append_getElem,uQ,lv]
theorem bD8 (l:List Nd)(i:Nat):lv (l.take i)≤i:=by grind[cP4]
def bwL (l:List Nd):List (List CV):=(List.range l.length).map fun j=>[.int .i64 (l.length-1-j:Nat),(l.getD (l.length-1-j) nd0).cv]
theorem tW (l:List Nd):(bwL l).length=l.length:=by simp[bwL]
theorem cC0 {l:List Nd}{j:Nat}(h:j<(bwL l).length)(h2:l.length-1-j<l.length):(bwL l)[j]=[.int .i64 (l.length-1-j:Nat),(l[l.length-1-j]).cv]:=by simp[bwL,h2]
end Go.Pl
namespace Go.Proofs.YtlgckianjabghaaGreatDoor
open Go Go.Hl Go.Pl
theorem co3 :Tryz.prog.cellsOf 3=1:=by kernel_rfl
theorem co2 :Tryz.prog.cellsOf 2=1:=by kernel_rfl
theorem co9 :Tryz.prog.cellsOf 9=1:=by kernel_rfl
theorem dC6 :Tryz.prog.cellsOf 54=4:=by kernel_rfl
theorem cC1 (n:Nat)(x:Rq):CV.ofTy Tryz.prog (n+2) 54 x.cv=true:=by
 simp only[Rq.cv,CV.ofTyF,CV.ofTy,tyS,co2,co3,co9,CV.cells,L9,D4]
theorem cP8 (n:Nat)(x:Nd):CV.ofTy Tryz.prog (n+3) 56 x.cv=true:=by
 have h:=cC1 n x.q;have e: ∀m,CV.ofTy Tryz.prog (m+1) 3 (.int .i64 x.k)=true∧CV.ofTy Tryz.prog (m+1) 3 (.int .i64 x.n)=true∧CV.ofTy Tryz.prog (m+1) 3 (.int .i64 x.c)=true:=fun m=>by simp only[CV.ofTy,tyS,L9,J7]
 have e2:=e (n+1);show CV.ofTy Tryz.prog ((n+2)+1) _ _=true;rw[Nd.cv,CV.ofTy];simp only[tyS];simp only[CV.ofTyF];rw[e2.1,e2.2.1,e2.2.2,h];simp only[Rq.cells,dC6,co3,CV.cells,L9,D4]
theorem aN0 (x y:Rq)(K:CV→Prop):kI Tryz.prog .eql 54 (.c x.cv) (.c y.cv) K=K (.bool (gA x y)):=by
 have ha:aP9 Tryz.prog 54=true:=by kernel_rfl
 have h1:=cC1 6 x;have h2:=cC1 6 y;have e:CV.eqv (.agg [.int .i64 x.k,.int .i64 x.n,.int .i64 x.m,.str x.t]) (.agg [.int .i64 y.k,.int .i64 y.n,.int .i64 y.m,.str y.t])=gA x y:=by simp only[CV.eqv,CV.eqvL,gA,D4]
 simp only[Rq.cv]at h1 h2⊢;simp only[kI,ha,h1,h2,e,V5]
theorem dC7 (x y:Nd)(K:CV→Prop):kI Tryz.prog .neq 56 (.c x.cv) (.c y.cv) K=K (.bool (!bB5 x y)):=by
 have ha:aP9 Tryz.prog 56=true:=by kernel_rfl
 have h1:=cP8 5 x;have h2:=cP8 5 y;have e:CV.eqv (.agg [.int .i64 x.k,.int .i64 x.n,.int .i64 x.c,x.q.cv]) (.agg [.int .i64 y.k,.int .i64 y.n,.int .i64 y.c,y.q.cv])=bB5 x y:=by simp only[Rq.cv,CV.eqv,CV.eqvL,bB5,gA,D4]
 simp only[Nd.cv]at h1 h2⊢;simp only[kI,ha,h1,h2,e,V5]
theorem cC2 :CV.agg [.int .i64 0,.int .i64 0,.int .i64 0,.str []]=rq0.cv:=rfl
theorem jO (n a b:Int):cG Tryz.prog 59 [.int .i64 n,.int .i64 a,.int .i64 b] (fun v=>v= .bool (inB n a b)):=by
 refine FW Tryz.func59 ?_;refine AU ?_;refine aG 9 rfl (fun h1_9=>?_) (fun h1_9=>?_)
 · have F:=h1_9;refine AU ?_;refine aE (RT Tryz.results59 ?_);exact aK [] (.bool _) rfl (by simp only[inB,h1_9,B1,B7])
 have F:=h1_9;refine AU ?_;refine aE (RT Tryz.results59 ?_);exact aK [] (.bool _) rfl (by simp only[inB,h1_9,B1,B7])
theorem aX1 (q:Rq)(hn:q.t.length<2^63):cG Tryz.prog 84 [q.cv] (fun v=>v= .bool (eA q)):=by
 refine FW Tryz.func84 ?_;refine R0 ?_;refine RS ?_;iterate 5 refine S0 ?_
 refine RE ?_;refine R0 ?_;refine aC fun K hK=>?_;have key0: ∀(s:Bool) (u:Rq) fr ob nx,eA q=(s&&gA q u)→Fits 0 fr ob (fin [(1,.ptr 0 0),(3,.ptr 20 0),(4,.c (.bool s))]) (fob [(0,.box 54 (.c q.cv)),(20,.box 54 (.c u.cv))]) 1000→K fr ob nx:=by
  rintro s u fr ob nx hq hf;refine hK _ _ _ (bB hf ?_);clear hf hK K;refine RS ?_;have F:=@aN0;refine AU ?_;refine aG 62 rfl (fun h18_62=>?_) (fun h18_62=>?_)
  · have F:=aI @aN0 h18_62;refine AU ?_;refine aE (RT Tryz.results84 ?_);exact aK [] (.bool _) rfl (by rw[hq,h18_62,B1])
  have F:=aI @aN0 h18_62;refine AU ?_;refine aE (RT Tryz.results84 ?_);exact aK [] (.bool false) rfl (by rw[hq,h18_62,B7])
 refine R0 ?_;refine aM ?_;refine aC fun K hK=>?_;have key: ∀(b:Bool) fr ob nx,b=(q.k==1||(q.k==3||q.k==5))→Fits 0 fr ob (fin [(1,.ptr 0 0),(3,.ptr 20 0),(4,.c (.bool true)),(9,.c (.int .i64 q.k)),(10,.c (.bool b))]) (fob [(0,.box 54 (.c q.cv)),(20,.box 54 (.c (Rq.cv ⟨q.k,0,0,[]⟩)))]) 300→K fr ob nx:=by
  rintro b fr ob nx rfl hf;refine hK _ _ _ (bB hf ?_);clear hf hK K;refine aF (b:=_) rfl (fun hb=>?_) (fun hb=>?_)
  ·
   refine DW [(0,[],[]),(1,[],[]),(2,[],[]),(3,[],[]),(5,[],[]),(4,[],[0,1,5]),(6,[],[]),(7,[],[])] [0,1,0,4,12,3,63,127] ?_;iterate 5 refine W0 ?_
   refine cT (g:=none) rfl rfl fun K' hK'=>T5 ?_;refine C3 (jO _ _ _) ?_;rintro u rfl;refine AX (hK' _ _ ?_);clear hK' K';iterate 2 refine W0 ?_
   refine T4 ?_;exact key0 (inB q.n 1 32) ⟨q.k,q.n,0,[]⟩ _ _ _ (cB3 hb) (fF)
  have h1:=hb;refine R0 ?_;refine aF (b:=_) rfl (fun hb=>?_) (fun hb=>?_)
  ·
   refine DW [(0,[],[]),(1,[],[]),(2,[],[]),(3,[],[]),(4,[],[]),(5,[],[]),(12,[],[]),(6,[],[0,1,2,3,12]),(7,[],[]),(8,[],[]),(9,[],[]),(10,[],[0,1,2,3,12]),(11,[],[]),(13,[],[2,3,11]),(14,[],[]),(15,[],[11]),(16,[],[])] [0,1,0,4,0,16,48,112,240,496,1008,2032,3,6131,14335,30719,65535] ?_;iterate 7 refine W0 ?_
   refine cT (g:=none) rfl rfl fun K' hK'=>T5 ?_;refine C3 (jO _ _ _) ?_;rintro u rfl;refine AX (hK' _ _ ?_);clear hK' K';refine W0 ?_;refine aL1 28 rfl (fun h10_28=>?_) (fun h10_28=>?_)
   ·
    have F:=h10_28;iterate 2 refine WF ?_
    refine cT (g:=some (29,true)) rfl rfl fun K' hK'=>T6 ?_;refine C3 (jO _ _ _) ?_;rintro u rfl;refine AX (hK' _ _ ?_);clear hK' K';iterate 5 refine WF ?_
    refine T4 ?_;exact key0 (inB q.m 0 32) ⟨q.k,q.n,q.m,[]⟩ _ _ _ (by rw[aX0 (by simpa using hb),h10_28,B1]) (fF)
   have F:=h10_28;iterate 8 refine WF ?_
   refine T4 ?_;exact key0 false ⟨q.k,q.n,q.m,[]⟩ _ _ _ (by rw[aX0 (by simpa using hb),h10_28];rfl) (fF)
  have h2:=hb;refine R0 ?_;refine aF (b:=_) rfl (fun hb=>?_) (fun hb=>?_)
  ·
   refine DW [(0,[],[]),(1,[],[]),(2,[],[]),(3,[],[]),(5,[],[]),(4,[],[0,1,5]),(6,[],[]),(7,[],[])] [0,1,0,4,12,3,63,127] ?_;iterate 5 refine W0 ?_
   refine cT (g:=none) rfl rfl fun K' hK'=>T5 ?_;refine C1 (aL5 _ hn) ?_;rintro u rfl;refine AX (hK' _ _ ?_);clear hK' K';iterate 2 refine W0 ?_
   refine T4 ?_;exact key0 (dX q.t) ⟨q.k,0,0,q.t⟩ _ _ _ (cB4 (by simpa using hb)) (fF)
  have h3:=hb;refine R0 ?_;refine aF (b:=_) rfl (fun hb=>?_) (fun hb=>?_)
  ·
   refine DW [(0,[],[]),(1,[],[]),(2,[],[]),(3,[],[]),(5,[],[]),(4,[],[0,1,5]),(6,[],[]),(7,[],[])] [0,1,0,4,12,3,63,127] ?_;iterate 5 refine W0 ?_
   refine cT (g:=none) rfl rfl fun K' hK'=>T5 ?_;refine C3 (jO _ _ _) ?_;rintro u rfl;refine AX (hK' _ _ ?_);clear hK' K';iterate 2 refine W0 ?_
   refine T4 ?_;exact key0 (inB q.n 1 10) ⟨q.k,q.n,0,[]⟩ _ _ _ (cB5 (by simpa using hb)) (fF)
  have h4:=hb;refine R0 ?_;refine aF (b:=_) rfl (fun hb=>?_) (fun hb=>?_)
  ·
   refine DW [(0,[],[]),(1,[],[]),(2,[],[]),(3,[],[]),(5,[],[]),(4,[],[0,1,5]),(6,[],[]),(7,[],[])] [0,1,0,4,12,3,63,127] ?_;iterate 5 refine W0 ?_
   refine cT (g:=none) rfl rfl fun K' hK'=>T5 ?_;refine C3 (jO _ _ _) ?_;rintro u rfl;refine AX (hK' _ _ ?_);clear hK' K';iterate 2 refine W0 ?_
   refine T4 ?_;exact key0 (inB q.n 0 1099511627776) ⟨q.k,q.n,0,[]⟩ _ _ _ (cB6 (by simpa using hb)) (fF)
  have h5:=hb;refine R0 ?_;refine aF (b:=_) rfl (fun hb=>?_) (fun hb=>?_)
  · refine aJ (T3 ?_);exact key0 true ⟨q.k,0,0,[]⟩ _ _ _ (cB7 (by simpa using hb)) (fF)
  refine R0 ?_;refine aE (RT Tryz.results84 ?_);exact aK [] (.bool false) rfl (by rw[bJ6 h1 (by simpa using h2) (by simpa using h3) (by simpa using h4) (by simpa using h5) (by simpa using hb)])
 refine R0 ?_;refine aF (b:=_) rfl (fun hb=>?_) (fun hb=>?_)
 · refine aJ (T3 ?_);exact key (q.k==1) _ _ _ (by rw[hb];rfl) (fF)
 have h1:=hb;refine R0 ?_;refine aF (b:=_) rfl (fun hb=>?_) (fun hb=>?_)
 · refine aJ (T3 ?_);exact key (q.k==3) _ _ _ (by rw[h1,hb];rfl) (fF)
 have h1':=hb;refine aL (by kernel_rfl) ?_;simp only[↓sP,sA,tyS,simprocAttr];exact key (q.k==5) _ _ _ (by rw[h1,h1'];rfl) (fF)
theorem cC3 (n:Nd)(hn:n.q.t.length<2^63):cG Tryz.prog 57 [n.cv] (fun v=>v= .bool (cB n)):=by
 refine FW Tryz.func57 ?_;refine R0 ?_;refine aC fun K hK=>?_;have key: ∀(b:Bool) fr ob nx,b=(inB n.c 1 60&&gA n.q rq0)→Fits 0 fr ob (fin [(1,.ptr 0 0),(3,.c (.bool b))]) (fob [(0,.box 56 (.c n.cv))]) 100→K fr ob nx:=by
  rintro b fr ob nx rfl hf;refine hK _ _ _ (bB hf ?_);clear hf hK K;refine aC fun K hK=>?_;refine R0 ?_;refine aM ?_;refine R0 ?_;refine aF (b:=_) rfl (fun hb=>?_) (fun hb=>?_)
  ·
   refine AU ?_;refine aG 24 rfl (fun h4_24=>?_) (fun h4_24=>?_)
   ·
    have F:=h4_24;refine AU ?_;refine aG 28 rfl (fun h4_28=>?_) (fun h4_28=>?_)
    · have F:=aI h4_24 h4_28;refine AU ?_;refine SCF (aX1 n.q hn) ?_;refine AU ?_;refine aE (RT Tryz.results57 ?_);exact aK [] (.bool _) rfl (by rw[rU (by simpa using hb),h4_24,h4_28];rfl)
    have F:=aI h4_24 h4_28;refine AU ?_;refine aE (RT Tryz.results57 ?_);exact aK [] (.bool _) rfl (by rw[rU (by simpa using hb),h4_24,h4_28];rfl)
   have F:=h4_24;refine AU ?_;refine aE (RT Tryz.results57 ?_);exact aK [] (.bool _) rfl (by rw[rU (by simpa using hb),h4_24];rfl)
  have h1:n.k≠1:=by simpa using hb
  refine aC fun K hK=>?_;have key2: ∀(b:Bool) fr ob nx,b=(n.k==2||n.k==3)→Fits 0 fr ob (fin [(1,.ptr 0 0),(3,.c (.bool (inB n.c 1 60&&gA n.q rq0))),(19,.c (.int .i64 n.k)),(35,.c (.bool b))]) (fob [(0,.box 56 (.c n.cv))]) 300→K fr ob nx:=by
   rintro b fr ob nx rfl hf;refine hK _ _ _ (bB hf ?_);clear hf hK K;refine aF (b:=_) rfl (fun hb=>?_) (fun hb=>?_)
   ·
    refine AU ?_;refine aG 38 rfl (fun h7_38=>?_) (fun h7_38=>?_)
    · have F:=h7_38;refine AU ?_;refine aE (RT Tryz.results57 ?_);exact aK [] (.bool _) rfl (by rw[aH1 hb,h7_38,B1])
    have F:=h7_38;refine AU ?_;refine aE (RT Tryz.results57 ?_);exact aK [] (.bool _) rfl (by rw[aH1 hb,h7_38,B7])
   have h2:=hb;refine R0 ?_;refine aF (b:=_) rfl (fun hb=>?_) (fun hb=>?_)
   ·
    refine AU ?_;refine aG 46 rfl (fun h9_46=>?_) (fun h9_46=>?_)
    ·
     have F:=h9_46;refine AU ?_;refine aG 50 rfl (fun h9_50=>?_) (fun h9_50=>?_)
     · have F:=aI h9_46 h9_50;refine AU ?_;refine aE (RT Tryz.results57 ?_);exact aK [] (.bool _) rfl (by rw[rV (by simpa using hb),h9_46,inB,h9_50];rfl)
     have F:=aI h9_46 h9_50;refine AU ?_;refine aE (RT Tryz.results57 ?_);exact aK [] (.bool _) rfl (by rw[rV (by simpa using hb),h9_46,inB,h9_50];rfl)
    have F:=h9_46;refine AU ?_;refine aE (RT Tryz.results57 ?_);exact aK [] (.bool _) rfl (by rw[rV (by simpa using hb),h9_46,B7])
   refine aJ ?_;refine T0 (hK _ _ _ ?_);clear hK K;refine R0 ?_;refine aE (RT Tryz.results57 ?_);exact aK [] (.bool _) rfl (by rw[cB8 h1 h2 (by simpa using hb)])
  refine R0 ?_;refine aF (b:=_) rfl (fun hb=>?_) (fun hb=>?_)
  · refine aJ (T3 ?_);exact key2 (n.k==2) _ _ _ (by rw[hb];rfl) (fF)
  have h2:=hb;refine aL (by kernel_rfl) ?_;simp only[↓sP,sA,tyS,simprocAttr];exact key2 (n.k==3) _ _ _ (by rw[hb];rfl) (fF)
 refine Rg ?_;have F:=aI @aN0 @cC2;refine AU ?_;refine aG 6 rfl (fun h1_6=>?_) (fun h1_6=>?_)
 ·
  have F:=aI @aN0 (aI @cC2 h1_6);refine AU ?_;refine aG 10 rfl (fun h1_10=>?_) (fun h1_10=>?_)
  ·
   have F:=aI @aN0 (aI @cC2 (aI h1_6 h1_10));refine AU ?_;refine aG 16 rfl (fun h1_16=>?_) (fun h1_16=>?_)
   · simp only[h1_16];refine T4 ?_;exact key true _ _ _ (by first|(simp only[inB,rq0,h1_6,h1_10,h1_16,B1,B7,C9,D4];done)|(simp only[inB,h1_6,h1_10,B1];exact EJ h1_16)) (fF)
   simp only[h1_16];refine T4 ?_;exact key false _ _ _ (by first|(simp only[inB,rq0,h1_6,h1_10,h1_16,B1,B7,C9,D4];done)|(simp only[inB,h1_6,h1_10,B1];exact EJ h1_16)) (fF)
  have F:=aI @aN0 (aI @cC2 (aI h1_6 h1_10));refine AU ?_;refine T4 ?_;exact key false _ _ _ (by first|(simp only[inB,rq0,h1_6,h1_10,B1,B7,C9,D4];done)|(simp only[inB,h1_6,h1_10,B1];exact EJ h1_16)) (fF)
 have F:=aI @aN0 (aI @cC2 h1_6);refine AU ?_;refine T4 ?_;exact key false _ _ _ (by first|(simp only[inB,rq0,h1_6,B1,B7,C9,D4];done)|(simp only[inB,h1_6,h1_10,B1];exact EJ h1_16)) (fF)
theorem cL7 (q:Rq)(hn:q.t.length<2^63):cG Tryz.prog 90 [q.cv] (fun v=>v= .bool (eA q)):=by
 refine FW Tryz.func90 ?_;refine R0 ?_;refine aC fun K hK=>?_;have key0: ∀(b:Bool) fr ob nx,b=inB q.n 1 32→Fits 0 fr ob (fin [(1,.ptr 0 0),(3,.c (.bool b))]) (fob [(0,.box 54 (.c q.cv))]) 100→K fr ob nx:=by
  rintro b fr ob nx rfl hf;refine hK _ _ _ (bB hf ?_);clear hf hK K;refine aC fun K hK=>?_;refine R0 ?_;refine aM ?_;refine aC fun K hK=>?_;have key: ∀(b:Bool) fr ob nx,b=(q.k==1||(q.k==3||q.k==5))→Fits 0 fr ob (fin [(1,.ptr 0 0),(3,.c (.bool (inB q.n 1 32))),(13,.c (.int .i64 q.k)),(14,.c (.bool b))]) (fob [(0,.box 54 (.c q.cv))]) 300→K fr ob nx:=by
   rintro b fr ob nx rfl hf;refine hK _ _ _ (bB hf ?_);clear hf hK K;refine aF (b:=_) rfl (fun hb=>?_) (fun hb=>?_)
   ·
    refine AU ?_;refine aG 18 rfl (fun h6_18=>?_) (fun h6_18=>?_)
    ·
     have F:=h6_18;refine AU ?_;refine aG 22 rfl (fun h6_22=>?_) (fun h6_22=>?_)
     · have F:=aI h6_18 h6_22;refine AU ?_;refine aE (RT Tryz.results90 ?_);exact aK [] (.bool _) rfl (by rw[zQ hb,h6_18,h6_22];rfl)
     have F:=aI h6_18 h6_22;refine AU ?_;refine aE (RT Tryz.results90 ?_);exact aK [] (.bool _) rfl (by rw[zQ hb,h6_18,h6_22];rfl)
    have F:=h6_18;refine AU ?_;refine aE (RT Tryz.results90 ?_);exact aK [] (.bool _) rfl (by rw[zQ hb,h6_18];rfl)
   have h1:=hb;refine R0 ?_;refine aF (b:=_) rfl (fun hb=>?_) (fun hb=>?_)
   ·
    refine AU ?_;refine aG 31 rfl (fun h8_31=>?_) (fun h8_31=>?_)
    ·
     have F:=h8_31;refine AU ?_;refine aG 35 rfl (fun h8_35=>?_) (fun h8_35=>?_)
     ·
      have F:=aI h8_31 h8_35;refine AU ?_;refine aG 40 rfl (fun h8_40=>?_) (fun h8_40=>?_)
      · have F:=aI h8_31 (aI h8_35 h8_40);refine AU ?_;refine aE (RT Tryz.results90 ?_);exact aK [] (.bool _) rfl (by rw[tU hb,h8_31,h8_35,h8_40];rfl)
      have F:=aI h8_31 (aI h8_35 h8_40);refine AU ?_;refine aE (RT Tryz.results90 ?_);exact aK [] (.bool _) rfl (by rw[tU hb,h8_31,h8_35,h8_40];rfl)
     have F:=aI h8_31 h8_35;refine AU ?_;refine aE (RT Tryz.results90 ?_);exact aK [] (.bool _) rfl (by rw[tU hb,h8_31,h8_35];rfl)
    have F:=h8_31;refine AU ?_;refine aE (RT Tryz.results90 ?_);exact aK [] (.bool _) rfl (by rw[tU hb,h8_31];rfl)
   have h2:=hb;refine R0 ?_;refine aF (b:=_) rfl (fun hb=>?_) (fun hb=>?_)
   ·
    refine AU ?_;refine aG 51 rfl (fun h10_51=>?_) (fun h10_51=>?_)
    ·
     have F:=h10_51;refine AU ?_;refine aG 55 rfl (fun h10_55=>?_) (fun h10_55=>?_)
     · have F:=aI h10_51 h10_55;refine AU ?_;refine SCF (yW _ hn) ?_;refine AU ?_;refine aE (RT Tryz.results90 ?_);exact aK [] (.bool _) rfl (by rw[zR hb,h10_51,h10_55];rfl)
     have F:=aI h10_51 h10_55;refine AU ?_;refine aE (RT Tryz.results90 ?_);exact aK [] (.bool _) rfl (by rw[zR hb,h10_51,h10_55];rfl)
    have F:=h10_51;refine AU ?_;refine aE (RT Tryz.results90 ?_);exact aK [] (.bool _) rfl (by rw[zR hb,h10_51];rfl)
   have h3:=hb;refine R0 ?_;refine aF (b:=_) rfl (fun hb=>?_) (fun hb=>?_)
   ·
    refine AU ?_;refine aG 66 rfl (fun h12_66=>?_) (fun h12_66=>?_)
    ·
     have F:=h12_66;refine AU ?_;refine aG 70 rfl (fun h12_70=>?_) (fun h12_70=>?_)
     ·
      have F:=aI h12_66 h12_70;refine AU ?_;refine aG 75 rfl (fun h12_75=>?_) (fun h12_75=>?_)
      · have F:=aI h12_66 (aI h12_70 h12_75);refine AU ?_;refine aE (RT Tryz.results90 ?_);exact aK [] (.bool _) rfl (by rw[tV hb,h12_66,h12_70,h12_75];rfl)
      have F:=aI h12_66 (aI h12_70 h12_75);refine AU ?_;refine aE (RT Tryz.results90 ?_);exact aK [] (.bool _) rfl (by rw[tV hb,h12_66,h12_70,h12_75];rfl)
     have F:=aI h12_66 h12_70;refine AU ?_;refine aE (RT Tryz.results90 ?_);exact aK [] (.bool _) rfl (by rw[tV hb,h12_66,h12_70];rfl)
    have F:=h12_66;refine AU ?_;refine aE (RT Tryz.results90 ?_);exact aK [] (.bool _) rfl (by rw[tV hb,h12_66];rfl)
   have h4:=hb;refine R0 ?_;refine aF (b:=_) rfl (fun hb=>?_) (fun hb=>?_)
   ·
    refine AU ?_;refine SC (yV _) ?_;refine S0 ?_;refine aG 86 rfl (fun h14_86=>?_) (fun h14_86=>?_)
    ·
     have F:=h14_86;refine AU ?_;refine aG 90 rfl (fun h14_90=>?_) (fun h14_90=>?_)
     · have F:=aI h14_86 h14_90;refine AU ?_;refine aE (RT Tryz.results90 ?_);exact aK [] (.bool _) rfl (by rw[zS hb,h14_86,h14_90];rfl)
     have F:=aI h14_86 h14_90;refine AU ?_;refine aE (RT Tryz.results90 ?_);exact aK [] (.bool _) rfl (by rw[zS hb,h14_86,h14_90];rfl)
    have F:=h14_86;refine AU ?_;refine aE (RT Tryz.results90 ?_);exact aK [] (.bool _) rfl (by rw[zS hb,h14_86];rfl)
   have h5:=hb;refine R0 ?_;refine aF (b:=_) rfl (fun hb=>?_) (fun hb=>?_)
   ·
    refine AU ?_;refine aG 101 rfl (fun h16_101=>?_) (fun h16_101=>?_)
    ·
     have F:=h16_101;refine AU ?_;refine aG 105 rfl (fun h16_105=>?_) (fun h16_105=>?_)
     · have F:=aI h16_101 h16_105;refine AU ?_;refine aE (RT Tryz.results90 ?_);exact aK [] (.bool _) rfl (by rw[zT hb,h16_101,h16_105];rfl)
     have F:=aI h16_101 h16_105;refine AU ?_;refine aE (RT Tryz.results90 ?_);exact aK [] (.bool _) rfl (by rw[zT hb,h16_101,h16_105];rfl)
    have F:=h16_101;refine AU ?_;refine aE (RT Tryz.results90 ?_);exact aK [] (.bool _) rfl (by rw[zT hb,h16_101];rfl)
   refine aJ ?_;refine T0 (hK _ _ _ ?_);clear hK K;refine R0 ?_;refine aE (RT Tryz.results90 ?_);exact aK [] (.bool false) rfl (by rw[bJ6 h1 (by simpa using h2) (by simpa using h3) (by simpa using h4) (by simpa using h5) (by simpa using hb)])
  refine R0 ?_;refine aF (b:=_) rfl (fun hb=>?_) (fun hb=>?_)
  · refine aJ (T3 ?_);exact key (q.k==1) _ _ _ (by rw[hb];rfl) (fF)
  have h1:=hb;refine R0 ?_;refine aF (b:=_) rfl (fun hb=>?_) (fun hb=>?_)
  · refine aJ (T3 ?_);exact key (q.k==3) _ _ _ (by rw[h1,hb];rfl) (fF)
  have h1':=hb;refine aL (by kernel_rfl) ?_;simp only[↓sP,sA,tyS,simprocAttr];exact key (q.k==5) _ _ _ (by rw[h1,h1'];rfl) (fF)
 refine Rg ?_;refine AU ?_;refine aG 6 rfl (fun h1_6=>?_) (fun h1_6=>?_)
 ·
  have F:=h1_6;refine AU ?_;refine aG 10 rfl (fun h1_10=>?_) (fun h1_10=>?_)
  · simp only[h1_10];refine T4 ?_;exact key0 true _ _ _ (by simp only[inB,h1_6,h1_10,B1,B7]) (fF)
  simp only[h1_10];refine T4 ?_;exact key0 false _ _ _ (by simp only[inB,h1_6,h1_10,B1,B7]) (fF)
 have F:=h1_6;refine AU ?_;refine T4 ?_;exact key0 false _ _ _ (by simp only[inB,h1_6,B1,B7]) (fF)
theorem cC4 (n:Nd)(hn:n.q.t.length<2^63):cG Tryz.prog 68 [n.cv] (fun v=>v= .bool (pG n)):=by
 refine FW Tryz.func68 ?_;refine R0 ?_;refine RS ?_;have F:=@aN0;iterate 5 refine SF ?_
 refine RE ?_;refine aC fun K hK=>?_;refine R0 ?_;refine aM ?_;refine R0 ?_;refine aF (b:=_) rfl (fun hb=>?_) (fun hb=>?_)
 ·
  refine AU ?_;refine aG 14 rfl (fun h4_14=>?_) (fun h4_14=>?_)
  ·
   have F:=h4_14;refine AU ?_;refine aG 18 rfl (fun h4_18=>?_) (fun h4_18=>?_)
   · have F:=aI h4_14 h4_18;refine AU ?_;refine SCF (cL7 n.q hn) ?_;refine AU ?_;refine aE (RT Tryz.results68 ?_);exact aK [] (.bool _) rfl (by rw[rW (by simpa using hb),h4_14,h4_18];rfl)
   have F:=aI h4_14 h4_18;refine AU ?_;refine aE (RT Tryz.results68 ?_);exact aK [] (.bool _) rfl (by rw[rW (by simpa using hb),h4_14,h4_18];rfl)
  have F:=h4_14;refine AU ?_;refine aE (RT Tryz.results68 ?_);exact aK [] (.bool _) rfl (by rw[rW (by simpa using hb),h4_14];rfl)
 have h1:n.k≠1:=by simpa using hb
 refine aC fun K hK=>?_;have key2: ∀(b:Bool) fr ob nx,b=(n.k==2||n.k==3)→Fits 0 fr ob (fin [(1,.ptr 0 0),(3,.c (.bool (gA n.q rq0))),(9,.c (.int .i64 n.k)),(25,.c (.bool b))]) (fob [(0,.box 56 (.c n.cv))]) 300→K fr ob nx:=by
  rintro b fr ob nx rfl hf;refine hK _ _ _ (bB hf ?_);clear hf hK K;refine aF (b:=_) rfl (fun hb=>?_) (fun hb=>?_)
  ·
   refine AU ?_;refine aG 30 rfl (fun h7_30=>?_) (fun h7_30=>?_)
   ·
    have F:=h7_30;refine AU ?_;refine aG 34 rfl (fun h7_34=>?_) (fun h7_34=>?_)
    · have F:=aI h7_30 h7_34;refine AU ?_;refine aE (RT Tryz.results68 ?_);exact aK [] (.bool _) rfl (by rw[vF hb,h7_30,h7_34];rfl)
    have F:=aI h7_30 h7_34;refine AU ?_;refine aE (RT Tryz.results68 ?_);exact aK [] (.bool _) rfl (by rw[vF hb,h7_30,h7_34];rfl)
   have F:=h7_30;refine AU ?_;refine aE (RT Tryz.results68 ?_);exact aK [] (.bool _) rfl (by rw[vF hb,h7_30];rfl)
  have h2:=hb;refine R0 ?_;refine aF (b:=_) rfl (fun hb=>?_) (fun hb=>?_)
  ·
   refine AU ?_;refine aG 43 rfl (fun h9_43=>?_) (fun h9_43=>?_)
   ·
    have F:=h9_43;refine AU ?_;refine aG 47 rfl (fun h9_47=>?_) (fun h9_47=>?_)
    ·
     have F:=aI h9_43 h9_47;refine AU ?_;refine aG 54 rfl (fun h9_54=>?_) (fun h9_54=>?_)
     · have F:=aI h9_43 (aI h9_47 h9_54);refine AU ?_;refine aE (RT Tryz.results68 ?_);exact aK [] (.bool _) rfl (by rw[nV (by simpa using hb),h9_43,h9_47,h9_54];rfl)
     have F:=aI h9_43 (aI h9_47 h9_54);refine AU ?_;refine aE (RT Tryz.results68 ?_);exact aK [] (.bool _) rfl (by rw[nV (by simpa using hb),h9_43,h9_47,h9_54];rfl)
    have F:=aI h9_43 h9_47;refine AU ?_;refine aE (RT Tryz.results68 ?_);exact aK [] (.bool _) rfl (by rw[nV (by simpa using hb),h9_43,h9_47];rfl)
   have F:=h9_43;refine AU ?_;refine aE (RT Tryz.results68 ?_);exact aK [] (.bool _) rfl (by rw[nV (by simpa using hb),h9_43];rfl)
  refine aJ ?_;refine T0 (hK _ _ _ ?_);clear hK K;refine R0 ?_;refine aE (RT Tryz.results68 ?_);exact aK [] (.bool _) rfl (by rw[cB9 h1 h2 (by simpa using hb)])
 refine R0 ?_;refine aF (b:=_) rfl (fun hb=>?_) (fun hb=>?_)
 · refine aJ (T3 ?_);exact key2 (n.k==2) _ _ _ (by rw[hb];rfl) (fG (by simp[rq0]))
 have h2:=hb;refine aL (by kernel_rfl) ?_;simp only[↓sP,sA,tyS,simprocAttr];exact key2 (n.k==3) _ _ _ (by rw[hb];rfl) (fG (by simp[rq0]))
theorem cS (n:Int)(h: -4611686018427387904≤n∧n≤4611686018427387904):IntKind.i64.wrap n=n:=A8 _ (by omega)
theorem xI (l:List Nd)(hn: ∀n∈l,n.q.t.length<2^63):cG Tryz.prog 30 [.slc (l.map Nd.cv)] (fun v=>v= .bool (eB l)):=by
 refine FW Tryz.func30 ?_;refine R0 ?_;refine aC fun K hK=>?_;refine aC fun K hK=>Rg ?_;iterate 4 refine S0 ?_
 refine aG 9 rfl (fun h1_9=>?_) (fun h1_9=>?_)
 ·
  have F:=h1_9;iterate 4 refine SF ?_
  refine T2 (hK _ _ _ ?_);clear hK K;refine CT rfl ?_;refine R0 ?_;refine aE (RT Tryz.results30 ?_);exact aK [] (.bool false) rfl (by rw[lV (.inl (by simp only[B9]at h1_9;omega))])
 have F:=h1_9;iterate 4 refine SF ?_
 refine aG 13 rfl (fun h1_13=>?_) (fun h1_13=>?_)
 · simp only[h1_13];refine T2 (hK _ _ _ ?_);clear hK K;refine CT rfl ?_;refine R0 ?_;refine aE (RT Tryz.results30 ?_);exact aK [] (.bool false) rfl (by rw[lV (.inr (by simp only[B9]at h1_13;omega))])
 simp only[h1_13];refine T2 (hK _ _ _ ?_);clear hK K;refine CF rfl ?_;refine aJ ?_;refine T0 (hK _ _ _ ?_);clear hK K;have hl1:1≤l.length:=by simp only[C6]at h1_9;omega
 have hl2:l.length≤60:=by simp only[C6]at h1_13;omega
 clear h1_9 h1_13;refine R0 ?_;refine aC fun K hK=>?_;refine R0 ?_;refine aM ?_;refine bN (α:={y:Nat×Int×Int//ScSt l y.1 y.2.1 y.2.2}) (fun y=>(fin [(3,.c (.int .i64 y.1.2.1)),(4,.c (.int .i64 y.1.2.2)),(15,.c (.slc (l.map Nd.cv))),(16,.c (.int .i64 l.length)),(17,.c (.int .i64 y.1.1))],fob [])) 200 (fun y=>l.length-y.1.1) ⟨(0,1,0),ScSt.init l⟩ (fF) ?_;rintro⟨⟨i,m,v⟩,hst⟩;simp only at hst;have hi:=hst.le;have hm0:=hst.m0;have hm1:=hst.m1;have hv0:=hst.v0;have hv1:=hst.v1;refine R0 ?_;refine aC fun K hK=>?_;refine aF (b:=decide ((i:Int)<l.length)) rfl (fun hb=>?_) (fun hb=>?_)
 ·
  have hlt:i<l.length:=by simpa using hb
  clear hb;refine aJ ?_;refine T0 (hK _ _ _ ?_);clear hK K;refine aC fun K hK=>?_;refine aM ?_;refine aC fun K hK=>Rg ?_;have F:=aI @A0 (aI @A4 (aI hlt (nM hlt)));iterate 4 refine SF ?_
  refine T2 (hK _ _ _ ?_);clear hK K;refine aC fun K hK=>?_;refine aC fun K hK=>Rg ?_;iterate 3 refine S0 ?_
  refine aG 22 rfl (fun h7_22=>?_) (fun h7_22=>?_)
  ·
   have F:=h7_22;iterate 4 refine SF ?_
   refine T2 (hK _ _ _ ?_);clear hK K;refine CT rfl ?_;refine R0 ?_;refine aE (RT Tryz.results30 ?_);exact aK [] (.bool false) rfl (by rw[hst.stop hlt (.inl (by simpa using h7_22))])
  have F:=h7_22;refine SF ?_;refine aW (g:=some (23,false)) rfl rfl fun K' hK'=>T6 ?_;refine C1 (cC3 l[i] (hn _ (C0 hlt))) ?_;rintro u rfl;refine AX (hK' _ _ ?_);clear hK' K';iterate 2 refine SF ?_
  refine aG 25 rfl (fun h7_25=>?_) (fun h7_25=>?_)
  ·
   simp only[h7_25];refine T2 (hK _ _ _ ?_);clear hK K;refine CF rfl ?_;refine aJ ?_;refine T0 (hK _ _ _ ?_);clear hK K;have hnb:cB l[i]=true:=by simpa using h7_25
   have hm:m≠0:=by simpa using h7_22
   obtain⟨c1,c2,c3,c4⟩:=eF hnb;have hnx:=hst.next hlt hm hnb;clear h7_22 h7_25;refine aC fun K hK=>Rg ?_;iterate 6 refine S0 ?_ (e:=fun _ h_=>by simp only[sH,↓sP,sA,tyS,simprocAttr,cS (l[i].c-1) (by omega),cS (m+(l[i].c-1)) (by omega)];exact AX h_)
   refine T2 (hK _ _ _ ?_);clear hK K;refine R0 ?_;refine aF (b:=_) rfl (fun hb=>?_) (fun hb=>?_)
   · refine aL (by kernel_rfl) ?_;simp only[↓sP,sA,tyS,simprocAttr,cS (v+1) (by omega)];refine AX (hK _ _ _ ?_);clear hK K;refine aL (by kernel_rfl) ?_;simp only[↓sP,sA,tyS,simprocAttr,cS ((i:Int)+1) (by omega)];rw[B6 (by simpa using hb)]at hnx;refine⟨⟨(i+1,_,_),hnx⟩,fF,?_⟩;show l.length-(i+1)<l.length-i;omega
   refine aJ ?_;refine T0 (hK _ _ _ ?_);clear hK K;refine aL (by kernel_rfl) ?_;simp only[↓sP,sA,tyS,simprocAttr,cS ((i:Int)+1) (by omega)];rw[A7 (by simpa using hb)]at hnx;refine⟨⟨(i+1,_,_),hnx⟩,fF,?_⟩;show l.length-(i+1)<l.length-i;omega
  simp only[h7_25];refine T2 (hK _ _ _ ?_);clear hK K;refine CT rfl ?_;refine R0 ?_;refine aE (RT Tryz.results30 ?_);exact aK [] (.bool false) rfl (by rw[hst.stop hlt (.inr (by simpa using h7_25))])
 refine bG (T3 ?_);clear hK K;refine AX (hK _ _ _ ?_);clear hK K;have hei:i=l.length:=by simp only[C6]at hb;omega
 subst hei;have hf:=hst.fin hl1 hl2;clear hb;refine aC fun K hK=>Rg ?_;iterate 3 refine S0 ?_
 refine aG 40 rfl (fun h13_40=>?_) (fun h13_40=>?_)
 ·
  have F:=h13_40;iterate 4 refine SF ?_
  refine T2 (hK _ _ _ ?_);clear hK K;refine aE (RT Tryz.results30 ?_);exact aK [] (.bool _) rfl (by rw[hf,h13_40,B1])
 have F:=h13_40;iterate 4 refine SF ?_
 refine T2 (hK _ _ _ ?_);clear hK K;refine aE (RT Tryz.results30 ?_);exact aK [] (.bool false) rfl (by rw[hf,h13_40,B7])
theorem cC5 (l:List Nd)(hn: ∀n∈l,n.q.t.length<2^63):cG Tryz.prog 39 [.slc (l.map Nd.cv)] (fun v=>v= .bool (eB l)):=by
 refine FW Tryz.func39 ?_;refine R0 ?_;refine aC fun K hK=>?_;refine aC fun K hK=>Rg ?_;iterate 4 refine S0 ?_
 refine aG 8 rfl (fun h1_8=>?_) (fun h1_8=>?_)
 ·
  have F:=h1_8;iterate 4 refine SF ?_
  refine T2 (hK _ _ _ ?_);clear hK K;refine CT rfl ?_;refine R0 ?_;refine aE (RT Tryz.results39 ?_);exact aK [] (.bool false) rfl (by rw[lV (.inl (by simp only[B9]at h1_8;omega))])
 have F:=h1_8;iterate 4 refine SF ?_
 refine aG 12 rfl (fun h1_12=>?_) (fun h1_12=>?_)
 · simp only[h1_12];refine T2 (hK _ _ _ ?_);clear hK K;refine CT rfl ?_;refine R0 ?_;refine aE (RT Tryz.results39 ?_);exact aK [] (.bool false) rfl (by rw[lV (.inr (by simp only[B9]at h1_12;omega))])
 simp only[h1_12];refine T2 (hK _ _ _ ?_);clear hK K;refine CF rfl ?_;refine aJ ?_;refine T0 (hK _ _ _ ?_);clear hK K;have hl1:1≤l.length:=by simp only[C6]at h1_8;omega
 have hl2:l.length≤60:=by simp only[C6]at h1_12;omega
 clear h1_8 h1_12;refine R0 ?_;refine aC fun K hK=>?_;refine R0 ?_;refine aM ?_;refine bN (α:={y:Nat×Int×Int//ScSt l y.1 y.2.1 y.2.2}) (fun y=>(fin [(0,.c (.slc (l.map Nd.cv))),(3,.c (.int .i64 y.1.2.1)),(4,.c (.int .i64 y.1.2.2)),(5,.c (.int .i64 y.1.1))],fob [])) 200 (fun y=>l.length-y.1.1) ⟨(0,1,0),ScSt.init l⟩ (fF) ?_;rintro⟨⟨i,m,v⟩,hst⟩;simp only at hst;have hi:=hst.le;have hm0:=hst.m0;have hm1:=hst.m1;have hv0:=hst.v0;have hv1:=hst.v1;refine aC fun K hK=>?_;refine aC fun K hK=>Rg ?_;iterate 4 refine S0 ?_
 refine T2 (hK _ _ _ ?_);clear hK K;refine aF (b:=decide ((i:Int)<l.length)) rfl (fun hb=>?_) (fun hb=>?_)
 ·
  have hlt:i<l.length:=by simpa using hb
  clear hb;refine aJ ?_;refine T0 (hK _ _ _ ?_);clear hK K;refine aC fun K hK=>?_;refine aM ?_;refine aC fun K hK=>?_;refine aC fun K hK=>Rg ?_;have F:=aI @A0 (aI @A4 (aI hlt (nM hlt)));iterate 3 refine SF ?_
  refine aG 21 rfl (fun h7_21=>?_) (fun h7_21=>?_)
  ·
   have F:=aI @A0 (aI @A4 (aI hlt (aI (nM hlt) h7_21)));iterate 15 refine SF ?_
   refine T2 (hK _ _ _ ?_);clear hK K;refine CT rfl ?_;refine R0 ?_;refine aE (RT Tryz.results39 ?_);exact aK [] (.bool false) rfl (by rw[hst.stop hlt (.inl (by simpa using h7_21))])
  have F:=aI @A0 (aI @A4 (aI hlt (aI (nM hlt) h7_21)));iterate 4 refine SF ?_
  refine aW (g:=some (22,false)) rfl rfl fun K' hK'=>T6 ?_;refine C1 (cC4 l[i] (hn _ (C0 hlt))) ?_;rintro u rfl;refine AX (hK' _ _ ?_);clear hK' K';iterate 3 refine SF ?_
  refine aG 27 rfl (fun h7_27=>?_) (fun h7_27=>?_)
  ·
   have F:=aI @A0 (aI @A4 (aI hlt (aI (nM hlt) (aI h7_21 h7_27))));iterate 7 refine SF ?_
   refine aG 36 rfl (fun h7_36=>?_) (fun h7_36=>?_)
   · simp only[h7_36];refine T2 (hK _ _ _ ?_);clear hK K;refine CT rfl ?_;refine R0 ?_;refine aE (RT Tryz.results39 ?_);exact aK [] (.bool false) rfl (by rw[hst.stop hlt (.inr (by rw[aM9,h7_27,h7_36];rfl))])
   simp only[h7_36];refine T2 (hK _ _ _ ?_);clear hK K;refine CF rfl ?_;refine aJ ?_;refine T0 (hK _ _ _ ?_);clear hK K;have hnb:cB l[i]=true:=by rw[aM9,h7_27,h7_36];rfl
   have hm:m≠0:=by simpa using h7_21
   obtain⟨c1,c2,c3,c4⟩:=eF hnb;have hnx:=hst.next hlt hm hnb;clear h7_21 h7_27 h7_36;refine aC fun K hK=>Rg ?_;iterate 9 refine S0 ?_ (e:=fun _ h_=>by simp only[sH,↓sP,sA,tyS,simprocAttr,A0,A4,hlt,aV hlt,cS (l[i].c-1) (by omega),cS (m+(l[i].c-1)) (by omega)];exact AX h_)
   refine T2 (hK _ _ _ ?_);clear hK K;refine aC fun K hK=>Rg ?_;have F:=aI @A0 (aI @A4 (aI hlt (nM hlt)));iterate 6 refine SF ?_
   refine T2 (hK _ _ _ ?_);clear hK K;refine aF (b:=_) rfl (fun hb=>?_) (fun hb=>?_)
   · refine aL (by kernel_rfl) ?_;simp only[↓sP,sA,tyS,simprocAttr,cS (v+1) (by omega)];refine AX (hK _ _ _ ?_);clear hK K;refine aL (by kernel_rfl) ?_;simp only[↓sP,sA,tyS,simprocAttr,cS ((i:Int)+1) (by omega)];rw[B6 (by simpa using hb)]at hnx;refine⟨⟨(i+1,_,_),hnx⟩,fF,?_⟩;show l.length-(i+1)<l.length-i;omega
   refine aJ ?_;refine T0 (hK _ _ _ ?_);clear hK K;refine aL (by kernel_rfl) ?_;simp only[↓sP,sA,tyS,simprocAttr,cS ((i:Int)+1) (by omega)];rw[A7 (by simpa using hb)]at hnx;refine⟨⟨(i+1,_,_),hnx⟩,fF,?_⟩;show l.length-(i+1)<l.length-i;omega
  have F:=aI @A0 (aI @A4 (aI hlt (aI (nM hlt) (aI h7_21 h7_27))));iterate 7 refine SF ?_
  refine T2 (hK _ _ _ ?_);clear hK K;refine CT rfl ?_;refine R0 ?_;refine aE (RT Tryz.results39 ?_);exact aK [] (.bool false) rfl (by rw[hst.stop hlt (.inr (by rw[aM9,h7_27];rfl))])
 refine bG (T3 ?_);clear hK K;refine AX (hK _ _ _ ?_);clear hK K;have hei:i=l.length:=by simp only[C6]at hb;omega
 subst hei;have hf:=hst.fin hl1 hl2;clear hb;refine aC fun K hK=>Rg ?_;iterate 3 refine S0 ?_
 refine aG 55 rfl (fun h12_55=>?_) (fun h12_55=>?_)
 ·
  have F:=h12_55;iterate 4 refine SF ?_
  refine T2 (hK _ _ _ ?_);clear hK K;refine aE (RT Tryz.results39 ?_);exact aK [] (.bool _) rfl (by rw[hf,h12_55,B1])
 have F:=h12_55;iterate 4 refine SF ?_
 refine T2 (hK _ _ _ ?_);clear hK K;refine aE (RT Tryz.results39 ?_);exact aK [] (.bool false) rfl (by rw[hf,h12_55,B7])
def iC (n:Nat):CV:= .int .i64 n
theorem aH2 (l:List Nat):CV.denilL (l.map iC)=l.map iC:=cX (fun _=>rfl) l
theorem cC6 (l:List Nd)(ht:IsTree l)(i:Nat)(hi:i<l.length):cG Tryz.prog 66 [.slc (l.map Nd.cv),.int .i64 i] (fun v=>v= .int .i64 (aft l i:Nat)):=by
 have hl:=ht.len;refine FW Tryz.func66 ?_;refine R0 ?_;refine aC fun K hK=>?_;refine R0 ?_;refine aM ?_;refine bN (α:={y:Nat×Nat//AftSt l i y.1 y.2∧y.1≤1+60*y.2}) (fun y=>(fin [(0,.c (.slc (l.map Nd.cv))),(1,.c (.int .i64 y.1.2)),(5,.c (.int .i64 y.1.1))],fob [])) 100 (fun y=>l.length-y.1.2) ⟨(1,i),⟨S5 hi,rfl⟩,by omega⟩ (fF) ?_;rintro⟨⟨m,p⟩,hst,hm⟩;simp only at hst hm;have hp:=hst.1;refine aC fun K hK=>?_;refine R0 ?_;refine aF (b:=decide ((0:Int)<(m:Int))) rfl (fun hb=>?_) (fun hb=>?_)
 ·
  have hm1:0<m:=by simpa using hb
  have hpl:=hst.lt ht hi hm1;obtain⟨c1,c2,_,_⟩:=eF (ht.node _ (C0 hpl));obtain⟨m',rfl⟩: ∃m',m=m'+1:=⟨m-1,by omega⟩;have hnx:=hst.next hpl;have hw1:IntKind.i64.wrap (((m'+1:Nat):Int)+(l[p].c-1))=((m'+l[p].c.toNat:Nat):Int):=by rw[cS _ (by omega)];omega
  have hw2:IntKind.i64.wrap ((p:Int)+1)=((p+1:Nat):Int):=by rw[cS _ (by omega)];rfl
  clear hb;refine aJ ?_;refine T0 (hK _ _ _ ?_);clear hK K;refine aC fun K hK=>?_;refine aM ?_;refine Rg ?_;iterate 9 refine S0 ?_ (e:=fun _ h_=>by simp only[sH,↓sP,sA,tyS,simprocAttr,A0,A4,hpl,aV hpl,cS (l[p].c-1) (by omega),hw1];exact AX h_)
  refine T2 (hK _ _ _ ?_);clear hK K;refine aL (by kernel_rfl) ?_;refine TQ hw2 ?_;refine⟨⟨(m'+l[p].c.toNat,p+1),hnx,by simp only;omega⟩,fF,?_⟩;show l.length-(p+1)<l.length-p;omega
 refine bG (T3 ?_);clear hK K;refine AX (hK _ _ _ ?_);clear hK K;refine R0 ?_;refine aE (RT Tryz.results66 ?_);have hm0:m=0:=by simpa using hb
 subst hm0;exact aK [] (.int .i64 p) rfl (by rw[hst.fin])
theorem aX2 (l:List Nd)(hn: ∀n∈l,n.q.t.length<2^63)(i:Int):cG Tryz.prog 35 [.slc (l.map Nd.cv),.int .i64 i] (fun v=>v= .slc ((vB l i).map iC)):=by
 refine FW Tryz.func35 ?_;refine R0 ?_;refine aC fun K hK=>?_;refine aC fun K hK=>Rg ?_;refine S0 ?_;refine HS rfl rfl fun K' hK'=>T5 ?_;refine C1 (xI l hn) ?_;rintro u rfl;refine AX (hK' _ _ ?_);clear hK' K';iterate 2 refine S0 ?_
 refine aG 8 rfl (fun h1_8=>?_) (fun h1_8=>?_)
 ·
  have F:=h1_8;iterate 4 refine SF ?_
  refine aG 12 rfl (fun h1_12=>?_) (fun h1_12=>?_)
  ·
   have F:=aI h1_8 h1_12;iterate 5 refine SF ?_
   refine T2 (hK _ _ _ ?_);clear hK K;refine CT rfl ?_;refine R0 ?_;refine aE (RT Tryz.results35 ?_);exact aK [] (.slc []) rfl (by rw[rX (.inr (.inl (by simpa using h1_12)))];rfl)
  have F:=aI h1_8 h1_12;iterate 5 refine SF ?_
  refine aG 18 rfl (fun h1_18=>?_) (fun h1_18=>?_)
  · simp only[h1_18];refine T2 (hK _ _ _ ?_);clear hK K;refine CT rfl ?_;refine R0 ?_;refine aE (RT Tryz.results35 ?_);exact aK [] (.slc []) rfl (by rw[rX (.inr (.inr (by simpa using h1_18)))];rfl)
  simp only[h1_18];refine T2 (hK _ _ _ ?_);clear hK K;refine CF rfl ?_;refine aJ ?_;refine T0 (hK _ _ _ ?_);clear hK K;obtain⟨j,rfl⟩: ∃j:Nat,i=j:=⟨i.toNat,by simp at h1_12;omega⟩;have hj:j<l.length:=by simp at h1_18;omega
  have ht:=mQ h1_8;have hcv:=bR8 h1_8 hj;have hl:=ht.len;obtain⟨c1,c2,_,_⟩:=eF (ht.node _ (C0 hj));have hw2:IntKind.i64.wrap ((j:Int)+1)=((j+1:Nat):Int):=by rw[cS _ (by omega)];rfl
  clear h1_8 h1_12 h1_18;refine R0 ?_;refine aC fun K hK=>?_;have F:=hw2;refine RF ?_;refine aM ?_;refine iN 5 0 3 1 rfl rfl rfl rfl ?_;refine bN (α:={k:Nat//k≤l[j].c.toNat}) (fun k=>(fin [(0,.c (.slc (l.map Nd.cv))),(1,.c (.int .i64 j)),(5,.own 72 k.1),(6,.c (.int .i64 (eH l k.1 (j+1):Nat)))],fob [(72,.row 3 1 ((mT l k.1 (j+1)).map iC))])) 200 (fun k=>l[j].c.toNat-k.1) ⟨0,by omega⟩ (fG (by simp[mT,eH])) ?_;rintro⟨k,hk⟩;have hkl:=aF2 l k (j+1);refine aC fun K hK=>?_;refine aC fun K hK=>Rg ?_;have F:=aI @A0 (aI @A4 (aI hj (aI (nM hj) hkl)));iterate 8 refine SF ?_
  refine T2 (hK _ _ _ ?_);clear hK K;refine aF (b:=decide ((k:Int)<l[j].c)) rfl (fun hb=>?_) (fun hb=>?_)
  ·
   have hkc:k<l[j].c.toNat:=by simp only[B9]at hb;omega
   have hkp:=mU ht hj hkc;have e:(mT l (k+1) (j+1)).map iC=(mT l k (j+1)).map iC++[CV.int .i64 (eH l k (j+1):Nat)]:=by rw[yZ,C5];rfl
   refine aJ ?_;refine T0 (hK _ _ _ ?_);clear hK K;refine aC fun K hK=>?_;refine aM ?_;refine Rg ?_;have F:=hkl;iterate 5 refine SF ?_
   refine T2 (hK _ _ _ ?_);clear hK K;refine Rg ?_;iterate 2 refine S0 ?_
   refine HS rfl rfl fun K' hK'=>T5 ?_;refine C2 (cC6 l ht _ hkp) ?_;rintro u rfl;refine AX (hK' _ _ ?_);clear hK' K';refine S0 ?_;refine T4 ?_;refine⟨⟨k+1,hkc⟩,fG (by simp[e,hkl,iQ]),?_⟩;show l[j].c.toNat-(k+1)<l[j].c.toNat-k;omega
  refine bG (T3 ?_);clear hK K;refine AX (hK _ _ _ ?_);clear hK K;refine R0 ?_;refine aE (RT Tryz.results35 ?_);have hkc:k=l[j].c.toNat:=by simp only[C6]at hb;omega
  subst hkc;exact aK [72] (.slc ((mT l l[j].c.toNat (j+1)).map iC)) (by simp[hkl,aH2]) (by rw[hcv])
 have F:=h1_8;iterate 9 refine SF ?_
 refine T2 (hK _ _ _ ?_);clear hK K;refine CT rfl ?_;refine R0 ?_;refine aE (RT Tryz.results35 ?_);exact aK [] (.slc []) rfl (by rw[rX (.inl h1_8)];rfl)
theorem aH3 (l:List Nd)(hn: ∀n∈l,n.q.t.length<2^63):cG Tryz.prog 34 [.slc (l.map Nd.cv)] (fun v=>v= .slc ((kM l).map iC)):=by
 refine FW Tryz.func34 ?_;refine R0 ?_;refine aC fun K hK=>?_;refine AU ?_;refine SC (xI l hn) ?_;refine AU ?_;refine aF (b:=!eB l) rfl (fun hb=>?_) (fun hb=>?_)
 · refine R0 ?_;refine aE (RT Tryz.results34 ?_);exact aK [] (.slc []) rfl (by rw[wN (by simpa using hb)];rfl)
 have h8:eB l=true:=by simpa using hb
 have ht:=mQ h8;have hlv:=rY h8;have hl:=ht.len;clear hb;refine aJ ?_;refine T0 (hK _ _ _ ?_);clear hK K;refine R0 ?_;refine aC fun K hK=>?_;refine R0 ?_;refine aM ?_;refine iN 3 0 3 1 rfl rfl rfl rfl ?_;refine bN (α:={i:Nat//i≤l.length}) (fun i=>(fin [(3,.own 32 (jA 0 (l.take i.1)).length),(9,.c (.slc (l.map Nd.cv))),(10,.c (.int .i64 l.length)),(11,.c (.int .i64 i.1))],fob [(32,.row 3 1 ((jA 0 (l.take i.1)).map iC))])) 200 (fun i=>l.length-i.1) ⟨0,by omega⟩ (fG (by simp[jA])) ?_;rintro⟨i,hi⟩;have hfl:(jA 0 (l.take i)).length≤i:=by rw[mV];have:=cP4 (l.take i);simp at this;omega
 refine R0 ?_;refine aC fun K hK=>?_;refine aF (b:=decide ((i:Int)<l.length)) rfl (fun hb=>?_) (fun hb=>?_)
 ·
  have hlt:i<l.length:=by simpa using hb
  have e:=bD0 hlt;clear hb;refine aJ ?_;refine T0 (hK _ _ _ ?_);clear hK K;refine aC fun K hK=>?_;refine aM ?_;refine RS ?_;have F:=aI @A0 (aI @A4 (aI hlt (nM hlt)));refine AU ?_;refine aF (b:=_) rfl (fun hb=>?_) (fun hb=>?_)
  · rw[B6 (by simpa using hb)]at e;refine Rg ?_;refine AU ?_;refine T2 (hK _ _ _ ?_);clear hK K;refine aL (by kernel_rfl) ?_;simp only[↓sP,sA,tyS,simprocAttr,cS ((i:Int)+1) (by omega)];refine⟨⟨i+1,hlt⟩,fG (by simp[e,iC]),?_⟩;show l.length-(i+1)<l.length-i;omega
  rw[A7 (by simpa using hb)]at e;refine aJ ?_;refine T0 (hK _ _ _ ?_);clear hK K;refine aL (by kernel_rfl) ?_;simp only[↓sP,sA,tyS,simprocAttr,cS ((i:Int)+1) (by omega)];refine⟨⟨i+1,hlt⟩,fG (by simp[e]),?_⟩;show l.length-(i+1)<l.length-i;omega
 refine bG (T3 ?_);clear hK K;refine AX (hK _ _ _ ?_);clear hK K;refine R0 ?_;refine aE (RT Tryz.results34 ?_);have hei:i=l.length:=by simp only[C6]at hb;omega
 subst hei;rw[E2];exact aK [32] (.slc ((jA 0 l).map iC)) (by simp[aH2]) (by rw[hlv])
def bC (b:Bool):CV:= .bool b
theorem wO {α:Type}{f:α→CV}{Q:α→Prop}: ∀(l:List CV),(∀x∈l,∃y,x=f y∧Q y)→ ∃m:List α,l=m.map f∧ ∀y∈m,Q y
 |[],_=>⟨[],rfl,by simp⟩
 |x::l,h=>by
  obtain⟨y,rfl,hy⟩:=h x (by simp);obtain⟨m,rfl,hm⟩:=wO l (fun x hx=>h x (by simp[hx]));exact⟨y::m,rfl,fun z hz=>by rcases E9.1 hz with rfl|hz;exact hy;exact hm z hz⟩
theorem cL8 {c:CV}(h:HasTy Tryz.prog 22 c): ∃L:List Int,c= .slc (L.map (.int .i64))∧(∀n∈L,(Lit.int .i64 n).wf=true)∧L.length≤maxLen:=by
 obtain⟨l,rfl,hl,hn⟩:=h.of_slc Tryz.underlying22;obtain⟨m,rfl,hm⟩:=wO (f:=CV.int .i64) (Q:=fun n=>(Lit.int .i64 n).wf=true) l (fun x hx=>(hl x hx).of_int Tryz.underlying3);exact⟨m,rfl,hm,by simpa using hn⟩
theorem own :ownKnob Tryz.prog.godebug=none:=by kernel_rfl
theorem kids :Kids Tryz.prog (· <Tryz.prog.types.size):=kids_rows (by kernel_rfl) (by kernel_rfl)
theorem bD9 : ∀t e,t<Tryz.prog.types.size→Tryz.prog.underlying t=some (.slice e)→0<Tryz.prog.cellsOf e:=slices_full_of Tryz.prog (by kernel_rfl)
theorem nB (w:aH)(hl:w.length<2^40):cG Tryz.prog 22 [.str w] (fun v=>v= .str (gQ w)):=by
 refine FW Tryz.func22 ?_;refine R0 ?_;refine aC fun K hK=>?_;refine R0 ?_;refine aF (b:=w==[]) rfl (fun hb=>?_) (fun hb=>?_)
 · refine R0 ?_;refine aE (RT Tryz.results22 ?_);exact aK [] (.str [126]) rfl (by rw[gQ,B6 (by simpa using hb)])
 refine aJ ?_;refine T0 (hK _ _ _ ?_);clear hK K;have hne:w≠[]:=by simpa using hb
 clear hb;refine R0 ?_;refine R0 ?_;refine aC fun K hK=>?_;refine R0 ?_;refine aM ?_;refine iN 4 0 5 1 rfl rfl rfl rfl ?_;refine bN (α:={i:Nat//i≤w.length}) (fun i=>(fin [(0,.c (.str w)),(3,.c (.str [48,49,50,51,52,53,54,55,56,57,65,66,67,68,69,70])),(4,.own 24 (dH (w.take i.1)).length),(5,.c (.int .i64 i.1))],fob [(24,.row 5 1 ((dH (w.take i.1)).map dG))])) 100 (fun i=>w.length-i.1) ⟨0,by omega⟩ (fF) ?_;rintro⟨i,hi⟩;have hle:=mG w i;have hle3:=sX w;refine aC fun K hK=>?_;refine AU ?_;refine aF (b:=decide ((i:Int)<w.length)) rfl (fun hb=>?_) (fun hb=>?_)
 ·
  have hlt:i<w.length:=by simpa using hb
  have hgd:w.getD i 0=w[i]:=by simp[hlt]
  have hs:=rM hlt;refine aJ ?_;refine T0 (hK _ _ _ ?_);clear hK K;refine aC fun K hK=>?_;refine aM ?_;refine aC fun K hK=>Rg ?_;iterate 3 refine S0 ?_ (e:=fun _ h_=>by simp only[sH,↓sP,sA,tyS,simprocAttr,A0,A4,hlt,hgd];exact AX h_)
  refine HS rfl rfl fun K' hK'=>?_;simp only[sH,↓sP,sA,tyS,simprocAttr,A0,A4,hlt,hgd];refine C1 (vA w[i]) ?_;rintro u rfl;refine AX (hK' _ _ ?_);clear hK' K';refine T2 (hK _ _ _ ?_);clear hK K;refine aF (b:=cY w[i]) rfl (fun hb=>?_) (fun hb=>?_)
  ·
   refine Rg ?_;iterate 7 refine S0 ?_ (e:=fun _ h_=>by simp only[sH,↓sP,sA,tyS,simprocAttr,A0,A4,hlt,hgd,A3,A2];exact AX h_)
   refine T2 (hK _ _ _ ?_);clear hK K;refine aL (by kernel_rfl) ?_;refine TQ (fS i) ?_;refine⟨⟨i+1,hlt⟩,aP (by omega) ?_ ?_,?_⟩
   · rw[hs,kK,B6 hb];simp
   · rw[hs,kK,B6 hb,C5];exact⟨rfl,by omega,trivial,trivial⟩
   show w.length-(i+1)<w.length-i;omega
  have h16:((w[i].toNat/16:Nat):Int)<16:=by have:=w[i].toNat_lt;omega
  have h15:((w[i].toNat%16:Nat):Int)<16:=by omega
  refine DW [(0,[],[]),(1,[],[]),(2,[],[]),(3,[],[]),(4,[],[]),(5,[],[]),(6,[],[]),(7,[],[]),(8,[],[]),(9,[],[]),(10,[],[]),(11,[],[]),(12,[],[]),(13,[],[]),(14,[],[]),(15,[],[])] [0,0,0,0,12,28,62,0,0,0,768,1792,3968,8190,16383,32767] ?_;iterate 16 refine W0 ?_ (e:=fun _ h_=>by simp only[sH,↓sP,sA,tyS,simprocAttr,A0,A4,hlt,hgd,A3,A2,cX5,cP5,h16,h15];exact AX h_)
  refine T2 (hK _ _ _ ?_);clear hK K;refine aL (by kernel_rfl) ?_;refine TQ (fS i) ?_;refine⟨⟨i+1,hlt⟩,aP (by omega) ?_ ?_,?_⟩
  · rw[hs,kK,A7 (by rw[hb];simp)];simp
  · rw[hs,kK,A7 (by rw[hb];simp),C5];exact⟨rfl,by omega,trivial,trivial⟩
  show w.length-(i+1)<w.length-i;omega
 refine bG (T3 ?_);clear hK K;refine AX (hK _ _ _ ?_);clear hK K;refine cM [24] (bB (fr2:=fin [(4,.c (.slc ((dH (w.take i)).map dG)))]) (ob2:=fob []) (nx2:=200) (aP (by omega) (by simp[dE]) (by simp)) ?_);have F:=@bytesC_map;refine RF ?_;refine aE (RT Tryz.results22 ?_);have hei:i=w.length:=by simp at hb;omega
 subst hei;exact aK [] (.str (dH w)) (by rw[E2];rfl) (by rw[gQ,A7 hne])
theorem bJ8 (ls:List (List aH))(h0:ls.length<2^40)(h1: ∀l∈ls,l.length<2^40):gB Tryz.prog 9 [.slc (ls.map fun l=> .slc (l.map .str))] (fun u v=>u= .slc ((lK ls).map dG)∧v= .int .i64 (gL ls)):=by
 refine FW Tryz.func9 ?_;refine R0 ?_;refine aC fun K hK=>?_;refine R0 ?_;refine aF (b:=decide ((1000:Int)<ls.length)) rfl (fun hb=>?_) (fun hb=>?_)
 · refine R0 ?_;refine aE (RT Tryz.results9 ?_);have hE:=qC (ls:=ls) (by simp at hb;omega);refine aO [] (.slc []) (.int .i64 3) ?_ ⟨by rw[jV (by rw[hE];decide)];rfl,by rw[hE]⟩;simp
 refine aJ ?_;refine T0 (hK _ _ _ ?_);clear hK K;have hn:ls.length≤1000:=by simp at hb;omega
 clear hb;refine R0 ?_;refine aC fun K hK=>?_;refine R0 ?_;refine aM ?_;refine iN 4 0 5 1 rfl rfl rfl rfl ?_;refine bN (α:={i:Nat//i≤ls.length∧ ∀x∈ls.take i,okL x=true}) (fun i=>(fin [(0,.c (.slc (ls.map fun l=> .slc (l.map .str)))),(4,.own 28 (eO (ls.take i.1)).length),(5,.c (.int .i64 i.1))],fob [(28,.row 5 1 ((eO (ls.take i.1)).map dG))])) 100 (fun i=>ls.length-i.1) ⟨0,by omega,by simp⟩ (fF) ?_;rintro⟨i,hi,hk⟩;refine aC fun K hK=>?_;refine AU ?_;refine aF (b:=decide ((i:Int)<ls.length)) rfl (fun hb=>?_) (fun hb=>?_)
 ·
  have hlt:i<ls.length:=by simpa using hb
  clear hb;have hl1:=h1 ls[i] (C0 hlt);have hne: ∀l∈ls.take i,l≠[]:=fun l hl=>((gR l).1 (hk l hl)).1;have hsd:=aK8 hk;rw[D9]at hsd;have hdl:=oR hne;have hdt1:=uS hlt;obtain⟨l,hl⟩: ∃l,l=ls[i]:=⟨_,rfl⟩;have hln:nth (ls.map fun l=>CV.slc (l.map .str)) i= .slc (l.map .str):=by rw[aV hlt,hl]
  rw[←hl]at hdt1 hl1;have hlti:(i:Int)<ls.length:=by omega
  refine aJ ?_;refine T0 (hK _ _ _ ?_);clear hK K;refine aC fun K hK=>?_;refine aM ?_;refine aC fun K hK=>?_;refine RS ?_;have F:=aI @A0 (aI @A4 (aI hlt hln));refine AU ?_;refine aF (b:=(l.length:Int)==0) rfl (fun hb=>?_) (fun hb=>?_)
  ·
   refine R0 ?_;refine aE (RT Tryz.results9 ?_);have hc:iO l=1:=by rw[iO,B6 (by simp at hb;simp[hb])]
   have hE:=iA hn hlt hk (by rw[←hl,okL,hc];rfl);rw[←hl,hc]at hE;refine aO [] (.slc []) (.int .i64 1) ?_ ⟨by rw[jV (by rw[hE];decide)];rfl,by rw[hE]⟩;simp
  refine aJ ?_;refine T0 (hK _ _ _ ?_);clear hK K;refine aC fun K hK=>?_;have hn0:l.length≠0:=by simp at hb;simp[hb]
  clear hb;refine AU ?_;refine aF (b:=decide ((120:Int)<l.length)) rfl (fun hb=>?_) (fun hb=>?_)
  ·
   refine R0 ?_;refine aE (RT Tryz.results9 ?_);have hc:iO l=3:=by rw[iO,A7 hn0,B6 (by simp at hb;omega)]
   have hE:=iA hn hlt hk (by rw[←hl,okL,hc];rfl);rw[←hl,hc]at hE;refine aO [] (.slc []) (.int .i64 3) ?_ ⟨by rw[jV (by rw[hE];decide)];rfl,by rw[hE]⟩;simp
  refine aJ ?_;refine T0 (hK _ _ _ ?_);clear hK K;refine aC fun K hK=>?_;have hn1:l.length≤120:=by simp at hb;omega
  clear hb;refine R0 ?_;refine aM ?_;refine bN (α:={k:Nat//k≤l.length∧ ∀x∈l.take k,x.length≤32768}) (fun k=>(fin [(0,.c (.slc (ls.map fun l=> .slc (l.map .str)))),(4,.own 28 (eO (ls.take i)++fR (l.take k.1)).length),(5,.c (.int .i64 i)),(6,.c (.int .i64 k.1))],fob [(28,.row 5 1 ((eO (ls.take i)++fR (l.take k.1)).map dG))])) 200 (fun k=>l.length-k.1) ⟨0,by omega,by simp⟩ (fF) ?_;rintro⟨k,hk',hkw⟩;have hsw:=yK (l.take k) hkw;rw[D9]at hsw;refine aC fun K hK=>?_;refine RS ?_;have F:=aI @A0 (aI hlti hln);refine AU ?_;refine aF (b:=decide ((k:Int)<l.length)) rfl (fun hb=>?_) (fun hb=>?_)
  ·
   have hlk:k<l.length:=by simpa using hb
   clear hb;refine aJ ?_;refine T0 (hK _ _ _ ?_);clear hK K;refine aC fun K hK=>?_;refine aM ?_;refine aC fun K hK=>?_;refine RS ?_;have F:=aI @A0 (aI @A4 (aI hlt (aI hln (aI hlk (nM hlk)))));refine AU ?_;refine aF (b:=decide ((32768:Int)<l[k].length)) rfl (fun hb=>?_) (fun hb=>?_)
   ·
    refine R0 ?_;refine aE (RT Tryz.results9 ?_);have hc:iO l=3:=by rw[iO,A7 hn0,A7 (by omega),B6];simp only[S4,B9];exact⟨_,C0 hlk,by simp at hb;omega⟩
    have hE:=iA hn hlt hk (by rw[←hl,okL,hc];rfl);rw[←hl,hc]at hE;refine aO [] (.slc []) (.int .i64 3) ?_ ⟨by rw[jV (by rw[hE];decide)];rfl,by rw[hE]⟩;simp
   refine aJ ?_;refine T0 (hK _ _ _ ?_);clear hK K;refine aC fun K hK=>?_;have hw2:l[k].length≤32768:=by simp at hb;omega
   clear hb;have hel:=mR l[k];have hsz:=jU l[k];have hsp:=qA l[k];have hpe:0<(gQ l[k]).length:=by omega
   have htk:=qB hlk;have hbe:(eO (ls.take i)).length+(fR (l.take k)).length+(gQ l[k]).length≤140737488355328:=by omega
   have hbe1:(eO (ls.take i)).length+(fR (l.take k)).length+1+(gQ l[k]).length≤140737488355328:=by omega
   refine R0 ?_;refine aF (b:=decide ((0:Int)<k)) rfl (fun hb=>?_) (fun hb=>?_)
   ·
    refine Rg ?_;have F:=aI @A3.{0} @A2.{0,0};refine AU ?_;refine T2 (hK _ _ _ ?_);clear hK K;refine Rg ?_;iterate 8 refine S0 ?_ (e:=fun _ h_=>by simp only[sH,↓sP,sA,tyS,simprocAttr,A0,A4,hlt,hln,hlk,aV hlk,A3,A2,hpe,hbe,hbe1];exact AX h_)
    refine HS rfl rfl fun K' hK'=>?_;simp only[sH,↓sP,sA,tyS,simprocAttr,A0,A4,hlt,hln,hlk,aV hlk,A3,A2,hpe,hbe,hbe1];refine C1 (nB l[k] (by omega)) ?_;rintro u rfl;refine AX (hK' _ _ ?_);clear hK' K';iterate 2 refine S0 ?_ (e:=fun _ h_=>by simp only[sH,↓sP,sA,tyS,simprocAttr,A0,A4,hlt,hln,hlk,aV hlk,A3,A2,hpe,hbe,hbe1];exact AX h_)
    refine T2 (hK _ _ _ ?_);clear hK K;refine aL (by kernel_rfl) ?_;refine TQ (fS k) ?_;have hk0:k≠0:=by simp at hb;omega
    refine⟨⟨k+1,hlk,gS (p:=fun x=>x.length≤32768) hlk hw2 hkw⟩,aP (by omega) ?_ ?_,?_⟩
    · rw[htk,A7 hk0];simp;omega
    · rw[htk,A7 hk0];simp only[C5,←List.append_assoc];exact⟨rfl,by omega,trivial,trivial⟩
    show l.length-(k+1)<l.length-k;omega
   refine aJ ?_;refine T0 (hK _ _ _ ?_);clear hK K;refine Rg ?_;iterate 8 refine S0 ?_ (e:=fun _ h_=>by simp only[sH,↓sP,sA,tyS,simprocAttr,A0,A4,hlt,hln,hlk,aV hlk,A3,A2,hpe,hbe,hbe1];exact AX h_)
   refine HS rfl rfl fun K' hK'=>?_;simp only[sH,↓sP,sA,tyS,simprocAttr,A0,A4,hlt,hln,hlk,aV hlk,A3,A2,hpe,hbe,hbe1];refine C1 (nB l[k] (by omega)) ?_;rintro u rfl;refine AX (hK' _ _ ?_);clear hK' K';iterate 2 refine S0 ?_ (e:=fun _ h_=>by simp only[sH,↓sP,sA,tyS,simprocAttr,A0,A4,hlt,hln,hlk,aV hlk,A3,A2,hpe,hbe,hbe1];exact AX h_)
   refine T2 (hK _ _ _ ?_);clear hK K;refine aL (by kernel_rfl) ?_;refine TQ (fS k) ?_;have hk0:k=0:=by simp at hb;omega
   refine⟨⟨k+1,hlk,gS (p:=fun x=>x.length≤32768) hlk hw2 hkw⟩,aP (by omega) ?_ ?_,?_⟩
   · rw[htk,B6 hk0];simp;omega
   · rw[htk,B6 hk0,I9];simp only[C5,←List.append_assoc];exact⟨rfl,by omega,trivial,trivial⟩
   show l.length-(k+1)<l.length-k;omega
  have hek:k=l.length:=by simp at hb;omega
  subst hek;clear hb;rw[E2]at*;have hokl:okL l=true:=(gR l).2 ⟨fun h=>hn0 (by rw[h];rfl),hn1,hkw⟩;refine bG (T3 ?_);clear hK K;refine AX (hK _ _ _ ?_);clear hK K;refine Rg ?_;have F:=aI @A3.{0} (aI @A2.{0,0} @E2.{0});refine AU ?_;refine T2 (hK _ _ _ ?_);clear hK K;refine aL (by kernel_rfl) ?_;refine TQ (fS i) ?_;refine⟨⟨i+1,hlt,gS (p:=fun x=>okL x=true) hlt (by rw[←hl];exact hokl) hk⟩,aP (by omega) ?_ ?_,?_⟩
  · rw[hdt1,qT];simp;try omega
  · rw[hdt1,qT];simp only[C5,←List.append_assoc,E2];exact⟨rfl,by omega,trivial,trivial⟩
  show ls.length-(i+1)<ls.length-i;omega
 have hei:i=ls.length:=by simp at hb;omega
 subst hei;clear hb;rw[E2]at hk;have hE:=nK hn hk;refine bG (T3 ?_);clear hK K;refine AX (hK _ _ _ ?_);clear hK K;refine aC fun K hK=>?_;have F:=aI @E2.{0} @A2.{0,0};refine RF ?_;refine aF (b:=decide ((262144:Int)<(eO ls).length)) rfl (fun hb=>?_) (fun hb=>?_)
 · refine R0 ?_;refine aE (RT Tryz.results9 ?_);rw[B6 (by simp at hb;omega)]at hE;refine aO [] (.slc []) (.int .i64 3) ?_ ⟨by rw[jV (by rw[hE];decide)];rfl,by rw[hE]⟩;simp
 refine aJ ?_;refine T0 (hK _ _ _ ?_);clear hK K;refine R0 ?_;refine aE (RT Tryz.results9 ?_);rw[A7 (by simp at hb;omega)]at hE;refine aO [28] (.slc ((eO ls).map dG)) (.int .i64 0) ?_ ⟨by rw[qD hE],by rw[hE]⟩;simp[E6,dE]
end Go.Proofs.YtlgckianjabghaaGreatDoor
