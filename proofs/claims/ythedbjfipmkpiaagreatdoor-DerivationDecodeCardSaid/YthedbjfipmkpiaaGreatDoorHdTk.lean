/- Part of a proof: walks of functions of the program, by contracts, and the rules they use. By an AI agent. -/
import Derived.Test.YthedbjfipmkpiaaGreatDoorPl31
import Derived.Test.YthedbjfipmkpiaaGreatDoorPl02g
import Derived.Test.YthedbjfipmkpiaaGreatDoorHdU2
import Derived.Test.YthedbjfipmkpiaaGreatDoorHdSb
import Derived.Test.YthedbjfipmkpiaaGreatDoorHlIt
import Derived.Test.YthedbjfipmkpiaaGreatDoorHdX3
set_option linter.unusedSimpArgs false
set_option linter.unusedVariables false
set_option linter.defProp false
namespace Go.Pl
open Go Go.Hl
variable {q:Rq}
theorem cB5 (h:(q.k==1||(q.k==3||q.k==5))=true):lT q=(inB q.n 1 32&&jU q ⟨q.k,q.n,0,[]⟩):=by grind[lT,jU]
theorem aT7 (h:q.k=4):lT q=((inB q.n 1 32&&inB q.m 0 32)&&jU q ⟨q.k,q.n,q.m,[]⟩):=by simp[lT,h,jU,Bool.and_assoc]
theorem cB6 (h:q.k=2):lT q=(gW q.t&&jU q ⟨q.k,0,0,q.t⟩):=by simp[lT,h,jU]
theorem cB7 (h:q.k=6):lT q=(inB q.n 1 10&&jU q ⟨q.k,q.n,0,[]⟩):=by simp[lT,h,jU]
theorem cB8 (h:q.k=7):lT q=(inB q.n 0 yF&&jU q ⟨q.k,q.n,0,[]⟩):=by simp[lT,h,jU]
theorem cB9 (h:q.k=8):lT q=(true&&jU q ⟨q.k,0,0,[]⟩):=by simp[lT,h,jU]
theorem cK9 (h:(q.k==1||(q.k==3||q.k==5))=false)(h4:q.k≠4)(h2:q.k≠2)(h6:q.k≠6)(h7:q.k≠7)(h8:q.k≠8):lT q=false:=by simp_all[lT,if_neg]
variable {n:Nd}
theorem rE (h:n.k=1):eR n=(n.c==0&&(n.n==0&&lT n.q)):=by simp only[eR,if_pos h]
theorem aG3 (h:(n.k==2||n.k==3)=true):eR n=((inB n.c 1 60&&jU n.q rq0)&&n.n==0):=by
 have h':n.k=2∨n.k=3:=by simpa using h
 have h1:n.k≠1:=by omega
 simp_all[eR,if_neg,if_pos,Bool.and_assoc]
theorem rF (h:n.k=4):eR n=((inB n.c 1 60&&jU n.q rq0)&&inB n.n 1 n.c):=by simp_all[eR,if_neg,if_pos,Bool.and_assoc]
theorem cC0 (h1:n.k≠1)(h:(n.k==2||n.k==3)=false)(h4:n.k≠4):eR n=false:=by simp_all[eR,if_neg]
structure ScSt (l:List Nd)(i:Nat)(m v:Int):Prop where
 le:i≤l.length
 eq:sC l 1 0=sC (l.drop i) m v
 m0:0≤m
 m1:m≤1+60*i
 v0:0≤v
 v1:v≤i
theorem ScSt.init (l:List Nd):ScSt l 0 1 0:=⟨by omega,rfl,by omega,by omega,by omega,by omega⟩
variable {m v:Int}{i:Nat}{l:List Nd}
theorem ScSt.stop (h:ScSt l i m v)(hi:i<l.length)(hb:m=0∨eR l[i]=false):eN l=false:=by
 have:sC l 1 0=none:=by
  rw[h.eq,List.drop_eq_getElem_cons hi,sC];rcases hb with hb|hb
  · rw[if_pos hb]
  · grind
 simp[eN,this]
theorem ScSt.next (h:ScSt l i m v)(hi:i<l.length)(hm:m≠0)(hb:eR l[i]=true):ScSt l (i+1) (m+(l[i].c-1)) (if l[i].k=1 then v+1 else v):=by
 obtain⟨c1,c2,_,_⟩:=iB hb;have h0:=h.m0;have h1:=h.m1;have h2:=h.v0;have h3:=h.v1;refine⟨hi,?_,by omega,by omega,?_,?_⟩
 · rw[h.eq,List.drop_eq_getElem_cons hi,sC,if_neg hm,if_pos hb]
 all_goals grind
theorem ScSt.fin (h:ScSt l l.length m v)(h1:1≤l.length)(h2:l.length≤60):eN l=(m==0&&decide (v≤16)):=by
 have:sC l 1 0=some (m,v):=by rw[h.eq,List.drop_length];rfl
 grind[eN]
theorem wJ (h:l.length<1∨60<l.length):eN l=false:=by grind[eN]
theorem rG {l:List Nd}{i:Int}(h:eN l=false∨i<0∨(l.length:Int)≤i):uK l i=[]:=by
 unfold uK;grind
theorem aG4 (h:eN l=true)(hi:i<l.length):uK l i=eZ l l[i].c.toNat (i+1):=by simp_all[uK,if_pos,aJ4]
theorem wK (h:eN l=false):gI l=[]:=by simp[gI,h]
theorem nH (h:eN l=true):gI l=eG 0 l:=by simp[gI,h]
theorem qH : ∀{l:List Bool} {k:Nat},k<l.length→cnt (l.take (k+1))=cnt (l.take k)+(if l.getD k false=true then 1 else 0)
 |x::l,0,_=>by cases x<;>simp[cnt]
 |x::l,k+1,h=>by
  have h':k<l.length:=by simpa using h
  have e: ∀m,cnt ((x::l).take (m+1))=(if x=true then 1 else 0)+cnt (l.take m):=fun m=>by grind[cnt]
  rw[e,e,qH h'];grind
theorem bH4 (h:i<l.length):lv (l.take (i+1))=lv (l.take i)+(if l[i].k=1 then 1 else 0):=by grind[List.take_succ_eq_append_getElem,uI,lv]
theorem bA6 (l:List Nd)(i:Nat):lv (l.take i)≤i:=by grind[bT7]
def bwL (l:List Nd):List (List CV):=(List.range l.length).map fun j=>[.int .i64 (l.length-1-j:Nat),(l.getD (l.length-1-j) nd0).cv]
theorem tQ (l:List Nd):(bwL l).length=l.length:=by simp[bwL]
theorem cC1 {l:List Nd}{j:Nat}(h:j<(bwL l).length)(h2:l.length-1-j<l.length):(bwL l)[j]=[.int .i64 (l.length-1-j:Nat),(l[l.length-1-j]).cv]:=by simp[bwL,h2]
end Go.Pl
namespace Go.Proofs.YthedbjfipmkpiaaGreatDoor
open Go Go.Hl Go.Pl
set_option maxRecDepth 10000
set_option maxHeartbeats 16000000
theorem co3 :Tryz.prog.cellsOf 3=1:=by kernel_rfl
theorem co2 :Tryz.prog.cellsOf 2=1:=by kernel_rfl
theorem co9 :Tryz.prog.cellsOf 9=1:=by kernel_rfl
theorem cN7 (n:Nat)(x:Rq):CV.ofTy Tryz.prog (n+2) 87 x.cv=true:=by
 simp only[Rq.cv,CV.ofTyF,CV.ofTy,tyS,co2,co3,co9,CV.cells,beq_self_eq_true,Bool.and_true]
theorem aT8 (x y:Rq)(K:CV→Prop):jB Tryz.prog .eql 87 (.c x.cv) (.c y.cv) K=K (.bool (jU x y)):=by
 have ha:aB7 Tryz.prog 87=true:=by kernel_rfl
 have h1:=cN7 6 x;have h2:=cN7 6 y;have e:CV.eqv (.agg [.int .i64 x.k,.int .i64 x.n,.int .i64 x.m,.str x.t]) (.agg [.int .i64 y.k,.int .i64 y.n,.int .i64 y.m,.str y.t])=jU x y:=by simp only[CV.eqv,CV.eqvL,jU,Bool.and_true]
 simp only[Rq.cv]at h1 h2⊢;simp only[jB,ha,h1,h2,e,true_and]
theorem cC2 :CV.agg [.int .i64 0,.int .i64 0,.int .i64 0,.str []]=rq0.cv:=rfl
theorem mL (n a b:Int):cJ Tryz.prog 153 [.int .i64 n,.int .i64 a,.int .i64 b] (fun v=>v= .bool (inB n a b)):=by
 refine FW Tryz.func153 ?_;refine R0 ?_;refine aB fun K hK=>Rg ?_;iterate 4 refine S0 ?_
 refine aL 9 rfl (fun h1_9=>?_) (fun h1_9=>?_)
 ·
  have F:=h1_9;iterate 5 refine SF ?_
  refine T2 (hK _ _ _ ?_);clear hK K;refine aF (RT Tryz.results153 ?_);exact aJ [] (.bool _) rfl (by simp only[inB,h1_9,Bool.true_and,Bool.false_and])
 have F:=h1_9;iterate 5 refine SF ?_
 refine T2 (hK _ _ _ ?_);clear hK K;refine aF (RT Tryz.results153 ?_);exact aJ [] (.bool _) rfl (by simp only[inB,h1_9,Bool.true_and,Bool.false_and])
theorem aT9 (q:Rq)(hn:q.t.length<2^63):cJ Tryz.prog 128 [q.cv] (fun v=>v= .bool (lT q)):=by
 refine FW Tryz.func128 ?_;refine R0 ?_;refine aB fun K hK=>Rg ?_;iterate 5 refine S0 ?_
 refine T2 (hK _ _ _ ?_);clear hK K;refine R0 ?_;refine aB fun K hK=>?_;have key0: ∀(s:Bool) (u:Rq) fr ob nx,lT q=(s&&jU q u)→Fits 0 fr ob (fin [(1,.ptr 0 0),(3,.ptr 20 0),(4,.c (.bool s))]) (fob [(0,.box 87 (.c q.cv)),(20,.box 87 (.c u.cv))]) 1000→K fr ob nx:=by
  rintro s u fr ob nx hq hf;refine hK _ _ _ (bE hf ?_);clear hf hK K;refine aB fun K hK=>Rg ?_;have F:=@aT8;iterate 2 refine SF ?_
  refine aL 62 rfl (fun h18_62=>?_) (fun h18_62=>?_)
  ·
   have F:=aI @aT8 h18_62;iterate 5 refine SF ?_
   refine T2 (hK _ _ _ ?_);clear hK K;refine aF (RT Tryz.results128 ?_);exact aJ [] (.bool _) rfl (by rw[hq,h18_62,Bool.true_and])
  have F:=aI @aT8 h18_62;iterate 5 refine SF ?_
  refine T2 (hK _ _ _ ?_);clear hK K;refine aF (RT Tryz.results128 ?_);exact aJ [] (.bool false) rfl (by rw[hq,h18_62,Bool.false_and])
 refine R0 ?_;refine aN ?_;refine aB fun K hK=>?_;have key: ∀(b:Bool) fr ob nx,b=(q.k==1||(q.k==3||q.k==5))→Fits 0 fr ob (fin [(1,.ptr 0 0),(3,.ptr 20 0),(4,.c (.bool true)),(9,.c (.int .i64 q.k)),(10,.c (.bool b))]) (fob [(0,.box 87 (.c q.cv)),(20,.box 87 (.c (Rq.cv ⟨q.k,0,0,[]⟩)))]) 300→K fr ob nx:=by
  rintro b fr ob nx rfl hf;refine hK _ _ _ (bE hf ?_);clear hf hK K;refine aH (b:=_) rfl (fun hb=>?_) (fun hb=>?_)
  ·
   refine DW [(0,[],[]),(1,[],[]),(2,[],[]),(3,[],[]),(5,[],[]),(4,[],[0,1,5]),(6,[],[]),(7,[],[])] [0,1,0,4,12,3,63,127] ?_;iterate 5 refine W0 ?_
   refine bL (g:=none) rfl rfl fun K' hK'=>T5 ?_;refine C3 (mL _ _ _) ?_;rintro u rfl;refine AX (hK' _ _ ?_);clear hK' K';iterate 2 refine W0 ?_
   refine T4 ?_;exact key0 (inB q.n 1 32) ⟨q.k,q.n,0,[]⟩ _ _ _ (cB5 hb) (fF)
  have h1:=hb;refine R0 ?_;refine aH (b:=_) rfl (fun hb=>?_) (fun hb=>?_)
  ·
   refine DW [(0,[],[]),(1,[],[]),(2,[],[]),(3,[],[]),(4,[],[]),(5,[],[]),(12,[],[]),(6,[],[0,1,2,3,12]),(7,[],[]),(8,[],[]),(9,[],[]),(10,[],[0,1,2,3,12]),(11,[],[]),(13,[],[2,3,11]),(14,[],[]),(15,[],[11]),(16,[],[])] [0,1,0,4,0,16,48,112,240,496,1008,2032,3,6131,14335,30719,65535] ?_;iterate 7 refine W0 ?_
   refine bL (g:=none) rfl rfl fun K' hK'=>T5 ?_;refine C3 (mL _ _ _) ?_;rintro u rfl;refine AX (hK' _ _ ?_);clear hK' K';refine W0 ?_;refine iV 28 rfl (fun h10_28=>?_) (fun h10_28=>?_)
   ·
    have F:=h10_28;iterate 2 refine WF ?_
    refine bL (g:=some (29,true)) rfl rfl fun K' hK'=>T6 ?_;refine C3 (mL _ _ _) ?_;rintro u rfl;refine AX (hK' _ _ ?_);clear hK' K';iterate 5 refine WF ?_
    refine T4 ?_;exact key0 (inB q.m 0 32) ⟨q.k,q.n,q.m,[]⟩ _ _ _ (by rw[aT7 (by simpa using hb),h10_28,Bool.true_and]) (fF)
   have F:=h10_28;iterate 8 refine WF ?_
   refine T4 ?_;exact key0 false ⟨q.k,q.n,q.m,[]⟩ _ _ _ (by rw[aT7 (by simpa using hb),h10_28];rfl) (fF)
  have h2:=hb;refine R0 ?_;refine aH (b:=_) rfl (fun hb=>?_) (fun hb=>?_)
  ·
   refine DW [(0,[],[]),(1,[],[]),(2,[],[]),(3,[],[]),(5,[],[]),(4,[],[0,1,5]),(6,[],[]),(7,[],[])] [0,1,0,4,12,3,63,127] ?_;iterate 5 refine W0 ?_
   refine bL (g:=none) rfl rfl fun K' hK'=>T5 ?_;refine C1 (cI7 _ hn) ?_;rintro u rfl;refine AX (hK' _ _ ?_);clear hK' K';iterate 2 refine W0 ?_
   refine T4 ?_;exact key0 (gW q.t) ⟨q.k,0,0,q.t⟩ _ _ _ (cB6 (by simpa using hb)) (fF)
  have h3:=hb;refine R0 ?_;refine aH (b:=_) rfl (fun hb=>?_) (fun hb=>?_)
  ·
   refine DW [(0,[],[]),(1,[],[]),(2,[],[]),(3,[],[]),(5,[],[]),(4,[],[0,1,5]),(6,[],[]),(7,[],[])] [0,1,0,4,12,3,63,127] ?_;iterate 5 refine W0 ?_
   refine bL (g:=none) rfl rfl fun K' hK'=>T5 ?_;refine C3 (mL _ _ _) ?_;rintro u rfl;refine AX (hK' _ _ ?_);clear hK' K';iterate 2 refine W0 ?_
   refine T4 ?_;exact key0 (inB q.n 1 10) ⟨q.k,q.n,0,[]⟩ _ _ _ (cB7 (by simpa using hb)) (fF)
  have h4:=hb;refine R0 ?_;refine aH (b:=_) rfl (fun hb=>?_) (fun hb=>?_)
  ·
   refine DW [(0,[],[]),(1,[],[]),(2,[],[]),(3,[],[]),(5,[],[]),(4,[],[0,1,5]),(6,[],[]),(7,[],[])] [0,1,0,4,12,3,63,127] ?_;iterate 5 refine W0 ?_
   refine bL (g:=none) rfl rfl fun K' hK'=>T5 ?_;refine C3 (mL _ _ _) ?_;rintro u rfl;refine AX (hK' _ _ ?_);clear hK' K';iterate 2 refine W0 ?_
   refine T4 ?_;exact key0 (inB q.n 0 1099511627776) ⟨q.k,q.n,0,[]⟩ _ _ _ (cB8 (by simpa using hb)) (fF)
  have h5:=hb;refine R0 ?_;refine aH (b:=_) rfl (fun hb=>?_) (fun hb=>?_)
  · refine aK (T3 ?_);exact key0 true ⟨q.k,0,0,[]⟩ _ _ _ (cB9 (by simpa using hb)) (fF)
  refine R0 ?_;refine aF (RT Tryz.results128 ?_);exact aJ [] (.bool false) rfl (by rw[cK9 h1 (by simpa using h2) (by simpa using h3) (by simpa using h4) (by simpa using h5) (by simpa using hb)])
 refine R0 ?_;refine aH (b:=_) rfl (fun hb=>?_) (fun hb=>?_)
 · refine aK (T3 ?_);exact key (q.k==1) _ _ _ (by rw[hb];rfl) (fF)
 have h1:=hb;refine R0 ?_;refine aH (b:=_) rfl (fun hb=>?_) (fun hb=>?_)
 · refine aK (T3 ?_);exact key (q.k==3) _ _ _ (by rw[h1,hb];rfl) (fF)
 have h1':=hb;refine aD (by kernel_rfl) ?_;simp only[↓sP,sA,tyS,simprocAttr];exact key (q.k==5) _ _ _ (by rw[h1,h1'];rfl) (fF)
theorem cC3 (n:Nd)(hn:n.q.t.length<2^63):cJ Tryz.prog 98 [n.cv] (fun v=>v= .bool (eR n)):=by
 refine FW Tryz.func98 ?_;refine R0 ?_;refine aB fun K hK=>?_;have key: ∀(b:Bool) fr ob nx,b=(inB n.c 1 60&&jU n.q rq0)→Fits 0 fr ob (fin [(1,.ptr 0 0),(3,.c (.bool b))]) (fob [(0,.box 89 (.c n.cv))]) 100→K fr ob nx:=by
  rintro b fr ob nx rfl hf;refine hK _ _ _ (bE hf ?_);clear hf hK K;refine aB fun K hK=>?_;refine R0 ?_;refine aN ?_;refine R0 ?_;refine aH (b:=_) rfl (fun hb=>?_) (fun hb=>?_)
  ·
   refine aB fun K hK=>Rg ?_;iterate 4 refine S0 ?_
   refine aL 24 rfl (fun h4_24=>?_) (fun h4_24=>?_)
   ·
    have F:=h4_24;iterate 5 refine SF ?_
    refine aL 28 rfl (fun h4_28=>?_) (fun h4_28=>?_)
    ·
     have F:=aI h4_24 h4_28;iterate 2 refine SF ?_
     refine aE (g:=some (30,true)) rfl rfl fun K' hK'=>T6 ?_;refine C1 (aT9 n.q hn) ?_;rintro u rfl;refine AX (hK' _ _ ?_);clear hK' K';iterate 2 refine SF ?_
     refine T2 (hK _ _ _ ?_);clear hK K;refine aF (RT Tryz.results98 ?_);exact aJ [] (.bool _) rfl (by rw[rE (by simpa using hb),h4_24,h4_28];rfl)
    have F:=aI h4_24 h4_28;iterate 5 refine SF ?_
    refine T2 (hK _ _ _ ?_);clear hK K;refine aF (RT Tryz.results98 ?_);exact aJ [] (.bool _) rfl (by rw[rE (by simpa using hb),h4_24,h4_28];rfl)
   have F:=h4_24;iterate 10 refine SF ?_
   refine T2 (hK _ _ _ ?_);clear hK K;refine aF (RT Tryz.results98 ?_);exact aJ [] (.bool _) rfl (by rw[rE (by simpa using hb),h4_24];rfl)
  have h1:n.k≠1:=by simpa using hb
  refine aB fun K hK=>?_;have key2: ∀(b:Bool) fr ob nx,b=(n.k==2||n.k==3)→Fits 0 fr ob (fin [(1,.ptr 0 0),(3,.c (.bool (inB n.c 1 60&&jU n.q rq0))),(19,.c (.int .i64 n.k)),(35,.c (.bool b))]) (fob [(0,.box 89 (.c n.cv))]) 300→K fr ob nx:=by
   rintro b fr ob nx rfl hf;refine hK _ _ _ (bE hf ?_);clear hf hK K;refine aH (b:=_) rfl (fun hb=>?_) (fun hb=>?_)
   ·
    refine aB fun K hK=>Rg ?_;iterate 2 refine S0 ?_
    refine aL 38 rfl (fun h7_38=>?_) (fun h7_38=>?_)
    ·
     have F:=h7_38;iterate 5 refine SF ?_
     refine T2 (hK _ _ _ ?_);clear hK K;refine aF (RT Tryz.results98 ?_);exact aJ [] (.bool _) rfl (by rw[aG3 hb,h7_38,Bool.true_and])
    have F:=h7_38;iterate 5 refine SF ?_
    refine T2 (hK _ _ _ ?_);clear hK K;refine aF (RT Tryz.results98 ?_);exact aJ [] (.bool _) rfl (by rw[aG3 hb,h7_38,Bool.false_and])
   have h2:=hb;refine R0 ?_;refine aH (b:=_) rfl (fun hb=>?_) (fun hb=>?_)
   ·
    refine aB fun K hK=>Rg ?_;iterate 2 refine S0 ?_
    refine aL 46 rfl (fun h9_46=>?_) (fun h9_46=>?_)
    ·
     have F:=h9_46;iterate 5 refine SF ?_
     refine aL 50 rfl (fun h9_50=>?_) (fun h9_50=>?_)
     ·
      have F:=aI h9_46 h9_50;iterate 7 refine SF ?_
      refine T2 (hK _ _ _ ?_);clear hK K;refine aF (RT Tryz.results98 ?_);exact aJ [] (.bool _) rfl (by rw[rF (by simpa using hb),h9_46,inB,h9_50];rfl)
     have F:=aI h9_46 h9_50;iterate 7 refine SF ?_
     refine T2 (hK _ _ _ ?_);clear hK K;refine aF (RT Tryz.results98 ?_);exact aJ [] (.bool _) rfl (by rw[rF (by simpa using hb),h9_46,inB,h9_50];rfl)
    have F:=h9_46;iterate 12 refine SF ?_
    refine T2 (hK _ _ _ ?_);clear hK K;refine aF (RT Tryz.results98 ?_);exact aJ [] (.bool _) rfl (by rw[rF (by simpa using hb),h9_46,Bool.false_and])
   refine aK ?_;refine T0 (hK _ _ _ ?_);clear hK K;refine R0 ?_;refine aF (RT Tryz.results98 ?_);exact aJ [] (.bool _) rfl (by rw[cC0 h1 h2 (by simpa using hb)])
  refine R0 ?_;refine aH (b:=_) rfl (fun hb=>?_) (fun hb=>?_)
  · refine aK (T3 ?_);exact key2 (n.k==2) _ _ _ (by rw[hb];rfl) (fF)
  have h2:=hb;refine aD (by kernel_rfl) ?_;simp only[↓sP,sA,tyS,simprocAttr];exact key2 (n.k==3) _ _ _ (by rw[hb];rfl) (fF)
 refine Rg ?_;have F:=aI @aT8 @cC2;iterate 4 refine SF ?_
 refine aL 6 rfl (fun h1_6=>?_) (fun h1_6=>?_)
 ·
  have F:=aI @aT8 (aI @cC2 h1_6);iterate 5 refine SF ?_
  refine aL 10 rfl (fun h1_10=>?_) (fun h1_10=>?_)
  ·
   have F:=aI @aT8 (aI @cC2 (aI h1_6 h1_10));iterate 6 refine SF ?_
   refine aL 16 rfl (fun h1_16=>?_) (fun h1_16=>?_)
   · simp only[h1_16];refine T4 ?_;exact key true _ _ _ (by first|(simp only[inB,rq0,h1_6,h1_10,h1_16,Bool.true_and,Bool.false_and,Bool.and_false,Bool.and_true];done)|(simp only[inB,h1_6,h1_10,Bool.true_and];exact Eq.symm h1_16)) (fF)
   simp only[h1_16];refine T4 ?_;exact key false _ _ _ (by first|(simp only[inB,rq0,h1_6,h1_10,h1_16,Bool.true_and,Bool.false_and,Bool.and_false,Bool.and_true];done)|(simp only[inB,h1_6,h1_10,Bool.true_and];exact Eq.symm h1_16)) (fF)
  have F:=aI @aT8 (aI @cC2 (aI h1_6 h1_10));iterate 6 refine SF ?_
  refine T4 ?_;exact key false _ _ _ (by first|(simp only[inB,rq0,h1_6,h1_10,Bool.true_and,Bool.false_and,Bool.and_false,Bool.and_true];done)|(simp only[inB,h1_6,h1_10,Bool.true_and];exact Eq.symm h1_16)) (fF)
 have F:=aI @aT8 (aI @cC2 h1_6);iterate 11 refine SF ?_
 refine T4 ?_;exact key false _ _ _ (by first|(simp only[inB,rq0,h1_6,Bool.true_and,Bool.false_and,Bool.and_false,Bool.and_true];done)|(simp only[inB,h1_6,h1_10,Bool.true_and];exact Eq.symm h1_16)) (fF)
theorem dW (n:Int)(h: -4611686018427387904≤n∧n≤4611686018427387904):IntKind.i64.wrap n=n:=IntWalk.i64_in _ (by omega)
theorem bH5 (l:List Nd)(hn: ∀n∈l,n.q.t.length<2^63):cJ Tryz.prog 64 [.slc (l.map Nd.cv)] (fun v=>v= .bool (eN l)):=by
 refine FW Tryz.func64 ?_;refine R0 ?_;refine aB fun K hK=>?_;refine aB fun K hK=>Rg ?_;iterate 4 refine S0 ?_
 refine aL 9 rfl (fun h1_9=>?_) (fun h1_9=>?_)
 ·
  have F:=h1_9;iterate 4 refine SF ?_
  refine T2 (hK _ _ _ ?_);clear hK K;refine CT rfl ?_;refine R0 ?_;refine aF (RT Tryz.results64 ?_);exact aJ [] (.bool false) rfl (by rw[wJ (.inl (by simp only[decide_eq_true_eq]at h1_9;omega))])
 have F:=h1_9;iterate 4 refine SF ?_
 refine aL 13 rfl (fun h1_13=>?_) (fun h1_13=>?_)
 · simp only[h1_13];refine T2 (hK _ _ _ ?_);clear hK K;refine CT rfl ?_;refine R0 ?_;refine aF (RT Tryz.results64 ?_);exact aJ [] (.bool false) rfl (by rw[wJ (.inr (by simp only[decide_eq_true_eq]at h1_13;omega))])
 simp only[h1_13];refine T2 (hK _ _ _ ?_);clear hK K;refine CF rfl ?_;refine aK ?_;refine T0 (hK _ _ _ ?_);clear hK K;have hl1:1≤l.length:=by simp only[decide_eq_false_iff_not]at h1_9;omega
 have hl2:l.length≤60:=by simp only[decide_eq_false_iff_not]at h1_13;omega
 clear h1_9 h1_13;refine R0 ?_;refine aB fun K hK=>?_;refine R0 ?_;refine aN ?_;refine bF (α:={y:Nat×Int×Int//ScSt l y.1 y.2.1 y.2.2}) (fun y=>(fin [(3,.c (.int .i64 y.1.2.1)),(4,.c (.int .i64 y.1.2.2)),(15,.c (.slc (l.map Nd.cv))),(16,.c (.int .i64 l.length)),(17,.c (.int .i64 y.1.1))],fob [])) 200 (fun y=>l.length-y.1.1) ⟨(0,1,0),ScSt.init l⟩ (fF) ?_;rintro⟨⟨i,m,v⟩,hst⟩;simp only at hst;have hi:=hst.le;have hm0:=hst.m0;have hm1:=hst.m1;have hv0:=hst.v0;have hv1:=hst.v1;refine R0 ?_;refine aB fun K hK=>?_;refine aH (b:=decide ((i:Int)<l.length)) rfl (fun hb=>?_) (fun hb=>?_)
 ·
  have hlt:i<l.length:=by simpa using hb
  clear hb;refine aK ?_;refine T0 (hK _ _ _ ?_);clear hK K;refine aB fun K hK=>?_;refine aN ?_;refine aB fun K hK=>Rg ?_;have F:=aI @Int.natCast_nonneg (aI @Int.ofNat_lt (aI hlt (nM hlt)));iterate 4 refine SF ?_
  refine T2 (hK _ _ _ ?_);clear hK K;refine aB fun K hK=>?_;refine aB fun K hK=>Rg ?_;iterate 3 refine S0 ?_
  refine aL 22 rfl (fun h7_22=>?_) (fun h7_22=>?_)
  ·
   have F:=h7_22;iterate 4 refine SF ?_
   refine T2 (hK _ _ _ ?_);clear hK K;refine CT rfl ?_;refine R0 ?_;refine aF (RT Tryz.results64 ?_);exact aJ [] (.bool false) rfl (by rw[hst.stop hlt (.inl (by simpa using h7_22))])
  have F:=h7_22;refine SF ?_;refine aE (g:=some (23,false)) rfl rfl fun K' hK'=>T6 ?_;refine C1 (cC3 l[i] (hn _ (List.getElem_mem hlt))) ?_;rintro u rfl;refine AX (hK' _ _ ?_);clear hK' K';iterate 2 refine SF ?_
  refine aL 25 rfl (fun h7_25=>?_) (fun h7_25=>?_)
  ·
   simp only[h7_25];refine T2 (hK _ _ _ ?_);clear hK K;refine CF rfl ?_;refine aK ?_;refine T0 (hK _ _ _ ?_);clear hK K;have hnb:eR l[i]=true:=by simpa using h7_25
   have hm:m≠0:=by simpa using h7_22
   obtain⟨c1,c2,c3,c4⟩:=iB hnb;have hnx:=hst.next hlt hm hnb;clear h7_22 h7_25;refine aB fun K hK=>Rg ?_;iterate 6 refine S0 ?_ (e:=fun _ h_=>by simp only[sH,↓sP,sA,tyS,simprocAttr,dW (l[i].c-1) (by omega),dW (m+(l[i].c-1)) (by omega)];exact AX h_)
   refine T2 (hK _ _ _ ?_);clear hK K;refine R0 ?_;refine aH (b:=_) rfl (fun hb=>?_) (fun hb=>?_)
   · refine aD (by kernel_rfl) ?_;simp only[↓sP,sA,tyS,simprocAttr,dW (v+1) (by omega)];refine AX (hK _ _ _ ?_);clear hK K;refine aD (by kernel_rfl) ?_;simp only[↓sP,sA,tyS,simprocAttr,dW ((i:Int)+1) (by omega)];rw[if_pos (by simpa using hb)]at hnx;refine⟨⟨(i+1,_,_),hnx⟩,fF,?_⟩;show l.length-(i+1)<l.length-i;omega
   refine aK ?_;refine T0 (hK _ _ _ ?_);clear hK K;refine aD (by kernel_rfl) ?_;simp only[↓sP,sA,tyS,simprocAttr,dW ((i:Int)+1) (by omega)];rw[if_neg (by simpa using hb)]at hnx;refine⟨⟨(i+1,_,_),hnx⟩,fF,?_⟩;show l.length-(i+1)<l.length-i;omega
  simp only[h7_25];refine T2 (hK _ _ _ ?_);clear hK K;refine CT rfl ?_;refine R0 ?_;refine aF (RT Tryz.results64 ?_);exact aJ [] (.bool false) rfl (by rw[hst.stop hlt (.inr (by simpa using h7_25))])
 refine bA (T3 ?_);clear hK K;refine AX (hK _ _ _ ?_);clear hK K;have hei:i=l.length:=by simp only[decide_eq_false_iff_not]at hb;omega
 subst hei;have hf:=hst.fin hl1 hl2;clear hb;refine aB fun K hK=>Rg ?_;iterate 3 refine S0 ?_
 refine aL 40 rfl (fun h13_40=>?_) (fun h13_40=>?_)
 ·
  have F:=h13_40;iterate 4 refine SF ?_
  refine T2 (hK _ _ _ ?_);clear hK K;refine aF (RT Tryz.results64 ?_);exact aJ [] (.bool _) rfl (by rw[hf,h13_40,Bool.true_and])
 have F:=h13_40;iterate 4 refine SF ?_
 refine T2 (hK _ _ _ ?_);clear hK K;refine aF (RT Tryz.results64 ?_);exact aJ [] (.bool false) rfl (by rw[hf,h13_40,Bool.false_and])
def iC (n:Nat):CV:= .int .i64 n
theorem cQ (l:List Nat):CV.denilL (l.map iC)=l.map iC:=cE (fun _=>rfl) l
theorem cC4 (l:List Nd)(ht:IsTree l)(i:Nat)(hi:i<l.length):cJ Tryz.prog 105 [.slc (l.map Nd.cv),.int .i64 i] (fun v=>v= .int .i64 (aft l i:Nat)):=by
 have hl:=ht.len;refine FW Tryz.func105 ?_;refine R0 ?_;refine aB fun K hK=>?_;refine R0 ?_;refine aN ?_;refine bF (α:={y:Nat×Nat//AftSt l i y.1 y.2∧y.1≤1+60*y.2}) (fun y=>(fin [(0,.c (.slc (l.map Nd.cv))),(1,.c (.int .i64 y.1.2)),(5,.c (.int .i64 y.1.1))],fob [])) 100 (fun y=>l.length-y.1.2) ⟨(1,i),⟨Nat.le_of_lt hi,rfl⟩,by omega⟩ (fF) ?_;rintro⟨⟨m,p⟩,hst,hm⟩;simp only at hst hm;have hp:=hst.1;refine aB fun K hK=>?_;refine R0 ?_;refine aH (b:=decide ((0:Int)<(m:Int))) rfl (fun hb=>?_) (fun hb=>?_)
 ·
  have hm1:0<m:=by simpa using hb
  have hpl:=hst.lt ht hi hm1;obtain⟨c1,c2,_,_⟩:=iB (ht.node _ (List.getElem_mem hpl));obtain⟨m',rfl⟩: ∃m',m=m'+1:=⟨m-1,by omega⟩;have hnx:=hst.next hpl;have hw1:IntKind.i64.wrap (((m'+1:Nat):Int)+(l[p].c-1))=((m'+l[p].c.toNat:Nat):Int):=by rw[dW _ (by omega)];omega
  have hw2:IntKind.i64.wrap ((p:Int)+1)=((p+1:Nat):Int):=by rw[dW _ (by omega)];rfl
  clear hb;refine aK ?_;refine T0 (hK _ _ _ ?_);clear hK K;refine aB fun K hK=>?_;refine aN ?_;refine Rg ?_;iterate 9 refine S0 ?_ (e:=fun _ h_=>by simp only[sH,↓sP,sA,tyS,simprocAttr,Int.natCast_nonneg,Int.ofNat_lt,hpl,bP hpl,dW (l[p].c-1) (by omega),hw1];exact AX h_)
  refine T2 (hK _ _ _ ?_);clear hK K;refine aD (by kernel_rfl) ?_;refine TQ hw2 ?_;refine⟨⟨(m'+l[p].c.toNat,p+1),hnx,by simp only;omega⟩,fF,?_⟩;show l.length-(p+1)<l.length-p;omega
 refine bA (T3 ?_);clear hK K;refine AX (hK _ _ _ ?_);clear hK K;refine R0 ?_;refine aF (RT Tryz.results105 ?_);have hm0:m=0:=by simpa using hb
 subst hm0;exact aJ [] (.int .i64 p) rfl (by rw[hst.fin])
theorem aU0 (l:List Nd)(hn: ∀n∈l,n.q.t.length<2^63)(i:Int):cJ Tryz.prog 75 [.slc (l.map Nd.cv),.int .i64 i] (fun v=>v= .slc ((uK l i).map iC)):=by
 refine FW Tryz.func75 ?_;refine R0 ?_;refine aB fun K hK=>?_;refine aB fun K hK=>Rg ?_;refine S0 ?_;refine HS rfl rfl fun K' hK'=>T5 ?_;refine C1 (bH5 l hn) ?_;rintro u rfl;refine AX (hK' _ _ ?_);clear hK' K';iterate 2 refine S0 ?_
 refine aL 8 rfl (fun h1_8=>?_) (fun h1_8=>?_)
 ·
  have F:=h1_8;iterate 4 refine SF ?_
  refine aL 12 rfl (fun h1_12=>?_) (fun h1_12=>?_)
  ·
   have F:=aI h1_8 h1_12;iterate 5 refine SF ?_
   refine T2 (hK _ _ _ ?_);clear hK K;refine CT rfl ?_;refine R0 ?_;refine aF (RT Tryz.results75 ?_);exact aJ [] (.slc []) rfl (by rw[rG (.inr (.inl (by simpa using h1_12)))];rfl)
  have F:=aI h1_8 h1_12;iterate 5 refine SF ?_
  refine aL 18 rfl (fun h1_18=>?_) (fun h1_18=>?_)
  · simp only[h1_18];refine T2 (hK _ _ _ ?_);clear hK K;refine CT rfl ?_;refine R0 ?_;refine aF (RT Tryz.results75 ?_);exact aJ [] (.slc []) rfl (by rw[rG (.inr (.inr (by simpa using h1_18)))];rfl)
  simp only[h1_18];refine T2 (hK _ _ _ ?_);clear hK K;refine CF rfl ?_;refine aK ?_;refine T0 (hK _ _ _ ?_);clear hK K;obtain⟨j,rfl⟩: ∃j:Nat,i=j:=⟨i.toNat,by simp at h1_12;omega⟩;have hj:j<l.length:=by simp at h1_18;omega
  have ht:=jL h1_8;have hcv:=aG4 h1_8 hj;have hl:=ht.len;obtain⟨c1,c2,_,_⟩:=iB (ht.node _ (List.getElem_mem hj));have hw2:IntKind.i64.wrap ((j:Int)+1)=((j+1:Nat):Int):=by rw[dW _ (by omega)];rfl
  clear h1_8 h1_12 h1_18;refine R0 ?_;refine aB fun K hK=>?_;have F:=hw2;refine RF ?_;refine aN ?_;refine gQ 5 0 3 1 rfl rfl rfl rfl ?_;refine bF (α:={k:Nat//k≤l[j].c.toNat}) (fun k=>(fin [(0,.c (.slc (l.map Nd.cv))),(1,.c (.int .i64 j)),(5,.own 72 k.1),(6,.c (.int .i64 (dS l k.1 (j+1):Nat)))],fob [(72,.row 3 1 ((eZ l k.1 (j+1)).map iC))])) 200 (fun k=>l[j].c.toNat-k.1) ⟨0,by omega⟩ (aM (by omega) (by simp[aW,fin_at,finA_at,upd_at,HV.men,HV.menL,HV.norm,HV.toC,HV.toCL,eZ,dS]) (by simp[aX,fob_at,upd_at,none0_at,bT,HO.men,HV.men,HV.menL,HV.norm,HV.toC,HV.toCL,eZ,dS])) ?_;rintro⟨k,hk⟩;have hkl:=mE l k (j+1);refine aB fun K hK=>?_;refine aB fun K hK=>Rg ?_;have F:=aI @Int.natCast_nonneg (aI @Int.ofNat_lt (aI hj (aI (nM hj) hkl)));iterate 8 refine SF ?_
  refine T2 (hK _ _ _ ?_);clear hK K;refine aH (b:=decide ((k:Int)<l[j].c)) rfl (fun hb=>?_) (fun hb=>?_)
  ·
   have hkc:k<l[j].c.toNat:=by simp only[decide_eq_true_eq]at hb;omega
   have hkp:=sD ht hj hkc;have e:(eZ l (k+1) (j+1)).map iC=(eZ l k (j+1)).map iC++[CV.int .i64 (dS l k (j+1):Nat)]:=by rw[jG,List.map_append];rfl
   refine aK ?_;refine T0 (hK _ _ _ ?_);clear hK K;refine aB fun K hK=>?_;refine aN ?_;refine Rg ?_;have F:=hkl;iterate 5 refine SF ?_
   refine T2 (hK _ _ _ ?_);clear hK K;refine Rg ?_;iterate 2 refine S0 ?_
   refine HS rfl rfl fun K' hK'=>T5 ?_;refine C2 (cC4 l ht _ hkp) ?_;rintro u rfl;refine AX (hK' _ _ ?_);clear hK' K';refine S0 ?_;refine T4 ?_;refine⟨⟨k+1,hkc⟩,aM (by omega) (by simp[aW,fin_at,finA_at,upd_at,HV.men,HV.menL,HV.norm,HV.toC,HV.toCL,e,hkl,fN]) (by simp[aX,fob_at,upd_at,none0_at,bT,HO.men,HV.men,HV.menL,HV.norm,HV.toC,HV.toCL,e,hkl,fN]),?_⟩;show l[j].c.toNat-(k+1)<l[j].c.toNat-k;omega
  refine bA (T3 ?_);clear hK K;refine AX (hK _ _ _ ?_);clear hK K;refine R0 ?_;refine aF (RT Tryz.results75 ?_);have hkc:k=l[j].c.toNat:=by simp only[decide_eq_false_iff_not]at hb;omega
  subst hkc;exact aJ [72] (.slc ((eZ l l[j].c.toNat (j+1)).map iC)) (by simp[HV.close,fob_at,hkl,HV.norm,HV.toC,cQ,CV.denil]) (by rw[hcv])
 have F:=h1_8;iterate 9 refine SF ?_
 refine T2 (hK _ _ _ ?_);clear hK K;refine CT rfl ?_;refine R0 ?_;refine aF (RT Tryz.results75 ?_);exact aJ [] (.slc []) rfl (by rw[rG (.inl h1_8)];rfl)
theorem aG5 (l:List Nd)(hn: ∀n∈l,n.q.t.length<2^63):cJ Tryz.prog 29 [.slc (l.map Nd.cv)] (fun v=>v= .slc ((gI l).map iC)):=by
 refine FW Tryz.func29 ?_;refine R0 ?_;refine aB fun K hK=>?_;refine aB fun K hK=>Rg ?_;refine S0 ?_;refine HS rfl rfl fun K' hK'=>T5 ?_;refine C1 (bH5 l hn) ?_;rintro u rfl;refine AX (hK' _ _ ?_);clear hK' K';refine S0 ?_;refine T2 (hK _ _ _ ?_);clear hK K;refine aH (b:=!eN l) rfl (fun hb=>?_) (fun hb=>?_)
 · refine R0 ?_;refine aF (RT Tryz.results29 ?_);exact aJ [] (.slc []) rfl (by rw[wK (by simpa using hb)];rfl)
 have h8:eN l=true:=by simpa using hb
 have ht:=jL h8;have hlv:=nH h8;have hl:=ht.len;clear hb;refine aK ?_;refine T0 (hK _ _ _ ?_);clear hK K;refine R0 ?_;refine aB fun K hK=>?_;refine R0 ?_;refine aN ?_;refine gQ 3 0 3 1 rfl rfl rfl rfl ?_;refine bF (α:={i:Nat//i≤l.length}) (fun i=>(fin [(3,.own 32 (eG 0 (l.take i.1)).length),(9,.c (.slc (l.map Nd.cv))),(10,.c (.int .i64 l.length)),(11,.c (.int .i64 i.1))],fob [(32,.row 3 1 ((eG 0 (l.take i.1)).map iC))])) 200 (fun i=>l.length-i.1) ⟨0,by omega⟩ (aM (by omega) (by simp[aW,fin_at,finA_at,upd_at,HV.men,HV.menL,HV.norm,HV.toC,HV.toCL,eG]) (by simp[aX,fob_at,upd_at,none0_at,bT,HO.men,HV.men,HV.menL,HV.norm,HV.toC,HV.toCL,eG])) ?_;rintro⟨i,hi⟩;have hfl:(eG 0 (l.take i)).length≤i:=by rw[iO];have:=bT7 (l.take i);simp at this;omega
 refine R0 ?_;refine aB fun K hK=>?_;refine aH (b:=decide ((i:Int)<l.length)) rfl (fun hb=>?_) (fun hb=>?_)
 ·
  have hlt:i<l.length:=by simpa using hb
  have e:=aY1 hlt;clear hb;refine aK ?_;refine T0 (hK _ _ _ ?_);clear hK K;refine aB fun K hK=>?_;refine aN ?_;refine aB fun K hK=>Rg ?_;have F:=aI @Int.natCast_nonneg (aI @Int.ofNat_lt (aI hlt (nM hlt)));iterate 6 refine SF ?_
  refine T2 (hK _ _ _ ?_);clear hK K;refine R0 ?_;refine aH (b:=_) rfl (fun hb=>?_) (fun hb=>?_)
  ·
   rw[if_pos (by simpa using hb)]at e;refine Rg ?_;iterate 5 refine S0 ?_
   refine T2 (hK _ _ _ ?_);clear hK K;refine aD (by kernel_rfl) ?_;simp only[↓sP,sA,tyS,simprocAttr,dW ((i:Int)+1) (by omega)];refine⟨⟨i+1,hlt⟩,aM (by omega) (by simp[aW,fin_at,finA_at,upd_at,HV.men,HV.menL,HV.norm,HV.toC,HV.toCL,e,iC]) (by simp[aX,fob_at,upd_at,none0_at,bT,HO.men,HV.men,HV.menL,HV.norm,HV.toC,HV.toCL,e,iC]),?_⟩;show l.length-(i+1)<l.length-i;omega
  rw[if_neg (by simpa using hb)]at e;refine aK ?_;refine T0 (hK _ _ _ ?_);clear hK K;refine aD (by kernel_rfl) ?_;simp only[↓sP,sA,tyS,simprocAttr,dW ((i:Int)+1) (by omega)];refine⟨⟨i+1,hlt⟩,aM (by omega) (by simp[aW,fin_at,finA_at,upd_at,HV.men,HV.menL,HV.norm,HV.toC,HV.toCL,e]) (by simp[aX,fob_at,upd_at,none0_at,bT,HO.men,HV.men,HV.menL,HV.norm,HV.toC,HV.toCL,e]),?_⟩;show l.length-(i+1)<l.length-i;omega
 refine bA (T3 ?_);clear hK K;refine AX (hK _ _ _ ?_);clear hK K;refine R0 ?_;refine aF (RT Tryz.results29 ?_);have hei:i=l.length:=by simp only[decide_eq_false_iff_not]at hb;omega
 subst hei;rw[List.take_length];exact aJ [32] (.slc ((eG 0 l).map iC)) (by simp[HV.close,fob_at,HV.norm,HV.toC,cQ,CV.denil]) (by rw[hlv])
def bC (b:Bool):CV:= .bool b
theorem pR (l:List Bool):CV.denilL (l.map bC)=l.map bC:=cE (fun _=>rfl) l
theorem bP4 (l:List Nd)(hl:l.length<2^40):aJ8 Tryz.prog 79 [(26,.slc (l.map Nd.cv))] (bwL l):=by
 refine aD9 Tryz.func79 rfl (by kernel_rfl) (Nat.le_of_ble_eq_true rfl) rfl fun L J hS hY=>?_;have e0:kX [(26,CV.slc (l.map Nd.cv))]=fob [(0,.box 26 (.c (.slc (l.map Nd.cv))))]:=by
  funext i
  match i with
  |0=>rfl
  |i+1=>simp[kX,fob,upd]
 have e1:iW (List.range [((26:Nat),CV.slc (l.map Nd.cv))].length)=[.ptr 0 0]:=rfl;rw[e0,e1];refine fX fun K hK=>oI hS rfl (aD (by kernel_rfl) ?_);simp only[sR,simprocAttr];iterate 4 refine S0 ?_ (e:=fun _ h_=>by simp only[sH,↓sP,sA,tyS,simprocAttr,rI,dW ((l.length:Int)-1) (by omega),List.length_map];exact AX h_)
 simp only[sE,↓reduceIte,simprocAttr,rI];refine hK _ _ _ _ _ ?_;clear hK K;refine pG ?_;refine aQ9 (α:={j:Nat//j≤l.length}) hS (fun j=>(fin [(0,.opq (.func (.yield L) #[] #[])),(1,.ptr 0 0),(3,.c (.int .i64 ((l.length:Int)-1-j.1)))],fob [(0,.box 26 (.c (.slc (l.map Nd.cv))))])) (fun j=>j.1) 100 (fun j=>l.length-j.1) ⟨0,Nat.zero_le _⟩ rfl (fF) rfl ?_;rintro⟨j,hj⟩;refine fX fun K hK=>?_;refine fX fun K1 hK1=>oI hS rfl (aD (by kernel_rfl) ?_);simp only[sR,simprocAttr];have F:=rI;iterate 2 refine SF ?_
 simp only[sE,↓reduceIte,simprocAttr,rI];refine hK1 _ _ _ _ _ ?_;clear hK1 K1;refine kN (b:=decide ((0:Int)≤(l.length:Int)-1-j)) rfl (fun hb=>?_) (fun hb=>?_)
 ·
  have hlt:j<l.length:=by simp at hb;omega
  have hi2:l.length-1-j<l.length:=by omega
  have hxl:j<(bwL l).length:=by rw[tQ];exact hlt
  have hx:=cC1 hxl hi2;have hcast:(l.length:Int)-1-j=((l.length-1-j:Nat):Int):=by omega
  have hw1:IntKind.i64.wrap (((l.length-1-j:Nat):Int)-1)=(l.length:Int)-1-((j:Int)+1):=by rw[dW _ (by omega)];omega
  refine oJ ?_;simp only[sE,↓reduceIte,simprocAttr,rI];refine hK _ _ _ _ _ ?_;clear hK K;refine fX fun K hK=>?_;refine pG ?_;refine fX fun K1 hK1=>uO (l:=L) 6 hS hY rfl (by kernel_rfl) (by decide) ?_;simp only[sR,List.range',simprocAttr];have F:=aI rI (aI hcast (aI @List.length_map.{0,0} (aI @Int.natCast_nonneg (aI @Int.ofNat_lt (aI hi2 (nM hi2))))));iterate 6 refine SF ?_
  rw[hlex];refine⟨_,_,_,hxl,rfl,rfl,rfl,rfl,rfl,?_,?_,?_⟩
  · rw[hx];simp only[hcast];rfl
  ·
   simp only[sR,List.range',simprocAttr];have F:=rI;refine SF ?_;simp only[sE,↓reduceIte,simprocAttr,rI];refine hK1 _ _ _ _ _ ?_;clear hK1 K1;refine kN (b:=false) rfl (fun hb=>by cases hb) (fun _=>?_);refine oJ ?_;simp only[sE,↓reduceIte,simprocAttr,rI];refine hK _ _ _ _ _ ?_;clear hK K;refine oI hS rfl (aD (by kernel_rfl) ?_);simp only[sR,simprocAttr];have F:=aI rI (aI hcast hw1);iterate 3 refine SF ?_
   simp only[sE,↓reduceIte,simprocAttr,rI];refine⟨⟨j+1,hlt⟩,fF,trivial,rfl,?_⟩;show l.length-(j+1)<l.length-j;omega
  simp only[sR,List.range',simprocAttr];have F:=rI;refine SF ?_;simp only[sE,↓reduceIte,simprocAttr,rI];refine hK1 _ _ _ _ _ ?_;clear hK1 K1;refine kN (b:=true) rfl (fun _=>?_) (fun hb=>by cases hb);refine bD7 ?_;simp only[sE,↓reduceIte,simprocAttr,rI];exact⟨by simp,fun h=>by cases h⟩
 have hji:j=l.length:=by simp at hb;omega
 refine aQ8 ?_;simp only[sE,↓reduceIte,simprocAttr,rI];exact⟨by simp,fun _=>by rw[tQ];exact hji⟩
end Go.Proofs.YthedbjfipmkpiaaGreatDoor
namespace Go.Pl
open Go Go.Hl
def mM (w:List Bool)(m:Nat)(b:Bool):List Bool:=w.take m++[b]++w.drop (m+1)
variable {b:Bool}{m:Nat}{w:List Bool}
theorem mN (h:m+1≤w.length):(mM w m b).length=w.length:=by simp[mM];omega
theorem aG6 :mM w w.length b=w++[b]:=by simp[mM]
theorem aG7 (h:m≤w.length):(mM w m b).take (m+1)=w.take m++[b]:=by grind[mM,List.take_of_length_le]
def bA7 (l:List Nd)(tr:List Bool)(p:Nat)(s:List Bool×Nat):List Bool×Nat:=
 if(l.getD p nd0).k=1 then(mM s.1 s.2 (tr.getD (lv (l.take p)) false),s.2+1)
 else(mM s.1 (s.2-(l.getD p nd0).c.toNat) (kJ (l.getD p nd0) ((s.1.drop (s.2-(l.getD p nd0).c.toNat)).take (l.getD p nd0).c.toNat)),s.2-(l.getD p nd0).c.toNat+1)
def cO (l:List Nd)(tr:List Bool):Nat→List Bool×Nat
 |0=>([],0)
 |i+1=>bA7 l tr (l.length-1-i) (cO l tr i)
structure EvOk (l:List Nd)(tr:List Bool)(i:Nat):Prop where
 le:i≤l.length
 m:(cO l tr i).2=(evS (lv l) tr (l.drop (l.length-i))).length
 row:(cO l tr i).1.take (cO l tr i).2=(evS (lv l) tr (l.drop (l.length-i))).reverse
 fit:(cO l tr i).2≤(cO l tr i).1.length
 small:(cO l tr i).1.length≤i
theorem EvOk.zero (l:List Nd)(tr:List Bool):EvOk l tr 0:=⟨by omega,by simp[cO,evS],by simp[cO,evS],by simp[cO],by simp[cO]⟩
theorem aB1 (n:Nd)(l:List Bool):kJ n l.reverse=kJ n l:=by simp only[kJ,aP4,List.length_reverse]
variable {c:Nat}{E:List Bool}
theorem cC5 :E.reverse.take (E.length-c)=(E.drop c).reverse:=by rw[List.reverse_drop]
theorem cC6 (h:c≤E.length):E.reverse.drop (E.length-c)=(E.take c).reverse:=by rw[List.reverse_take]
variable {i:Nat}{l:List Nd}
theorem EvOk.at_ {tr:List Bool}(hi:i<l.length):l.drop (l.length-(i+1))=l[l.length-1-i]'(by omega)::l.drop (l.length-i):=by grind[List.drop_eq_getElem_cons]
variable {tr:List Bool}
theorem EvOk.leaf (h:EvOk l tr i)(hi:i<l.length)(hk:(l[l.length-1-i]'(by omega)).k=1):
  EvOk l tr (i+1)∧cO l tr (i+1)=(mM (cO l tr i).1 (cO l tr i).2 (tr.getD (lv (l.take (l.length-1-i))) false),(cO l tr i).2+1):=by
 have hp:l.length-1-i<l.length:=by omega
 have hg:l.getD (l.length-1-i) nd0=l[l.length-1-i]:=by simp[hp]
 have e:cO l tr (i+1)=(mM (cO l tr i).1 (cO l tr i).2 (tr.getD (lv (l.take (l.length-1-i))) false),(cO l tr i).2+1):=by
  simp only[cO,bA7,hg,if_pos hk]
 have hT:=sF l (l.length-1-i);have hd:=EvOk.at_ (tr:=tr) hi;rw[show l.length-(i+1)=l.length-1-i from by omega]at hd;have hE:evS (lv l) tr (l.drop (l.length-(i+1)))=tr.getD (lv (l.take (l.length-1-i))) false::evS (lv l) tr (l.drop (l.length-i)):=by
  rw[show l.length-(i+1)=l.length-1-i from by omega,hd,evS,if_pos hk,←hd];congr 2;omega
 refine⟨⟨hi,?_,?_,?_,?_⟩,e⟩
 · rw[e,hE];simp[h.m]
 · rw[e,hE];simp only[List.reverse_cons];rw[aG7 h.fit,h.row]
 · rw[e];have:=h.fit;simp[mM];omega
 · rw[e];have:=h.fit;have:=h.small;simp[mM];omega
theorem EvOk.inner (ht:IsTree l)(h:EvOk l tr i)(hi:i<l.length)(hk:(l[l.length-1-i]'(by omega)).k≠1):
  (l[l.length-1-i]'(by omega)).c.toNat≤(cO l tr i).2∧EvOk l tr (i+1)∧
  cO l tr (i+1)=(mM (cO l tr i).1 ((cO l tr i).2-(l[l.length-1-i]'(by omega)).c.toNat) (kJ (l[l.length-1-i]'(by omega)) (((cO l tr i).1.drop ((cO l tr i).2-(l[l.length-1-i]'(by omega)).c.toNat)).take (l[l.length-1-i]'(by omega)).c.toNat)),(cO l tr i).2-(l[l.length-1-i]'(by omega)).c.toNat+1):=by
 have hp:l.length-1-i<l.length:=by omega
 have hg:l.getD (l.length-1-i) nd0=l[l.length-1-i]:=by simp[hp]
 have e:cO l tr (i+1)=(mM (cO l tr i).1 ((cO l tr i).2-(l[l.length-1-i]'(by omega)).c.toNat) (kJ (l[l.length-1-i]'(by omega)) (((cO l tr i).1.drop ((cO l tr i).2-(l[l.length-1-i]'(by omega)).c.toNat)).take (l[l.length-1-i]'(by omega)).c.toNat)),(cO l tr i).2-(l[l.length-1-i]'(by omega)).c.toNat+1):=by
  simp only[cO,bA7,hg,if_neg hk]
 have hkl:=yG ht (tr:=tr) hp;rw[show l.length-1-i+1=l.length-i from by omega]at hkl;obtain⟨_,_,_,c4⟩:=iB (ht.node _ (List.getElem_mem hp));have c5:=c4 hk;have c6:1≤l[l.length-1-i].c.toNat:=by omega
 have hd:=EvOk.at_ (tr:=tr) hi;have hm:=h.m;have hr:=h.row;have hf:=h.fit;have hs:=h.small;have hE:evS (lv l) tr (l.drop (l.length-(i+1)))=kJ l[l.length-1-i] ((evS (lv l) tr (l.drop (l.length-i))).take l[l.length-1-i].c.toNat)::(evS (lv l) tr (l.drop (l.length-i))).drop l[l.length-1-i].c.toNat:=by
  rw[hd,evS,if_neg hk]
 generalize evS (lv l) tr (l.drop (l.length-i))=E at hm hr hkl hE;generalize l[l.length-1-i].c.toNat=c at*;have h1:(cO l tr i).1.take ((cO l tr i).2-c)=(E.drop c).reverse:=by
  rw[←cC5,←hr,List.take_take,hm,Nat.min_eq_left (by omega)]
 have h2:((cO l tr i).1.drop ((cO l tr i).2-c)).take c=(E.take c).reverse:=by
  rw[←cC6 hkl,←hr,List.drop_take,hm];congr 1;omega
 refine⟨by omega,⟨hi,?_,?_,?_,?_⟩,e⟩
 · rw[e,hE];simp only[List.length_cons,List.length_drop];omega
 · rw[e,hE];simp only[List.reverse_cons];rw[aG7 (by omega),h1,h2,aB1]
 · rw[e];simp only;rw[mN (by omega)];omega
 · rw[e];simp only;rw[mN (by omega)];omega
theorem EvOk.fin (ht:IsTree l)(h:EvOk l tr l.length):(cO l tr l.length).2=1∧ ∃h0:0<(cO l tr l.length).1.length,mF l tr=(cO l tr l.length).1[0]:=by
 have hl:=aJ5 (T:=lv l) (tr:=tr) l 1 ht.node ht.skip;have hm:=h.m;have hr:=h.row;have hf:=h.fit;rw[Nat.sub_self,List.drop_zero]at hm hr;rw[hl]at hm;have h0:0<(cO l tr l.length).1.length:=by omega
 refine⟨hm,h0,?_⟩;have ht':=cB1 ht;obtain⟨x,hx⟩: ∃x,evS (lv l) tr l=[x]:=by
  match hE:evS (lv l) tr l,hl with
  |[x],_=>exact⟨x,rfl⟩
 rw[hx,hm]at hr;rw[mF,ht',hx];have:(cO l tr l.length).1[0]=x:=by
  have:=congrArg (·.head?) hr;simpa[List.head?_take,List.head?_eq_getElem?,h0]using this
 rw[this];rfl
end Go.Pl
namespace Go.Proofs.YthedbjfipmkpiaaGreatDoor
open Go Go.Hl Go.Pl
set_option maxRecDepth 10000
set_option maxHeartbeats 16000000
theorem cL0 (l:List Nd):bD8 Tryz.prog 42 79 [.slc (l.map Nd.cv)] [(26,.slc (l.map Nd.cv))]:=by
 refine FW Tryz.func42 ?_;have F:=rI;refine RF ?_;refine RF ?_;refine aF ?_;simp only[bS,Tryz.results42,bN,bR,bM,↓sP,sA,tyS,simprocAttr,rI];refine uQ (gf:=79) (bs:=[(26,.slc (l.map Nd.cv))]) (ids:=[0]) rfl (by simp) (by decide) ?_ ?_
 ·
  intro j x hx
  match j,hx with
  |0,hx=>cases hx;rfl
 intro x hx;simp only[List.mem_cons,List.not_mem_nil,or_false]at hx;subst hx;exact congrArg CV.slc (denilL_Nd l)
theorem aU1 (n:Nd)(L:List Bool)(lo m:Nat)(hl:L.length<2^40)(h0:0<L.length)(hlo:lo≤m)(hm:m≤L.length):
  HGe Tryz.prog 43 [.c n.cv,.osl 0 L.length lo 1 m] [.row 4 1 (L.map bC)] (fun r os'=>r= .c (.bool (kJ n ((L.drop lo).take (m-lo))))∧os'=[.row 4 1 (L.map bC)]):=by
 obtain⟨V,hV⟩: ∃V,V=(L.drop lo).take (m-lo):=⟨_,rfl⟩;have hVl:V.length=m-lo:=by rw[hV];simp;omega
 rw[←hV];have hrd:List.take (m-lo) (List.drop lo (L.map bC))=V.map bC:=by rw[hV,List.map_take,List.map_drop]
 refine cI (args:=[.c n.cv,.osl 0 L.length lo 1 m]) Tryz.func43 rfl (by kernel_rfl) (fP rfl (by simp[eH,HO.men]) (by simp[HV.menL,HV.men])) (Nat.le_of_ble_eq_true rfl) ?_;have e0:lst [.row 4 1 (L.map bC)]=fob [(0,.row 4 1 (L.map bC))]:=by
  funext i
  match i with
  |0=>rfl
  |i+1=>simp[lst,fob,upd]
 show Hw _ _ 1 _ _ _ (lst _) 1;rw[e0];have F:=rI;refine RF ?_;refine RF ?_;refine aB fun K hK=>?_;refine R0 ?_ (e:=fun _ h_=>by simp only[↓sP,sA,tyS,simprocAttr,rI,hrd,List.length_map,h0,hlo,hm];exact AX h_);refine aN ?_;refine bF (α:={i:Nat//i≤V.length}) (fun i=>(fin [(1,.osl 0 L.length lo 1 m),(2,.ptr 1 0),(5,.c (.int .i64 (cnt (V.take i.1):Nat))),(8,.osl 0 L.length lo 1 m),(9,.c (.int .i64 V.length)),(10,.c (.int .i64 i.1))],fob [(0,.row 4 1 (L.map bC)),(1,.box 89 (.c n.cv))])) 100 (fun i=>V.length-i.1) ⟨0,by omega⟩ (aM (by omega) (by simp[aW,fin_at,finA_at,upd_at,HV.men,HV.menL,HV.norm,HV.toC,HV.toCL,cnt]) (by simp[aX,fob_at,upd_at,none0_at,bT,HO.men,HV.men,HV.menL,HV.norm,HV.toC,HV.toCL,cnt])) ?_;rintro⟨i,hi⟩;have hcn:cnt (V.take i)≤i:=by have:=bU0 (V.take i);simp at this;omega
 refine RF ?_;refine aB fun K hK=>?_;refine aH (b:=decide ((i:Int)<V.length)) rfl (fun hb=>?_) (fun hb=>?_)
 ·
  have hlt:i<V.length:=by simpa using hb
  have hct:=qH (l:=V) (k:=i) hlt;have hw3:IntKind.i64.wrap ((cnt (V.take i):Int)+1)=((cnt (V.take i)+1:Nat):Int):=by rw[dW _ (by omega)];rfl
  have hli:lo+i<L.length:=by omega
  have hvi:L[lo+i]=V[i]:=by simp[hV]
  have hli2:lo+i<(L.map bC).length:=by simpa using hli
  have hml:i<m-lo:=by omega
  clear hb;refine aK ?_;refine TQ rI ?_;refine AX (hK _ _ _ ?_);clear hK K;refine aB fun K hK=>?_;refine aN ?_;refine R0 ?_ (e:=fun _ h_=>by simp only[↓sP,sA,tyS,simprocAttr,rI,List.length_map,Int.natCast_nonneg,Int.ofNat_lt,h0,hm,hml,hli,bP hli,bC];exact AX h_);refine RF ?_;refine aH (b:=L[lo+i]) rfl (fun hb=>?_) (fun hb=>?_)
  · rw[hvi]at hb;rw[if_pos (by simpa[hlt]using hb)]at hct;refine aD (by kernel_rfl) ?_;simp only[↓sP,sA,tyS,simprocAttr,rI,hw3];refine AX (hK _ _ _ ?_);clear hK K;refine aD (by kernel_rfl) ?_;simp only[↓sP,sA,tyS,simprocAttr,rI,dW ((i:Int)+1) (by omega)];refine⟨⟨i+1,hlt⟩,aM (by omega) (by simp[aW,fin_at,finA_at,upd_at,HV.men,HV.menL,HV.norm,HV.toC,HV.toCL,hct]) (by simp[aX,fob_at,upd_at,none0_at,bT,HO.men,HV.men,HV.menL,HV.norm,HV.toC,HV.toCL,hct]),?_⟩;show V.length-(i+1)<V.length-i;omega
  rw[hvi]at hb;rw[if_neg (by simp[hlt,hb])]at hct;refine aK ?_;refine TQ rI ?_;refine AX (hK _ _ _ ?_);clear hK K;refine aD (by kernel_rfl) ?_;simp only[↓sP,sA,tyS,simprocAttr,rI,dW ((i:Int)+1) (by omega)];refine⟨⟨i+1,hlt⟩,aM (by omega) (by simp[aW,fin_at,finA_at,upd_at,HV.men,HV.menL,HV.norm,HV.toC,HV.toCL,hct]) (by simp[aX,fob_at,upd_at,none0_at,bT,HO.men,HV.men,HV.menL,HV.norm,HV.toC,HV.toCL,hct]),?_⟩;show V.length-(i+1)<V.length-i;omega
 refine bA ?_;refine TQ rI ?_;clear hK K;refine AX (hK _ _ _ ?_);clear hK K;refine aB fun K hK=>?_;have hei:i=V.length:=by simp only[decide_eq_false_iff_not]at hb;omega
 subst hei;rw[List.take_length]at hcn⊢;clear hb;refine RF ?_;refine aN ?_;refine RF ?_;refine aH (b:=(n.k==2)) rfl (fun hb=>?_) (fun hb=>?_)
 ·
  refine aB fun K hK=>Rg ?_;iterate 5 refine S0 ?_ (e:=fun _ h_=>by simp only[sH,↓sP,sA,tyS,simprocAttr,rI,hrd,List.length_map,h0,hlo,hm];exact AX h_)
  simp only[sE,↓reduceIte,simprocAttr,rI];refine AX (hK _ _ _ ?_);clear hK K;refine aF ?_;simp only[bS,Tryz.results43,bN,bR,bM,↓sP,sA,tyS,simprocAttr,rI];have h2:n.k=2:=by simpa using hb
  exact iD [] [] (.c (.bool ((cnt V:Int)==V.length))) [.row 4 1 (L.map bC)] rfl (by simp[HV.men]) ⟨⟨trivial,by simp,_,rfl,rfl⟩,trivial⟩ rfl List.nodup_nil (by simp) (by simp) ⟨by rw[kJ,if_pos h2];congr 2;rw[Bool.eq_iff_iff];simp;omega,rfl⟩
 have h2:n.k≠2:=by simpa using hb
 refine RF ?_;refine aH (b:=(n.k==3)) rfl (fun hb=>?_) (fun hb=>?_)
 ·
  refine RF ?_;refine aF ?_;simp only[bS,Tryz.results43,bN,bR,bM,↓sP,sA,tyS,simprocAttr,rI];have h3:n.k=3:=by simpa using hb
  exact iD [] [] (.c (.bool (decide ((1:Int)≤cnt V)))) [.row 4 1 (L.map bC)] rfl (by simp[HV.men]) ⟨⟨trivial,by simp,_,rfl,rfl⟩,trivial⟩ rfl List.nodup_nil (by simp) (by simp) ⟨by rw[kJ,if_neg h2,if_pos h3];congr 2;rw[Bool.eq_iff_iff];simp;omega,rfl⟩
 refine aK ?_;refine TQ rI ?_;refine AX (hK _ _ _ ?_);clear hK K;refine aB fun K hK=>Rg ?_;iterate 5 refine SF ?_
 simp only[sE,↓reduceIte,simprocAttr,rI];refine AX (hK _ _ _ ?_);clear hK K;refine aF ?_;simp only[bS,Tryz.results43,bN,bR,bM,↓sP,sA,tyS,simprocAttr,rI];have h3:n.k≠3:=by simpa using hb
 exact iD [] [] (.c (.bool (decide (n.n≤cnt V)))) [.row 4 1 (L.map bC)] rfl (by simp[HV.men]) ⟨⟨trivial,by simp,_,rfl,rfl⟩,trivial⟩ rfl List.nodup_nil (by simp) (by simp) ⟨by rw[kJ,if_neg h2,if_neg h3],rfl⟩
end Go.Proofs.YthedbjfipmkpiaaGreatDoor
