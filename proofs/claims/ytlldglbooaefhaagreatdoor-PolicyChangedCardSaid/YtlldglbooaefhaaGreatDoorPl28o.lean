/- Plain Lean: rules and policies as they are read (28.5). By an AI agent. -/
import Derived.Test.YtlldglbooaefhaaGreatDoorHzU1
import Derived.Test.YtlldglbooaefhaaGreatDoorPl28k
import Derived.Test.YtlldglbooaefhaaGreatDoorHlTlaw
import Derived.Test.YtlldglbooaefhaaGreatDoorHlZb
import Derived.Test.YtlldglbooaefhaaGreatDoorRows
import Derived.Test.YtlldglbooaefhaaGreatDoorPl03d
set_option linter.unusedSimpArgs false
set_option linter.unusedVariables false
set_option linter.defProp false
namespace Go.Proofs.YtlldglbooaefhaaGreatDoor
open Go Go.Hl Go.Pl
set_option maxRecDepth 10000
set_option maxHeartbeats 16000000
theorem co3 :Tryz.prog.cellsOf 3=1:=by kernel_rfl
theorem co2 :Tryz.prog.cellsOf 2=1:=by kernel_rfl
theorem co9 :Tryz.prog.cellsOf 9=1:=by kernel_rfl
theorem cC1 (n:Nat)(x:Rq):CV.ofTy Tryz.prog (n+2) 38 x.cv=true:=by
 simp only[Rq.cv,CV.ofTyF,CV.ofTy,tyS,co2,co3,co9,CV.cells,beq_self_eq_true,Bool.and_true]
theorem aE8 (x y:Rq)(K:CV→Prop):jW Tryz.prog .eql 38 (.c x.cv) (.c y.cv) K=K (.bool (fI x y)):=by
 have ha:aV5 Tryz.prog 38=true:=by kernel_rfl
 have h1:=cC1 6 x;have h2:=cC1 6 y;have e:CV.eqv (.agg [.int .i64 x.k,.int .i64 x.n,.int .i64 x.m,.str x.t]) (.agg [.int .i64 y.k,.int .i64 y.n,.int .i64 y.m,.str y.t])=fI x y:=by simp only[CV.eqv,CV.eqvL,fI,Bool.and_true]
 simp only[Rq.cv]at h1 h2⊢;simp only[jW,ha,h1,h2,e,true_and]
theorem bQ6 :CV.agg [.int .i64 0,.int .i64 0,.int .i64 0,.str []]=rq0.cv:=rfl
theorem iD (n a b:Int):cA Tryz.prog 57 [.int .i64 n,.int .i64 a,.int .i64 b] (fun v=>v= .bool (inB n a b)):=by
 refine FW Tryz.func57 ?_;refine R0 ?_;refine aC fun K hK=>Rg ?_;iterate 4 refine S0 ?_
 refine aE 9 rfl (fun h1_9=>?_) (fun h1_9=>?_)
 ·
  have F:=h1_9;iterate 5 refine SF ?_
  refine T2 (hK _ _ _ ?_);clear hK K;refine aF (RT Tryz.results57 ?_);exact aJ [] (.bool _) rfl (by simp only[inB,h1_9,Bool.true_and,Bool.false_and])
 have F:=h1_9;iterate 5 refine SF ?_
 refine T2 (hK _ _ _ ?_);clear hK K;refine aF (RT Tryz.results57 ?_);exact aJ [] (.bool _) rfl (by simp only[inB,h1_9,Bool.true_and,Bool.false_and])
theorem aN5 (q:Rq)(hn:q.t.length<2^63):cA Tryz.prog 74 [q.cv] (fun v=>v= .bool (dR q)):=by
 refine FW Tryz.func74 ?_;refine R0 ?_;refine aC fun K hK=>Rg ?_;iterate 5 refine S0 ?_
 refine T2 (hK _ _ _ ?_);clear hK K;refine R0 ?_;refine aC fun K hK=>?_;have key0: ∀(s:Bool) (u:Rq) fr ob nx,dR q=(s&&fI q u)→Fits 0 fr ob (fin [(1,.ptr 0 0),(3,.ptr 20 0),(4,.c (.bool s))]) (fob [(0,.box 38 (.c q.cv)),(20,.box 38 (.c u.cv))]) 1000→K fr ob nx:=by
  rintro s u fr ob nx hq hf;refine hK _ _ _ (bF hf ?_);clear hf hK K;refine aC fun K hK=>Rg ?_;have F:=@aE8;iterate 2 refine SF ?_
  refine aE 62 rfl (fun h18_62=>?_) (fun h18_62=>?_)
  ·
   have F:=aI @aE8 h18_62;iterate 5 refine SF ?_
   refine T2 (hK _ _ _ ?_);clear hK K;refine aF (RT Tryz.results74 ?_);exact aJ [] (.bool _) rfl (by rw[hq,h18_62,Bool.true_and])
  have F:=aI @aE8 h18_62;iterate 5 refine SF ?_
  refine T2 (hK _ _ _ ?_);clear hK K;refine aF (RT Tryz.results74 ?_);exact aJ [] (.bool false) rfl (by rw[hq,h18_62,Bool.false_and])
 refine R0 ?_;refine aM ?_;refine aC fun K hK=>?_;have key: ∀(b:Bool) fr ob nx,b=(q.k==1||(q.k==3||q.k==5))→Fits 0 fr ob (fin [(1,.ptr 0 0),(3,.ptr 20 0),(4,.c (.bool true)),(9,.c (.int .i64 q.k)),(10,.c (.bool b))]) (fob [(0,.box 38 (.c q.cv)),(20,.box 38 (.c (Rq.cv ⟨q.k,0,0,[]⟩)))]) 300→K fr ob nx:=by
  rintro b fr ob nx rfl hf;refine hK _ _ _ (bF hf ?_);clear hf hK K;refine aG (b:=_) rfl (fun hb=>?_) (fun hb=>?_)
  ·
   refine DW [(0,[],[]),(1,[],[]),(2,[],[]),(3,[],[]),(5,[],[]),(4,[],[0,1,5]),(6,[],[]),(7,[],[])] [0,1,0,4,12,3,63,127] ?_;iterate 5 refine W0 ?_
   refine cE (g:=none) rfl rfl fun K' hK'=>T5 ?_;refine C3 (iD _ _ _) ?_;rintro u rfl;refine AX (hK' _ _ ?_);clear hK' K';iterate 2 refine W0 ?_
   refine T4 ?_;exact key0 (inB q.n 1 32) ⟨q.k,q.n,0,[]⟩ _ _ _ (bP8 hb) (fF)
  have h1:=hb;refine R0 ?_;refine aG (b:=_) rfl (fun hb=>?_) (fun hb=>?_)
  ·
   refine DW [(0,[],[]),(1,[],[]),(2,[],[]),(3,[],[]),(4,[],[]),(5,[],[]),(12,[],[]),(6,[],[0,1,2,3,12]),(7,[],[]),(8,[],[]),(9,[],[]),(10,[],[0,1,2,3,12]),(11,[],[]),(13,[],[2,3,11]),(14,[],[]),(15,[],[11]),(16,[],[])] [0,1,0,4,0,16,48,112,240,496,1008,2032,3,6131,14335,30719,65535] ?_;iterate 7 refine W0 ?_
   refine cE (g:=none) rfl rfl fun K' hK'=>T5 ?_;refine C3 (iD _ _ _) ?_;rintro u rfl;refine AX (hK' _ _ ?_);clear hK' K';refine W0 ?_;refine aD7 28 rfl (fun h10_28=>?_) (fun h10_28=>?_)
   ·
    have F:=h10_28;iterate 2 refine WF ?_
    refine cE (g:=some (29,true)) rfl rfl fun K' hK'=>T6 ?_;refine C3 (iD _ _ _) ?_;rintro u rfl;refine AX (hK' _ _ ?_);clear hK' K';iterate 5 refine WF ?_
    refine T4 ?_;exact key0 (inB q.m 0 32) ⟨q.k,q.n,q.m,[]⟩ _ _ _ (by rw[aN4 (by simpa using hb),h10_28,Bool.true_and]) (fF)
   have F:=h10_28;iterate 8 refine WF ?_
   refine T4 ?_;exact key0 false ⟨q.k,q.n,q.m,[]⟩ _ _ _ (by rw[aN4 (by simpa using hb),h10_28];rfl) (fF)
  have h2:=hb;refine R0 ?_;refine aG (b:=_) rfl (fun hb=>?_) (fun hb=>?_)
  ·
   refine DW [(0,[],[]),(1,[],[]),(2,[],[]),(3,[],[]),(5,[],[]),(4,[],[0,1,5]),(6,[],[]),(7,[],[])] [0,1,0,4,12,3,63,127] ?_;iterate 5 refine W0 ?_
   refine cE (g:=none) rfl rfl fun K' hK'=>T5 ?_;refine C1 (aE1 _ hn) ?_;rintro u rfl;refine AX (hK' _ _ ?_);clear hK' K';iterate 2 refine W0 ?_
   refine T4 ?_;exact key0 (dG q.t) ⟨q.k,0,0,q.t⟩ _ _ _ (bP9 (by simpa using hb)) (fF)
  have h3:=hb;refine R0 ?_;refine aG (b:=_) rfl (fun hb=>?_) (fun hb=>?_)
  ·
   refine DW [(0,[],[]),(1,[],[]),(2,[],[]),(3,[],[]),(5,[],[]),(4,[],[0,1,5]),(6,[],[]),(7,[],[])] [0,1,0,4,12,3,63,127] ?_;iterate 5 refine W0 ?_
   refine cE (g:=none) rfl rfl fun K' hK'=>T5 ?_;refine C3 (iD _ _ _) ?_;rintro u rfl;refine AX (hK' _ _ ?_);clear hK' K';iterate 2 refine W0 ?_
   refine T4 ?_;exact key0 (inB q.n 1 10) ⟨q.k,q.n,0,[]⟩ _ _ _ (bQ0 (by simpa using hb)) (fF)
  have h4:=hb;refine R0 ?_;refine aG (b:=_) rfl (fun hb=>?_) (fun hb=>?_)
  ·
   refine DW [(0,[],[]),(1,[],[]),(2,[],[]),(3,[],[]),(5,[],[]),(4,[],[0,1,5]),(6,[],[]),(7,[],[])] [0,1,0,4,12,3,63,127] ?_;iterate 5 refine W0 ?_
   refine cE (g:=none) rfl rfl fun K' hK'=>T5 ?_;refine C3 (iD _ _ _) ?_;rintro u rfl;refine AX (hK' _ _ ?_);clear hK' K';iterate 2 refine W0 ?_
   refine T4 ?_;exact key0 (inB q.n 0 1099511627776) ⟨q.k,q.n,0,[]⟩ _ _ _ (bQ1 (by simpa using hb)) (fF)
  have h5:=hb;refine R0 ?_;refine aG (b:=_) rfl (fun hb=>?_) (fun hb=>?_)
  · refine aK (T3 ?_);exact key0 true ⟨q.k,0,0,[]⟩ _ _ _ (bQ2 (by simpa using hb)) (fF)
  refine R0 ?_;refine aF (RT Tryz.results74 ?_);exact aJ [] (.bool false) rfl (by rw[aZ4 h1 (by simpa using h2) (by simpa using h3) (by simpa using h4) (by simpa using h5) (by simpa using hb)])
 refine R0 ?_;refine aG (b:=_) rfl (fun hb=>?_) (fun hb=>?_)
 · refine aK (T3 ?_);exact key (q.k==1) _ _ _ (by rw[hb];rfl) (fF)
 have h1:=hb;refine R0 ?_;refine aG (b:=_) rfl (fun hb=>?_) (fun hb=>?_)
 · refine aK (T3 ?_);exact key (q.k==3) _ _ _ (by rw[h1,hb];rfl) (fF)
 have h1':=hb;refine aN (by kernel_rfl) ?_;simp only[↓sP,sA,tyS,simprocAttr];exact key (q.k==5) _ _ _ (by rw[h1,h1'];rfl) (fF)
theorem bQ7 (n:Nd)(hn:n.q.t.length<2^63):cA Tryz.prog 42 [n.cv] (fun v=>v= .bool (bR n)):=by
 refine FW Tryz.func42 ?_;refine R0 ?_;refine aC fun K hK=>?_;have key: ∀(b:Bool) fr ob nx,b=(inB n.c 1 60&&fI n.q rq0)→Fits 0 fr ob (fin [(1,.ptr 0 0),(3,.c (.bool b))]) (fob [(0,.box 40 (.c n.cv))]) 100→K fr ob nx:=by
  rintro b fr ob nx rfl hf;refine hK _ _ _ (bF hf ?_);clear hf hK K;refine aC fun K hK=>?_;refine R0 ?_;refine aM ?_;refine R0 ?_;refine aG (b:=_) rfl (fun hb=>?_) (fun hb=>?_)
  ·
   refine aC fun K hK=>Rg ?_;iterate 4 refine S0 ?_
   refine aE 24 rfl (fun h4_24=>?_) (fun h4_24=>?_)
   ·
    have F:=h4_24;iterate 5 refine SF ?_
    refine aE 28 rfl (fun h4_28=>?_) (fun h4_28=>?_)
    ·
     have F:=aI h4_24 h4_28;iterate 2 refine SF ?_
     refine bE (g:=some (30,true)) rfl rfl fun K' hK'=>T6 ?_;refine C1 (aN5 n.q hn) ?_;rintro u rfl;refine AX (hK' _ _ ?_);clear hK' K';iterate 2 refine SF ?_
     refine T2 (hK _ _ _ ?_);clear hK K;refine aF (RT Tryz.results42 ?_);exact aJ [] (.bool _) rfl (by rw[pN (by simpa using hb),h4_24,h4_28];rfl)
    have F:=aI h4_24 h4_28;iterate 5 refine SF ?_
    refine T2 (hK _ _ _ ?_);clear hK K;refine aF (RT Tryz.results42 ?_);exact aJ [] (.bool _) rfl (by rw[pN (by simpa using hb),h4_24,h4_28];rfl)
   have F:=h4_24;iterate 10 refine SF ?_
   refine T2 (hK _ _ _ ?_);clear hK K;refine aF (RT Tryz.results42 ?_);exact aJ [] (.bool _) rfl (by rw[pN (by simpa using hb),h4_24];rfl)
  have h1:n.k≠1:=by simpa using hb
  refine aC fun K hK=>?_;have key2: ∀(b:Bool) fr ob nx,b=(n.k==2||n.k==3)→Fits 0 fr ob (fin [(1,.ptr 0 0),(3,.c (.bool (inB n.c 1 60&&fI n.q rq0))),(19,.c (.int .i64 n.k)),(35,.c (.bool b))]) (fob [(0,.box 40 (.c n.cv))]) 300→K fr ob nx:=by
   rintro b fr ob nx rfl hf;refine hK _ _ _ (bF hf ?_);clear hf hK K;refine aG (b:=_) rfl (fun hb=>?_) (fun hb=>?_)
   ·
    refine aC fun K hK=>Rg ?_;iterate 2 refine S0 ?_
    refine aE 38 rfl (fun h7_38=>?_) (fun h7_38=>?_)
    ·
     have F:=h7_38;iterate 5 refine SF ?_
     refine T2 (hK _ _ _ ?_);clear hK K;refine aF (RT Tryz.results42 ?_);exact aJ [] (.bool _) rfl (by rw[aA2 hb,h7_38,Bool.true_and])
    have F:=h7_38;iterate 5 refine SF ?_
    refine T2 (hK _ _ _ ?_);clear hK K;refine aF (RT Tryz.results42 ?_);exact aJ [] (.bool _) rfl (by rw[aA2 hb,h7_38,Bool.false_and])
   have h2:=hb;refine R0 ?_;refine aG (b:=_) rfl (fun hb=>?_) (fun hb=>?_)
   ·
    refine aC fun K hK=>Rg ?_;iterate 2 refine S0 ?_
    refine aE 46 rfl (fun h9_46=>?_) (fun h9_46=>?_)
    ·
     have F:=h9_46;iterate 5 refine SF ?_
     refine aE 50 rfl (fun h9_50=>?_) (fun h9_50=>?_)
     ·
      have F:=aI h9_46 h9_50;iterate 7 refine SF ?_
      refine T2 (hK _ _ _ ?_);clear hK K;refine aF (RT Tryz.results42 ?_);exact aJ [] (.bool _) rfl (by rw[pO (by simpa using hb),h9_46,inB,h9_50];rfl)
     have F:=aI h9_46 h9_50;iterate 7 refine SF ?_
     refine T2 (hK _ _ _ ?_);clear hK K;refine aF (RT Tryz.results42 ?_);exact aJ [] (.bool _) rfl (by rw[pO (by simpa using hb),h9_46,inB,h9_50];rfl)
    have F:=h9_46;iterate 12 refine SF ?_
    refine T2 (hK _ _ _ ?_);clear hK K;refine aF (RT Tryz.results42 ?_);exact aJ [] (.bool _) rfl (by rw[pO (by simpa using hb),h9_46,Bool.false_and])
   refine aK ?_;refine T0 (hK _ _ _ ?_);clear hK K;refine R0 ?_;refine aF (RT Tryz.results42 ?_);exact aJ [] (.bool _) rfl (by rw[bQ3 h1 h2 (by simpa using hb)])
  refine R0 ?_;refine aG (b:=_) rfl (fun hb=>?_) (fun hb=>?_)
  · refine aK (T3 ?_);exact key2 (n.k==2) _ _ _ (by rw[hb];rfl) (fF)
  have h2:=hb;refine aN (by kernel_rfl) ?_;simp only[↓sP,sA,tyS,simprocAttr];exact key2 (n.k==3) _ _ _ (by rw[hb];rfl) (fF)
 refine Rg ?_;have F:=aI @aE8 @bQ6;iterate 4 refine SF ?_
 refine aE 6 rfl (fun h1_6=>?_) (fun h1_6=>?_)
 ·
  have F:=aI @aE8 (aI @bQ6 h1_6);iterate 5 refine SF ?_
  refine aE 10 rfl (fun h1_10=>?_) (fun h1_10=>?_)
  ·
   have F:=aI @aE8 (aI @bQ6 (aI h1_6 h1_10));iterate 6 refine SF ?_
   refine aE 16 rfl (fun h1_16=>?_) (fun h1_16=>?_)
   · simp only[h1_16];refine T4 ?_;exact key true _ _ _ (by first|(simp only[inB,rq0,h1_6,h1_10,h1_16,Bool.true_and,Bool.false_and,Bool.and_false,Bool.and_true];done)|(simp only[inB,h1_6,h1_10,Bool.true_and];exact Eq.symm h1_16)) (fF)
   simp only[h1_16];refine T4 ?_;exact key false _ _ _ (by first|(simp only[inB,rq0,h1_6,h1_10,h1_16,Bool.true_and,Bool.false_and,Bool.and_false,Bool.and_true];done)|(simp only[inB,h1_6,h1_10,Bool.true_and];exact Eq.symm h1_16)) (fF)
  have F:=aI @aE8 (aI @bQ6 (aI h1_6 h1_10));iterate 6 refine SF ?_
  refine T4 ?_;exact key false _ _ _ (by first|(simp only[inB,rq0,h1_6,h1_10,Bool.true_and,Bool.false_and,Bool.and_false,Bool.and_true];done)|(simp only[inB,h1_6,h1_10,Bool.true_and];exact Eq.symm h1_16)) (fF)
 have F:=aI @aE8 (aI @bQ6 h1_6);iterate 11 refine SF ?_
 refine T4 ?_;exact key false _ _ _ (by first|(simp only[inB,rq0,h1_6,Bool.true_and,Bool.false_and,Bool.and_false,Bool.and_true];done)|(simp only[inB,h1_6,h1_10,Bool.true_and];exact Eq.symm h1_16)) (fF)
theorem bY5 (q:Rq)(hn:q.t.length<2^63):cA Tryz.prog 75 [q.cv] (fun v=>v= .bool (dR q)):=by
 refine FW Tryz.func75 ?_;refine R0 ?_;refine aC fun K hK=>?_;have key0: ∀(b:Bool) fr ob nx,b=inB q.n 1 32→Fits 0 fr ob (fin [(1,.ptr 0 0),(3,.c (.bool b))]) (fob [(0,.box 38 (.c q.cv))]) 100→K fr ob nx:=by
  rintro b fr ob nx rfl hf;refine hK _ _ _ (bF hf ?_);clear hf hK K;refine aC fun K hK=>?_;refine R0 ?_;refine aM ?_;refine aC fun K hK=>?_;have key: ∀(b:Bool) fr ob nx,b=(q.k==1||(q.k==3||q.k==5))→Fits 0 fr ob (fin [(1,.ptr 0 0),(3,.c (.bool (inB q.n 1 32))),(13,.c (.int .i64 q.k)),(14,.c (.bool b))]) (fob [(0,.box 38 (.c q.cv))]) 300→K fr ob nx:=by
   rintro b fr ob nx rfl hf;refine hK _ _ _ (bF hf ?_);clear hf hK K;refine aG (b:=_) rfl (fun hb=>?_) (fun hb=>?_)
   ·
    refine aC fun K hK=>Rg ?_;iterate 2 refine S0 ?_
    refine aE 18 rfl (fun h6_18=>?_) (fun h6_18=>?_)
    ·
     have F:=h6_18;iterate 5 refine SF ?_
     refine aE 22 rfl (fun h6_22=>?_) (fun h6_22=>?_)
     ·
      have F:=aI h6_18 h6_22;iterate 5 refine SF ?_
      refine T2 (hK _ _ _ ?_);clear hK K;refine aF (RT Tryz.results75 ?_);exact aJ [] (.bool _) rfl (by rw[wY hb,h6_18,h6_22];rfl)
     have F:=aI h6_18 h6_22;iterate 5 refine SF ?_
     refine T2 (hK _ _ _ ?_);clear hK K;refine aF (RT Tryz.results75 ?_);exact aJ [] (.bool _) rfl (by rw[wY hb,h6_18,h6_22];rfl)
    have F:=h6_18;iterate 10 refine SF ?_
    refine T2 (hK _ _ _ ?_);clear hK K;refine aF (RT Tryz.results75 ?_);exact aJ [] (.bool _) rfl (by rw[wY hb,h6_18];rfl)
   have h1:=hb;refine R0 ?_;refine aG (b:=_) rfl (fun hb=>?_) (fun hb=>?_)
   ·
    refine aC fun K hK=>Rg ?_;iterate 2 refine S0 ?_
    refine aE 31 rfl (fun h8_31=>?_) (fun h8_31=>?_)
    ·
     have F:=h8_31;iterate 5 refine SF ?_
     refine aE 35 rfl (fun h8_35=>?_) (fun h8_35=>?_)
     ·
      have F:=aI h8_31 h8_35;iterate 5 refine SF ?_
      refine aE 40 rfl (fun h8_40=>?_) (fun h8_40=>?_)
      ·
       have F:=aI h8_31 (aI h8_35 h8_40);iterate 5 refine SF ?_
       refine T2 (hK _ _ _ ?_);clear hK K;refine aF (RT Tryz.results75 ?_);exact aJ [] (.bool _) rfl (by rw[rC hb,h8_31,h8_35,h8_40];rfl)
      have F:=aI h8_31 (aI h8_35 h8_40);iterate 5 refine SF ?_
      refine T2 (hK _ _ _ ?_);clear hK K;refine aF (RT Tryz.results75 ?_);exact aJ [] (.bool _) rfl (by rw[rC hb,h8_31,h8_35,h8_40];rfl)
     have F:=aI h8_31 h8_35;iterate 10 refine SF ?_
     refine T2 (hK _ _ _ ?_);clear hK K;refine aF (RT Tryz.results75 ?_);exact aJ [] (.bool _) rfl (by rw[rC hb,h8_31,h8_35];rfl)
    have F:=h8_31;iterate 15 refine SF ?_
    refine T2 (hK _ _ _ ?_);clear hK K;refine aF (RT Tryz.results75 ?_);exact aJ [] (.bool _) rfl (by rw[rC hb,h8_31];rfl)
   have h2:=hb;refine R0 ?_;refine aG (b:=_) rfl (fun hb=>?_) (fun hb=>?_)
   ·
    refine aC fun K hK=>Rg ?_;iterate 4 refine S0 ?_
    refine aE 51 rfl (fun h10_51=>?_) (fun h10_51=>?_)
    ·
     have F:=h10_51;iterate 5 refine SF ?_
     refine aE 55 rfl (fun h10_55=>?_) (fun h10_55=>?_)
     ·
      have F:=aI h10_51 h10_55;iterate 2 refine SF ?_
      refine bE (g:=some (57,true)) rfl rfl fun K' hK'=>T6 ?_;refine C1 (wI _ hn) ?_;rintro u rfl;refine AX (hK' _ _ ?_);clear hK' K';iterate 2 refine SF ?_
      refine T2 (hK _ _ _ ?_);clear hK K;refine aF (RT Tryz.results75 ?_);exact aJ [] (.bool _) rfl (by rw[wZ hb,h10_51,h10_55];rfl)
     have F:=aI h10_51 h10_55;iterate 5 refine SF ?_
     refine T2 (hK _ _ _ ?_);clear hK K;refine aF (RT Tryz.results75 ?_);exact aJ [] (.bool _) rfl (by rw[wZ hb,h10_51,h10_55];rfl)
    have F:=h10_51;iterate 10 refine SF ?_
    refine T2 (hK _ _ _ ?_);clear hK K;refine aF (RT Tryz.results75 ?_);exact aJ [] (.bool _) rfl (by rw[wZ hb,h10_51];rfl)
   have h3:=hb;refine R0 ?_;refine aG (b:=_) rfl (fun hb=>?_) (fun hb=>?_)
   ·
    refine aC fun K hK=>Rg ?_;iterate 4 refine S0 ?_
    refine aE 66 rfl (fun h12_66=>?_) (fun h12_66=>?_)
    ·
     have F:=h12_66;iterate 5 refine SF ?_
     refine aE 70 rfl (fun h12_70=>?_) (fun h12_70=>?_)
     ·
      have F:=aI h12_66 h12_70;iterate 5 refine SF ?_
      refine aE 75 rfl (fun h12_75=>?_) (fun h12_75=>?_)
      ·
       have F:=aI h12_66 (aI h12_70 h12_75);iterate 5 refine SF ?_
       refine T2 (hK _ _ _ ?_);clear hK K;refine aF (RT Tryz.results75 ?_);exact aJ [] (.bool _) rfl (by rw[rD hb,h12_66,h12_70,h12_75];rfl)
      have F:=aI h12_66 (aI h12_70 h12_75);iterate 5 refine SF ?_
      refine T2 (hK _ _ _ ?_);clear hK K;refine aF (RT Tryz.results75 ?_);exact aJ [] (.bool _) rfl (by rw[rD hb,h12_66,h12_70,h12_75];rfl)
     have F:=aI h12_66 h12_70;iterate 10 refine SF ?_
     refine T2 (hK _ _ _ ?_);clear hK K;refine aF (RT Tryz.results75 ?_);exact aJ [] (.bool _) rfl (by rw[rD hb,h12_66,h12_70];rfl)
    have F:=h12_66;iterate 15 refine SF ?_
    refine T2 (hK _ _ _ ?_);clear hK K;refine aF (RT Tryz.results75 ?_);exact aJ [] (.bool _) rfl (by rw[rD hb,h12_66];rfl)
   have h4:=hb;refine R0 ?_;refine aG (b:=_) rfl (fun hb=>?_) (fun hb=>?_)
   ·
    refine aC fun K hK=>Rg ?_;iterate 2 refine S0 ?_
    refine HS rfl rfl fun K' hK'=>T5 ?_;refine C1 (wH _) ?_;rintro u rfl;refine AX (hK' _ _ ?_);clear hK' K';refine S0 ?_;refine aE 86 rfl (fun h14_86=>?_) (fun h14_86=>?_)
    ·
     have F:=h14_86;iterate 5 refine SF ?_
     refine aE 90 rfl (fun h14_90=>?_) (fun h14_90=>?_)
     ·
      have F:=aI h14_86 h14_90;iterate 5 refine SF ?_
      refine T2 (hK _ _ _ ?_);clear hK K;refine aF (RT Tryz.results75 ?_);exact aJ [] (.bool _) rfl (by rw[xA hb,h14_86,h14_90];rfl)
     have F:=aI h14_86 h14_90;iterate 5 refine SF ?_
     refine T2 (hK _ _ _ ?_);clear hK K;refine aF (RT Tryz.results75 ?_);exact aJ [] (.bool _) rfl (by rw[xA hb,h14_86,h14_90];rfl)
    have F:=h14_86;iterate 10 refine SF ?_
    refine T2 (hK _ _ _ ?_);clear hK K;refine aF (RT Tryz.results75 ?_);exact aJ [] (.bool _) rfl (by rw[xA hb,h14_86];rfl)
   have h5:=hb;refine R0 ?_;refine aG (b:=_) rfl (fun hb=>?_) (fun hb=>?_)
   ·
    refine aC fun K hK=>Rg ?_;iterate 4 refine S0 ?_
    refine aE 101 rfl (fun h16_101=>?_) (fun h16_101=>?_)
    ·
     have F:=h16_101;iterate 5 refine SF ?_
     refine aE 105 rfl (fun h16_105=>?_) (fun h16_105=>?_)
     ·
      have F:=aI h16_101 h16_105;iterate 5 refine SF ?_
      refine T2 (hK _ _ _ ?_);clear hK K;refine aF (RT Tryz.results75 ?_);exact aJ [] (.bool _) rfl (by rw[xB hb,h16_101,h16_105];rfl)
     have F:=aI h16_101 h16_105;iterate 5 refine SF ?_
     refine T2 (hK _ _ _ ?_);clear hK K;refine aF (RT Tryz.results75 ?_);exact aJ [] (.bool _) rfl (by rw[xB hb,h16_101,h16_105];rfl)
    have F:=h16_101;iterate 10 refine SF ?_
    refine T2 (hK _ _ _ ?_);clear hK K;refine aF (RT Tryz.results75 ?_);exact aJ [] (.bool _) rfl (by rw[xB hb,h16_101];rfl)
   refine aK ?_;refine T0 (hK _ _ _ ?_);clear hK K;refine R0 ?_;refine aF (RT Tryz.results75 ?_);exact aJ [] (.bool false) rfl (by rw[aZ4 h1 (by simpa using h2) (by simpa using h3) (by simpa using h4) (by simpa using h5) (by simpa using hb)])
  refine R0 ?_;refine aG (b:=_) rfl (fun hb=>?_) (fun hb=>?_)
  · refine aK (T3 ?_);exact key (q.k==1) _ _ _ (by rw[hb];rfl) (fF)
  have h1:=hb;refine R0 ?_;refine aG (b:=_) rfl (fun hb=>?_) (fun hb=>?_)
  · refine aK (T3 ?_);exact key (q.k==3) _ _ _ (by rw[h1,hb];rfl) (fF)
  have h1':=hb;refine aN (by kernel_rfl) ?_;simp only[↓sP,sA,tyS,simprocAttr];exact key (q.k==5) _ _ _ (by rw[h1,h1'];rfl) (fF)
 refine Rg ?_;iterate 4 refine S0 ?_
 refine aE 6 rfl (fun h1_6=>?_) (fun h1_6=>?_)
 ·
  have F:=h1_6;iterate 5 refine SF ?_
  refine aE 10 rfl (fun h1_10=>?_) (fun h1_10=>?_)
  · simp only[h1_10];refine T4 ?_;exact key0 true _ _ _ (by simp only[inB,h1_6,h1_10,Bool.true_and,Bool.false_and]) (fF)
  simp only[h1_10];refine T4 ?_;exact key0 false _ _ _ (by simp only[inB,h1_6,h1_10,Bool.true_and,Bool.false_and]) (fF)
 have F:=h1_6;iterate 5 refine SF ?_
 refine T4 ?_;exact key0 false _ _ _ (by simp only[inB,h1_6,Bool.true_and,Bool.false_and]) (fF)
theorem bQ8 (n:Nd)(hn:n.q.t.length<2^63):cA Tryz.prog 43 [n.cv] (fun v=>v= .bool (nX n)):=by
 refine FW Tryz.func43 ?_;refine R0 ?_;refine aC fun K hK=>Rg ?_;have F:=@aE8;iterate 5 refine SF ?_
 refine T2 (hK _ _ _ ?_);clear hK K;refine aC fun K hK=>?_;refine R0 ?_;refine aM ?_;refine R0 ?_;refine aG (b:=_) rfl (fun hb=>?_) (fun hb=>?_)
 ·
  refine aC fun K hK=>Rg ?_;iterate 4 refine S0 ?_
  refine aE 14 rfl (fun h4_14=>?_) (fun h4_14=>?_)
  ·
   have F:=h4_14;iterate 5 refine SF ?_
   refine aE 18 rfl (fun h4_18=>?_) (fun h4_18=>?_)
   ·
    have F:=aI h4_14 h4_18;iterate 2 refine SF ?_
    refine bE (g:=some (20,true)) rfl rfl fun K' hK'=>T6 ?_;refine C1 (bY5 n.q hn) ?_;rintro u rfl;refine AX (hK' _ _ ?_);clear hK' K';iterate 2 refine SF ?_
    refine T2 (hK _ _ _ ?_);clear hK K;refine aF (RT Tryz.results43 ?_);exact aJ [] (.bool _) rfl (by rw[pP (by simpa using hb),h4_14,h4_18];rfl)
   have F:=aI h4_14 h4_18;iterate 5 refine SF ?_
   refine T2 (hK _ _ _ ?_);clear hK K;refine aF (RT Tryz.results43 ?_);exact aJ [] (.bool _) rfl (by rw[pP (by simpa using hb),h4_14,h4_18];rfl)
  have F:=h4_14;iterate 10 refine SF ?_
  refine T2 (hK _ _ _ ?_);clear hK K;refine aF (RT Tryz.results43 ?_);exact aJ [] (.bool _) rfl (by rw[pP (by simpa using hb),h4_14];rfl)
 have h1:n.k≠1:=by simpa using hb
 refine aC fun K hK=>?_;have key2: ∀(b:Bool) fr ob nx,b=(n.k==2||n.k==3)→Fits 0 fr ob (fin [(1,.ptr 0 0),(3,.c (.bool (fI n.q rq0))),(9,.c (.int .i64 n.k)),(25,.c (.bool b))]) (fob [(0,.box 40 (.c n.cv))]) 300→K fr ob nx:=by
  rintro b fr ob nx rfl hf;refine hK _ _ _ (bF hf ?_);clear hf hK K;refine aG (b:=_) rfl (fun hb=>?_) (fun hb=>?_)
  ·
   refine aC fun K hK=>Rg ?_;iterate 4 refine S0 ?_
   refine aE 30 rfl (fun h7_30=>?_) (fun h7_30=>?_)
   ·
    have F:=h7_30;iterate 5 refine SF ?_
    refine aE 34 rfl (fun h7_34=>?_) (fun h7_34=>?_)
    ·
     have F:=aI h7_30 h7_34;iterate 3 refine SF ?_
     refine T2 (hK _ _ _ ?_);clear hK K;refine aF (RT Tryz.results43 ?_);exact aJ [] (.bool _) rfl (by rw[sV hb,h7_30,h7_34];rfl)
    have F:=aI h7_30 h7_34;iterate 3 refine SF ?_
    refine T2 (hK _ _ _ ?_);clear hK K;refine aF (RT Tryz.results43 ?_);exact aJ [] (.bool _) rfl (by rw[sV hb,h7_30,h7_34];rfl)
   have F:=h7_30;iterate 8 refine SF ?_
   refine T2 (hK _ _ _ ?_);clear hK K;refine aF (RT Tryz.results43 ?_);exact aJ [] (.bool _) rfl (by rw[sV hb,h7_30];rfl)
  have h2:=hb;refine R0 ?_;refine aG (b:=_) rfl (fun hb=>?_) (fun hb=>?_)
  ·
   refine aC fun K hK=>Rg ?_;iterate 4 refine S0 ?_
   refine aE 43 rfl (fun h9_43=>?_) (fun h9_43=>?_)
   ·
    have F:=h9_43;iterate 5 refine SF ?_
    refine aE 47 rfl (fun h9_47=>?_) (fun h9_47=>?_)
    ·
     have F:=aI h9_43 h9_47;iterate 7 refine SF ?_
     refine aE 54 rfl (fun h9_54=>?_) (fun h9_54=>?_)
     ·
      have F:=aI h9_43 (aI h9_47 h9_54);iterate 3 refine SF ?_
      refine T2 (hK _ _ _ ?_);clear hK K;refine aF (RT Tryz.results43 ?_);exact aJ [] (.bool _) rfl (by rw[mE (by simpa using hb),h9_43,h9_47,h9_54];rfl)
     have F:=aI h9_43 (aI h9_47 h9_54);iterate 3 refine SF ?_
     refine T2 (hK _ _ _ ?_);clear hK K;refine aF (RT Tryz.results43 ?_);exact aJ [] (.bool _) rfl (by rw[mE (by simpa using hb),h9_43,h9_47,h9_54];rfl)
    have F:=aI h9_43 h9_47;iterate 10 refine SF ?_
    refine T2 (hK _ _ _ ?_);clear hK K;refine aF (RT Tryz.results43 ?_);exact aJ [] (.bool _) rfl (by rw[mE (by simpa using hb),h9_43,h9_47];rfl)
   have F:=h9_43;iterate 15 refine SF ?_
   refine T2 (hK _ _ _ ?_);clear hK K;refine aF (RT Tryz.results43 ?_);exact aJ [] (.bool _) rfl (by rw[mE (by simpa using hb),h9_43];rfl)
  refine aK ?_;refine T0 (hK _ _ _ ?_);clear hK K;refine R0 ?_;refine aF (RT Tryz.results43 ?_);exact aJ [] (.bool _) rfl (by rw[bQ4 h1 h2 (by simpa using hb)])
 refine R0 ?_;refine aG (b:=_) rfl (fun hb=>?_) (fun hb=>?_)
 · refine aK (T3 ?_);exact key2 (n.k==2) _ _ _ (by rw[hb];rfl) (aL (by omega) (by simp[aS,fin_at,finA_at,upd_at,HV.men,HV.menL,HV.norm,HV.toC,HV.toCL,rq0]) (by simp[aT,fob_at,upd_at,none0_at,bL,HO.men,HV.men,HV.menL,HV.norm,HV.toC,HV.toCL,rq0]))
 have h2:=hb;refine aN (by kernel_rfl) ?_;simp only[↓sP,sA,tyS,simprocAttr];exact key2 (n.k==3) _ _ _ (by rw[hb];rfl) (aL (by omega) (by simp[aS,fin_at,finA_at,upd_at,HV.men,HV.menL,HV.norm,HV.toC,HV.toCL,rq0]) (by simp[aT,fob_at,upd_at,none0_at,bL,HO.men,HV.men,HV.menL,HV.norm,HV.toC,HV.toCL,rq0]))
theorem cS (n:Int)(h: -4611686018427387904≤n∧n≤4611686018427387904):IntKind.i64.wrap n=n:=IntWalk.i64_in _ (by omega)
theorem uQ (l:List Nd)(hn: ∀n∈l,n.q.t.length<2^63):cA Tryz.prog 13 [.slc (l.map Nd.cv)] (fun v=>v= .bool (dK l)):=by
 refine FW Tryz.func13 ?_;refine R0 ?_;refine aC fun K hK=>?_;refine aC fun K hK=>Rg ?_;iterate 4 refine S0 ?_
 refine aE 9 rfl (fun h1_9=>?_) (fun h1_9=>?_)
 ·
  have F:=h1_9;iterate 4 refine SF ?_
  refine T2 (hK _ _ _ ?_);clear hK K;refine CT rfl ?_;refine R0 ?_;refine aF (RT Tryz.results13 ?_);exact aJ [] (.bool false) rfl (by rw[kL (.inl (by simp only[decide_eq_true_eq]at h1_9;omega))])
 have F:=h1_9;iterate 4 refine SF ?_
 refine aE 13 rfl (fun h1_13=>?_) (fun h1_13=>?_)
 · simp only[h1_13];refine T2 (hK _ _ _ ?_);clear hK K;refine CT rfl ?_;refine R0 ?_;refine aF (RT Tryz.results13 ?_);exact aJ [] (.bool false) rfl (by rw[kL (.inr (by simp only[decide_eq_true_eq]at h1_13;omega))])
 simp only[h1_13];refine T2 (hK _ _ _ ?_);clear hK K;refine CF rfl ?_;refine aK ?_;refine T0 (hK _ _ _ ?_);clear hK K;have hl1:1≤l.length:=by simp only[decide_eq_false_iff_not]at h1_9;omega
 have hl2:l.length≤60:=by simp only[decide_eq_false_iff_not]at h1_13;omega
 clear h1_9 h1_13;refine R0 ?_;refine aC fun K hK=>?_;refine R0 ?_;refine aM ?_;refine bI (α:={y:Nat×Int×Int//ScSt l y.1 y.2.1 y.2.2}) (fun y=>(fin [(3,.c (.int .i64 y.1.2.1)),(4,.c (.int .i64 y.1.2.2)),(15,.c (.slc (l.map Nd.cv))),(16,.c (.int .i64 l.length)),(17,.c (.int .i64 y.1.1))],fob [])) 200 (fun y=>l.length-y.1.1) ⟨(0,1,0),ScSt.init l⟩ (fF) ?_;rintro⟨⟨i,m,v⟩,hst⟩;simp only at hst;have hi:=hst.le;have hm0:=hst.m0;have hm1:=hst.m1;have hv0:=hst.v0;have hv1:=hst.v1;refine R0 ?_;refine aC fun K hK=>?_;refine aG (b:=decide ((i:Int)<l.length)) rfl (fun hb=>?_) (fun hb=>?_)
 ·
  have hlt:i<l.length:=by simpa using hb
  clear hb;refine aK ?_;refine T0 (hK _ _ _ ?_);clear hK K;refine aC fun K hK=>?_;refine aM ?_;refine aC fun K hK=>Rg ?_;have F:=aI @Int.natCast_nonneg (aI @Int.ofNat_lt (aI hlt (nM hlt)));iterate 4 refine SF ?_
  refine T2 (hK _ _ _ ?_);clear hK K;refine aC fun K hK=>?_;refine aC fun K hK=>Rg ?_;iterate 3 refine S0 ?_
  refine aE 22 rfl (fun h7_22=>?_) (fun h7_22=>?_)
  ·
   have F:=h7_22;iterate 4 refine SF ?_
   refine T2 (hK _ _ _ ?_);clear hK K;refine CT rfl ?_;refine R0 ?_;refine aF (RT Tryz.results13 ?_);exact aJ [] (.bool false) rfl (by rw[hst.stop hlt (.inl (by simpa using h7_22))])
  have F:=h7_22;refine SF ?_;refine bE (g:=some (23,false)) rfl rfl fun K' hK'=>T6 ?_;refine C1 (bQ7 l[i] (hn _ (List.getElem_mem hlt))) ?_;rintro u rfl;refine AX (hK' _ _ ?_);clear hK' K';iterate 2 refine SF ?_
  refine aE 25 rfl (fun h7_25=>?_) (fun h7_25=>?_)
  ·
   simp only[h7_25];refine T2 (hK _ _ _ ?_);clear hK K;refine CF rfl ?_;refine aK ?_;refine T0 (hK _ _ _ ?_);clear hK K;have hnb:bR l[i]=true:=by simpa using h7_25
   have hm:m≠0:=by simpa using h7_22
   obtain⟨c1,c2,c3,c4⟩:=dV hnb;have hnx:=hst.next hlt hm hnb;clear h7_22 h7_25;refine aC fun K hK=>Rg ?_;iterate 6 refine S0 ?_ (e:=fun _ h_=>by simp only[sH,↓sP,sA,tyS,simprocAttr,cS (l[i].c-1) (by omega),cS (m+(l[i].c-1)) (by omega)];exact AX h_)
   refine T2 (hK _ _ _ ?_);clear hK K;refine R0 ?_;refine aG (b:=_) rfl (fun hb=>?_) (fun hb=>?_)
   · refine aN (by kernel_rfl) ?_;simp only[↓sP,sA,tyS,simprocAttr,cS (v+1) (by omega)];refine AX (hK _ _ _ ?_);clear hK K;refine aN (by kernel_rfl) ?_;simp only[↓sP,sA,tyS,simprocAttr,cS ((i:Int)+1) (by omega)];rw[if_pos (by simpa using hb)]at hnx;refine⟨⟨(i+1,_,_),hnx⟩,fF,?_⟩;show l.length-(i+1)<l.length-i;omega
   refine aK ?_;refine T0 (hK _ _ _ ?_);clear hK K;refine aN (by kernel_rfl) ?_;simp only[↓sP,sA,tyS,simprocAttr,cS ((i:Int)+1) (by omega)];rw[if_neg (by simpa using hb)]at hnx;refine⟨⟨(i+1,_,_),hnx⟩,fF,?_⟩;show l.length-(i+1)<l.length-i;omega
  simp only[h7_25];refine T2 (hK _ _ _ ?_);clear hK K;refine CT rfl ?_;refine R0 ?_;refine aF (RT Tryz.results13 ?_);exact aJ [] (.bool false) rfl (by rw[hst.stop hlt (.inr (by simpa using h7_25))])
 refine bD (T3 ?_);clear hK K;refine AX (hK _ _ _ ?_);clear hK K;have hei:i=l.length:=by simp only[decide_eq_false_iff_not]at hb;omega
 subst hei;have hf:=hst.fin hl1 hl2;clear hb;refine aC fun K hK=>Rg ?_;iterate 3 refine S0 ?_
 refine aE 40 rfl (fun h13_40=>?_) (fun h13_40=>?_)
 ·
  have F:=h13_40;iterate 4 refine SF ?_
  refine T2 (hK _ _ _ ?_);clear hK K;refine aF (RT Tryz.results13 ?_);exact aJ [] (.bool _) rfl (by rw[hf,h13_40,Bool.true_and])
 have F:=h13_40;iterate 4 refine SF ?_
 refine T2 (hK _ _ _ ?_);clear hK K;refine aF (RT Tryz.results13 ?_);exact aJ [] (.bool false) rfl (by rw[hf,h13_40,Bool.false_and])
theorem bQ9 (l:List Nd)(hn: ∀n∈l,n.q.t.length<2^63):cA Tryz.prog 14 [.slc (l.map Nd.cv)] (fun v=>v= .bool (dK l)):=by
 refine FW Tryz.func14 ?_;refine R0 ?_;refine aC fun K hK=>?_;refine aC fun K hK=>Rg ?_;iterate 4 refine S0 ?_
 refine aE 8 rfl (fun h1_8=>?_) (fun h1_8=>?_)
 ·
  have F:=h1_8;iterate 4 refine SF ?_
  refine T2 (hK _ _ _ ?_);clear hK K;refine CT rfl ?_;refine R0 ?_;refine aF (RT Tryz.results14 ?_);exact aJ [] (.bool false) rfl (by rw[kL (.inl (by simp only[decide_eq_true_eq]at h1_8;omega))])
 have F:=h1_8;iterate 4 refine SF ?_
 refine aE 12 rfl (fun h1_12=>?_) (fun h1_12=>?_)
 · simp only[h1_12];refine T2 (hK _ _ _ ?_);clear hK K;refine CT rfl ?_;refine R0 ?_;refine aF (RT Tryz.results14 ?_);exact aJ [] (.bool false) rfl (by rw[kL (.inr (by simp only[decide_eq_true_eq]at h1_12;omega))])
 simp only[h1_12];refine T2 (hK _ _ _ ?_);clear hK K;refine CF rfl ?_;refine aK ?_;refine T0 (hK _ _ _ ?_);clear hK K;have hl1:1≤l.length:=by simp only[decide_eq_false_iff_not]at h1_8;omega
 have hl2:l.length≤60:=by simp only[decide_eq_false_iff_not]at h1_12;omega
 clear h1_8 h1_12;refine R0 ?_;refine aC fun K hK=>?_;refine R0 ?_;refine aM ?_;refine bI (α:={y:Nat×Int×Int//ScSt l y.1 y.2.1 y.2.2}) (fun y=>(fin [(0,.c (.slc (l.map Nd.cv))),(3,.c (.int .i64 y.1.2.1)),(4,.c (.int .i64 y.1.2.2)),(5,.c (.int .i64 y.1.1))],fob [])) 200 (fun y=>l.length-y.1.1) ⟨(0,1,0),ScSt.init l⟩ (fF) ?_;rintro⟨⟨i,m,v⟩,hst⟩;simp only at hst;have hi:=hst.le;have hm0:=hst.m0;have hm1:=hst.m1;have hv0:=hst.v0;have hv1:=hst.v1;refine aC fun K hK=>?_;refine aC fun K hK=>Rg ?_;iterate 4 refine S0 ?_
 refine T2 (hK _ _ _ ?_);clear hK K;refine aG (b:=decide ((i:Int)<l.length)) rfl (fun hb=>?_) (fun hb=>?_)
 ·
  have hlt:i<l.length:=by simpa using hb
  clear hb;refine aK ?_;refine T0 (hK _ _ _ ?_);clear hK K;refine aC fun K hK=>?_;refine aM ?_;refine aC fun K hK=>?_;refine aC fun K hK=>Rg ?_;have F:=aI @Int.natCast_nonneg (aI @Int.ofNat_lt (aI hlt (nM hlt)));iterate 3 refine SF ?_
  refine aE 21 rfl (fun h7_21=>?_) (fun h7_21=>?_)
  ·
   have F:=aI @Int.natCast_nonneg (aI @Int.ofNat_lt (aI hlt (aI (nM hlt) h7_21)));iterate 15 refine SF ?_
   refine T2 (hK _ _ _ ?_);clear hK K;refine CT rfl ?_;refine R0 ?_;refine aF (RT Tryz.results14 ?_);exact aJ [] (.bool false) rfl (by rw[hst.stop hlt (.inl (by simpa using h7_21))])
  have F:=aI @Int.natCast_nonneg (aI @Int.ofNat_lt (aI hlt (aI (nM hlt) h7_21)));iterate 4 refine SF ?_
  refine bE (g:=some (22,false)) rfl rfl fun K' hK'=>T6 ?_;refine C1 (bQ8 l[i] (hn _ (List.getElem_mem hlt))) ?_;rintro u rfl;refine AX (hK' _ _ ?_);clear hK' K';iterate 3 refine SF ?_
  refine aE 27 rfl (fun h7_27=>?_) (fun h7_27=>?_)
  ·
   have F:=aI @Int.natCast_nonneg (aI @Int.ofNat_lt (aI hlt (aI (nM hlt) (aI h7_21 h7_27))));iterate 7 refine SF ?_
   refine aE 36 rfl (fun h7_36=>?_) (fun h7_36=>?_)
   · simp only[h7_36];refine T2 (hK _ _ _ ?_);clear hK K;refine CT rfl ?_;refine R0 ?_;refine aF (RT Tryz.results14 ?_);exact aJ [] (.bool false) rfl (by rw[hst.stop hlt (.inr (by rw[aE7,h7_27,h7_36];rfl))])
   simp only[h7_36];refine T2 (hK _ _ _ ?_);clear hK K;refine CF rfl ?_;refine aK ?_;refine T0 (hK _ _ _ ?_);clear hK K;have hnb:bR l[i]=true:=by rw[aE7,h7_27,h7_36];rfl
   have hm:m≠0:=by simpa using h7_21
   obtain⟨c1,c2,c3,c4⟩:=dV hnb;have hnx:=hst.next hlt hm hnb;clear h7_21 h7_27 h7_36;refine aC fun K hK=>Rg ?_;iterate 9 refine S0 ?_ (e:=fun _ h_=>by simp only[sH,↓sP,sA,tyS,simprocAttr,Int.natCast_nonneg,Int.ofNat_lt,hlt,bH hlt,cS (l[i].c-1) (by omega),cS (m+(l[i].c-1)) (by omega)];exact AX h_)
   refine T2 (hK _ _ _ ?_);clear hK K;refine aC fun K hK=>Rg ?_;have F:=aI @Int.natCast_nonneg (aI @Int.ofNat_lt (aI hlt (nM hlt)));iterate 6 refine SF ?_
   refine T2 (hK _ _ _ ?_);clear hK K;refine aG (b:=_) rfl (fun hb=>?_) (fun hb=>?_)
   · refine aN (by kernel_rfl) ?_;simp only[↓sP,sA,tyS,simprocAttr,cS (v+1) (by omega)];refine AX (hK _ _ _ ?_);clear hK K;refine aN (by kernel_rfl) ?_;simp only[↓sP,sA,tyS,simprocAttr,cS ((i:Int)+1) (by omega)];rw[if_pos (by simpa using hb)]at hnx;refine⟨⟨(i+1,_,_),hnx⟩,fF,?_⟩;show l.length-(i+1)<l.length-i;omega
   refine aK ?_;refine T0 (hK _ _ _ ?_);clear hK K;refine aN (by kernel_rfl) ?_;simp only[↓sP,sA,tyS,simprocAttr,cS ((i:Int)+1) (by omega)];rw[if_neg (by simpa using hb)]at hnx;refine⟨⟨(i+1,_,_),hnx⟩,fF,?_⟩;show l.length-(i+1)<l.length-i;omega
  have F:=aI @Int.natCast_nonneg (aI @Int.ofNat_lt (aI hlt (aI (nM hlt) (aI h7_21 h7_27))));iterate 7 refine SF ?_
  refine T2 (hK _ _ _ ?_);clear hK K;refine CT rfl ?_;refine R0 ?_;refine aF (RT Tryz.results14 ?_);exact aJ [] (.bool false) rfl (by rw[hst.stop hlt (.inr (by rw[aE7,h7_27];rfl))])
 refine bD (T3 ?_);clear hK K;refine AX (hK _ _ _ ?_);clear hK K;have hei:i=l.length:=by simp only[decide_eq_false_iff_not]at hb;omega
 subst hei;have hf:=hst.fin hl1 hl2;clear hb;refine aC fun K hK=>Rg ?_;iterate 3 refine S0 ?_
 refine aE 55 rfl (fun h12_55=>?_) (fun h12_55=>?_)
 ·
  have F:=h12_55;iterate 4 refine SF ?_
  refine T2 (hK _ _ _ ?_);clear hK K;refine aF (RT Tryz.results14 ?_);exact aJ [] (.bool _) rfl (by rw[hf,h12_55,Bool.true_and])
 have F:=h12_55;iterate 4 refine SF ?_
 refine T2 (hK _ _ _ ?_);clear hK K;refine aF (RT Tryz.results14 ?_);exact aJ [] (.bool false) rfl (by rw[hf,h12_55,Bool.false_and])
def iC (n:Nat):CV:= .int .i64 n
theorem aA3 (l:List Nat):CV.denilL (l.map iC)=l.map iC:=cI (fun _=>rfl) l
theorem bR0 (l:List Nd)(ht:IsTree l)(i:Nat)(hi:i<l.length):cA Tryz.prog 44 [.slc (l.map Nd.cv),.int .i64 i] (fun v=>v= .int .i64 (aft l i:Nat)):=by
 have hl:=ht.len;refine FW Tryz.func44 ?_;refine R0 ?_;refine aC fun K hK=>?_;refine R0 ?_;refine aM ?_;refine bI (α:={y:Nat×Nat//AftSt l i y.1 y.2∧y.1≤1+60*y.2}) (fun y=>(fin [(0,.c (.slc (l.map Nd.cv))),(1,.c (.int .i64 y.1.2)),(5,.c (.int .i64 y.1.1))],fob [])) 100 (fun y=>l.length-y.1.2) ⟨(1,i),⟨Nat.le_of_lt hi,rfl⟩,by omega⟩ (fF) ?_;rintro⟨⟨m,p⟩,hst,hm⟩;simp only at hst hm;have hp:=hst.1;refine aC fun K hK=>?_;refine R0 ?_;refine aG (b:=decide ((0:Int)<(m:Int))) rfl (fun hb=>?_) (fun hb=>?_)
 ·
  have hm1:0<m:=by simpa using hb
  have hpl:=hst.lt ht hi hm1;obtain⟨c1,c2,_,_⟩:=dV (ht.node _ (List.getElem_mem hpl));obtain⟨m',rfl⟩: ∃m',m=m'+1:=⟨m-1,by omega⟩;have hnx:=hst.next hpl;have hw1:IntKind.i64.wrap (((m'+1:Nat):Int)+(l[p].c-1))=((m'+l[p].c.toNat:Nat):Int):=by rw[cS _ (by omega)];omega
  have hw2:IntKind.i64.wrap ((p:Int)+1)=((p+1:Nat):Int):=by rw[cS _ (by omega)];rfl
  clear hb;refine aK ?_;refine T0 (hK _ _ _ ?_);clear hK K;refine aC fun K hK=>?_;refine aM ?_;refine Rg ?_;iterate 9 refine S0 ?_ (e:=fun _ h_=>by simp only[sH,↓sP,sA,tyS,simprocAttr,Int.natCast_nonneg,Int.ofNat_lt,hpl,bH hpl,cS (l[p].c-1) (by omega),hw1];exact AX h_)
  refine T2 (hK _ _ _ ?_);clear hK K;refine aN (by kernel_rfl) ?_;refine TQ hw2 ?_;refine⟨⟨(m'+l[p].c.toNat,p+1),hnx,by simp only;omega⟩,fF,?_⟩;show l.length-(p+1)<l.length-p;omega
 refine bD (T3 ?_);clear hK K;refine AX (hK _ _ _ ?_);clear hK K;refine R0 ?_;refine aF (RT Tryz.results44 ?_);have hm0:m=0:=by simpa using hb
 subst hm0;exact aJ [] (.int .i64 p) rfl (by rw[hst.fin])
theorem aN6 (l:List Nd)(hn: ∀n∈l,n.q.t.length<2^63)(i:Int):cA Tryz.prog 16 [.slc (l.map Nd.cv),.int .i64 i] (fun v=>v= .slc ((sO l i).map iC)):=by
 refine FW Tryz.func16 ?_;refine R0 ?_;refine aC fun K hK=>?_;refine aC fun K hK=>Rg ?_;refine S0 ?_;refine HS rfl rfl fun K' hK'=>T5 ?_;refine C1 (uQ l hn) ?_;rintro u rfl;refine AX (hK' _ _ ?_);clear hK' K';iterate 2 refine S0 ?_
 refine aE 8 rfl (fun h1_8=>?_) (fun h1_8=>?_)
 ·
  have F:=h1_8;iterate 4 refine SF ?_
  refine aE 12 rfl (fun h1_12=>?_) (fun h1_12=>?_)
  ·
   have F:=aI h1_8 h1_12;iterate 5 refine SF ?_
   refine T2 (hK _ _ _ ?_);clear hK K;refine CT rfl ?_;refine R0 ?_;refine aF (RT Tryz.results16 ?_);exact aJ [] (.slc []) rfl (by rw[pQ (.inr (.inl (by simpa using h1_12)))];rfl)
  have F:=aI h1_8 h1_12;iterate 5 refine SF ?_
  refine aE 18 rfl (fun h1_18=>?_) (fun h1_18=>?_)
  · simp only[h1_18];refine T2 (hK _ _ _ ?_);clear hK K;refine CT rfl ?_;refine R0 ?_;refine aF (RT Tryz.results16 ?_);exact aJ [] (.slc []) rfl (by rw[pQ (.inr (.inr (by simpa using h1_18)))];rfl)
  simp only[h1_18];refine T2 (hK _ _ _ ?_);clear hK K;refine CF rfl ?_;refine aK ?_;refine T0 (hK _ _ _ ?_);clear hK K;obtain⟨j,rfl⟩: ∃j:Nat,i=j:=⟨i.toNat,by simp at h1_12;omega⟩;have hj:j<l.length:=by simp at h1_18;omega
  have ht:=lA h1_8;have hcv:=bG3 h1_8 hj;have hl:=ht.len;obtain⟨c1,c2,_,_⟩:=dV (ht.node _ (List.getElem_mem hj));have hw2:IntKind.i64.wrap ((j:Int)+1)=((j+1:Nat):Int):=by rw[cS _ (by omega)];rfl
  clear h1_8 h1_12 h1_18;refine R0 ?_;refine aC fun K hK=>?_;have F:=hw2;refine RF ?_;refine aM ?_;refine nC 5 0 3 1 rfl rfl rfl rfl ?_;refine bI (α:={k:Nat//k≤l[j].c.toNat}) (fun k=>(fin [(0,.c (.slc (l.map Nd.cv))),(1,.c (.int .i64 j)),(5,.own 72 k.1),(6,.c (.int .i64 (dB l k.1 (j+1):Nat)))],fob [(72,.row 3 1 ((kJ l k.1 (j+1)).map iC))])) 200 (fun k=>l[j].c.toNat-k.1) ⟨0,by omega⟩ (aL (by omega) (by simp[aS,fin_at,finA_at,upd_at,HV.men,HV.menL,HV.norm,HV.toC,HV.toCL,kJ,dB]) (by simp[aT,fob_at,upd_at,none0_at,bL,HO.men,HV.men,HV.menL,HV.norm,HV.toC,HV.toCL,kJ,dB])) ?_;rintro⟨k,hk⟩;have hkl:=zO l k (j+1);refine aC fun K hK=>?_;refine aC fun K hK=>Rg ?_;have F:=aI @Int.natCast_nonneg (aI @Int.ofNat_lt (aI hj (aI (nM hj) hkl)));iterate 8 refine SF ?_
  refine T2 (hK _ _ _ ?_);clear hK K;refine aG (b:=decide ((k:Int)<l[j].c)) rfl (fun hb=>?_) (fun hb=>?_)
  ·
   have hkc:k<l[j].c.toNat:=by simp only[decide_eq_true_eq]at hb;omega
   have hkp:=lC ht hj hkc;have e:(kJ l (k+1) (j+1)).map iC=(kJ l k (j+1)).map iC++[CV.int .i64 (dB l k (j+1):Nat)]:=by rw[wL,List.map_append];rfl
   refine aK ?_;refine T0 (hK _ _ _ ?_);clear hK K;refine aC fun K hK=>?_;refine aM ?_;refine Rg ?_;have F:=hkl;iterate 5 refine SF ?_
   refine T2 (hK _ _ _ ?_);clear hK K;refine Rg ?_;iterate 2 refine S0 ?_
   refine HS rfl rfl fun K' hK'=>T5 ?_;refine C2 (bR0 l ht _ hkp) ?_;rintro u rfl;refine AX (hK' _ _ ?_);clear hK' K';refine S0 ?_;refine T4 ?_;refine⟨⟨k+1,hkc⟩,aL (by omega) (by simp[aS,fin_at,finA_at,upd_at,HV.men,HV.menL,HV.norm,HV.toC,HV.toCL,e,hkl,fM]) (by simp[aT,fob_at,upd_at,none0_at,bL,HO.men,HV.men,HV.menL,HV.norm,HV.toC,HV.toCL,e,hkl,fM]),?_⟩;show l[j].c.toNat-(k+1)<l[j].c.toNat-k;omega
  refine bD (T3 ?_);clear hK K;refine AX (hK _ _ _ ?_);clear hK K;refine R0 ?_;refine aF (RT Tryz.results16 ?_);have hkc:k=l[j].c.toNat:=by simp only[decide_eq_false_iff_not]at hb;omega
  subst hkc;exact aJ [72] (.slc ((kJ l l[j].c.toNat (j+1)).map iC)) (by simp[HV.close,fob_at,hkl,HV.norm,HV.toC,aA3,CV.denil]) (by rw[hcv])
 have F:=h1_8;iterate 9 refine SF ?_
 refine T2 (hK _ _ _ ?_);clear hK K;refine CT rfl ?_;refine R0 ?_;refine aF (RT Tryz.results16 ?_);exact aJ [] (.slc []) rfl (by rw[pQ (.inl h1_8)];rfl)
theorem aA4 (l:List Nd)(hn: ∀n∈l,n.q.t.length<2^63):cA Tryz.prog 18 [.slc (l.map Nd.cv)] (fun v=>v= .slc ((jC l).map iC)):=by
 refine FW Tryz.func18 ?_;refine R0 ?_;refine aC fun K hK=>?_;refine aC fun K hK=>Rg ?_;refine S0 ?_;refine HS rfl rfl fun K' hK'=>T5 ?_;refine C1 (uQ l hn) ?_;rintro u rfl;refine AX (hK' _ _ ?_);clear hK' K';refine S0 ?_;refine T2 (hK _ _ _ ?_);clear hK K;refine aG (b:=!dK l) rfl (fun hb=>?_) (fun hb=>?_)
 · refine R0 ?_;refine aF (RT Tryz.results18 ?_);exact aJ [] (.slc []) rfl (by rw[tW (by simpa using hb)];rfl)
 have h8:dK l=true:=by simpa using hb
 have ht:=lA h8;have hlv:=pR h8;have hl:=ht.len;clear hb;refine aK ?_;refine T0 (hK _ _ _ ?_);clear hK K;refine R0 ?_;refine aC fun K hK=>?_;refine R0 ?_;refine aM ?_;refine nC 3 0 3 1 rfl rfl rfl rfl ?_;refine bI (α:={i:Nat//i≤l.length}) (fun i=>(fin [(3,.own 32 (gN 0 (l.take i.1)).length),(9,.c (.slc (l.map Nd.cv))),(10,.c (.int .i64 l.length)),(11,.c (.int .i64 i.1))],fob [(32,.row 3 1 ((gN 0 (l.take i.1)).map iC))])) 200 (fun i=>l.length-i.1) ⟨0,by omega⟩ (aL (by omega) (by simp[aS,fin_at,finA_at,upd_at,HV.men,HV.menL,HV.norm,HV.toC,HV.toCL,gN]) (by simp[aT,fob_at,upd_at,none0_at,bL,HO.men,HV.men,HV.menL,HV.norm,HV.toC,HV.toCL,gN])) ?_;rintro⟨i,hi⟩;have hfl:(gN 0 (l.take i)).length≤i:=by rw[lD];have:=cB7 (l.take i);simp at this;omega
 refine R0 ?_;refine aC fun K hK=>?_;refine aG (b:=decide ((i:Int)<l.length)) rfl (fun hb=>?_) (fun hb=>?_)
 ·
  have hlt:i<l.length:=by simpa using hb
  have e:=aT1 hlt;clear hb;refine aK ?_;refine T0 (hK _ _ _ ?_);clear hK K;refine aC fun K hK=>?_;refine aM ?_;refine aC fun K hK=>Rg ?_;have F:=aI @Int.natCast_nonneg (aI @Int.ofNat_lt (aI hlt (nM hlt)));iterate 6 refine SF ?_
  refine T2 (hK _ _ _ ?_);clear hK K;refine R0 ?_;refine aG (b:=_) rfl (fun hb=>?_) (fun hb=>?_)
  ·
   rw[if_pos (by simpa using hb)]at e;refine Rg ?_;iterate 5 refine S0 ?_
   refine T2 (hK _ _ _ ?_);clear hK K;refine aN (by kernel_rfl) ?_;simp only[↓sP,sA,tyS,simprocAttr,cS ((i:Int)+1) (by omega)];refine⟨⟨i+1,hlt⟩,aL (by omega) (by simp[aS,fin_at,finA_at,upd_at,HV.men,HV.menL,HV.norm,HV.toC,HV.toCL,e,iC]) (by simp[aT,fob_at,upd_at,none0_at,bL,HO.men,HV.men,HV.menL,HV.norm,HV.toC,HV.toCL,e,iC]),?_⟩;show l.length-(i+1)<l.length-i;omega
  rw[if_neg (by simpa using hb)]at e;refine aK ?_;refine T0 (hK _ _ _ ?_);clear hK K;refine aN (by kernel_rfl) ?_;simp only[↓sP,sA,tyS,simprocAttr,cS ((i:Int)+1) (by omega)];refine⟨⟨i+1,hlt⟩,aL (by omega) (by simp[aS,fin_at,finA_at,upd_at,HV.men,HV.menL,HV.norm,HV.toC,HV.toCL,e]) (by simp[aT,fob_at,upd_at,none0_at,bL,HO.men,HV.men,HV.menL,HV.norm,HV.toC,HV.toCL,e]),?_⟩;show l.length-(i+1)<l.length-i;omega
 refine bD (T3 ?_);clear hK K;refine AX (hK _ _ _ ?_);clear hK K;refine R0 ?_;refine aF (RT Tryz.results18 ?_);have hei:i=l.length:=by simp only[decide_eq_false_iff_not]at hb;omega
 subst hei;rw[List.take_length];exact aJ [32] (.slc ((gN 0 l).map iC)) (by simp[HV.close,fob_at,HV.norm,HV.toC,aA3,CV.denil]) (by rw[hlv])
def bC (b:Bool):CV:= .bool b
theorem tX {α:Type}{f:α→CV}{Q:α→Prop}: ∀(l:List CV),(∀x∈l,∃y,x=f y∧Q y)→ ∃m:List α,l=m.map f∧ ∀y∈m,Q y
 |[],_=>⟨[],rfl,by simp⟩
 |x::l,h=>by
  obtain⟨y,rfl,hy⟩:=h x (by simp);obtain⟨m,rfl,hm⟩:=tX l (fun x hx=>h x (by simp[hx]));exact⟨y::m,rfl,fun z hz=>by rcases List.mem_cons.1 hz with rfl|hz;exact hy;exact hm z hz⟩
theorem bY6 {c:CV}(h:HasTy Tryz.prog 23 c): ∃L:List Int,c= .slc (L.map (.int .i64))∧(∀n∈L,(Lit.int .i64 n).wf=true)∧L.length≤maxLen:=by
 obtain⟨l,rfl,hl,hn⟩:=h.of_slc Tryz.underlying23;obtain⟨m,rfl,hm⟩:=tX (f:=CV.int .i64) (Q:=fun n=>(Lit.int .i64 n).wf=true) l (fun x hx=>(hl x hx).of_int Tryz.underlying3);exact⟨m,rfl,hm,by simpa using hn⟩
theorem cJ7 {c:CV}(h:HasTy Tryz.prog 38 c): ∃q:Rq,c=q.cv∧q.t.length≤maxLen:=by
 obtain⟨l,rfl,hn,hl⟩:=h.of_struct Tryz.underlying38
 match l,hn,hl with
 |[a,b,c,d],_,hl=>
  obtain⟨k,rfl,_⟩:=(hl 0 _ a rfl rfl).of_int Tryz.underlying3;obtain⟨n,rfl,_⟩:=(hl 1 _ b rfl rfl).of_int Tryz.underlying2;obtain⟨m,rfl,_⟩:=(hl 2 _ c rfl rfl).of_int Tryz.underlying2;obtain⟨w,rfl,hw⟩:=(hl 3 _ d rfl rfl).of_str Tryz.underlying9;exact⟨⟨k,n,m,w⟩,rfl,hw⟩
theorem own :ownKnob Tryz.prog.godebug=none:=by kernel_rfl
theorem kids :Kids Tryz.prog (· <Tryz.prog.types.size):=kids_rows (by kernel_rfl) (by kernel_rfl)
theorem aU0 : ∀t e,t<Tryz.prog.types.size→Tryz.prog.underlying t=some (.slice e)→0<Tryz.prog.cellsOf e:=slices_full_of Tryz.prog (by kernel_rfl)
end Go.Proofs.YtlldglbooaefhaaGreatDoor
namespace Go.Pl
open Go Go.Hl
def isV (ls:List (List aH))(a:Nat)(w:aH)(k:Nat):Bool:=decide (a<ls.length)&&((ls.getD a []).length==k&&wd (ls.getD a []) 0==w)
variable {a:Nat}{ls:List (List aH)}
theorem aE9 (h: ¬a<ls.length)(w:aH)(k:Nat):isV ls a w k=false:=by simp[isV,h]
theorem iU (h:a<ls.length)(w:aH)(k:Nat):isV ls a w k=(ls[a].length==k&&wd ls[a] 0==w):=by simp[isV,h]
variable {k:Nat}
theorem gD {w:aH}(h:isV ls a w k=true): ∃hl:a<ls.length,ls[a].length=k∧wd ls[a] 0=w:=by
 by_cases hl:a<ls.length;all_goals simp_all[iU,Bool.and_eq_true,beq_iff_eq,aE9]
def gB (ls:List (List aH))(a:Nat)(w:aH):Option Int:=if isV ls a w 2 then bN (wd (ls.getD a []) 1)else none
def mM (ls:List (List aH))(a:Nat)(w:aH):Option (Int×Int):=if isV ls a w 3 then match bN (wd (ls.getD a []) 1),bN (wd (ls.getD a []) 2)with|some n,some m=>some (n,m)|_,_=>none else none
theorem aF0 {w:aH}(h:isV ls a w 2=true)(hl:a<ls.length):gB ls a w=bN (wd ls[a] 1):=by simp[gB,h,hl]
theorem bY7 {w:aH}(h:isV ls a w 2=false):gB ls a w=none:=by simp[gB,h]
theorem bY8 {w:aH}(h:isV ls a w 3=false):mM ls a w=none:=by simp[mM,h]
theorem aZ6 {w:aH}(h:isV ls a w 3=true)(hl:a<ls.length):mM ls a w=match bN (wd ls[a] 1),bN (wd ls[a] 2)with|some n,some m=>some (n,m)|_,_=>none:=by simp[mM,h,hl]
variable {n:Int}
theorem jH {w:aH}(h:gB ls a w=some n): ∃hl:a<ls.length,ls[a].length=2∧wd ls[a] 0=w∧bN (wd ls[a] 1)=some n:=by grind[gB,gD]
theorem bG4 {w:aH}{m:Int}(h:mM ls a w=some (n,m)): ∃hl:a<ls.length,ls[a].length=3∧wd ls[a] 0=w∧bN (wd ls[a] 1)=some n∧bN (wd ls[a] 2)=some m:=by
 unfold mM at h;grind[gD]
variable {w:List aH}
theorem xY (h:w.length=2)(h0:wd w 0=dO):fO w=(bN (wd w 1)).map (⟨1,·,0,[]⟩):=by simp[fO,h,h0]
theorem aF1 (h:w.length=2)(h0:wd w 0=eM):fO w=some ⟨2,0,0,wd w 1⟩:=by grind[fO,eM,dO]
theorem xZ (h:w.length=2)(h0:wd w 0=eB):fO w=(bN (wd w 1)).map (⟨3,·,0,[]⟩):=by grind[fO,eB,dO,eM]
theorem aF2 (h:w.length=3)(h0:wd w 0=fN):fO w=match bN (wd w 1),bN (wd w 2)with|some n,some m=>some ⟨4,n,m,[]⟩|_,_=>none:=by
 simp only[fO,h,h0];grind
theorem aN7 (h:w.length=2)(h0:wd w 0=gC):fO w=(bN (wd w 1)).map (⟨5,·,0,[]⟩):=by grind[fO,gC,dO,eM,eB]
theorem aU1 (h:w.length=2)(h0:wd w 0=jR):fO w=(bN (wd w 1)).map (⟨6,·,0,[]⟩):=by grind[fO,jR,dO,eM,eB,gC]
theorem aU2 (h:w.length=2)(h0:wd w 0=kT):fO w=(bN (wd w 1)).map (⟨7,·,0,[]⟩):=by grind[fO,kT,dO,eM,eB,gC,jR]
theorem aF3 (h:w.length=1)(h0:wd w 0=iM):fO w=some ⟨8,0,0,[]⟩:=by simp[fO,h,h0]
def jZ (ls:List (List aH))(a:Nat):Option Rq:=if h:a<ls.length then fO ls[a]else none
theorem gE (h:a<ls.length):jZ ls a=fO ls[a]:=by simp[jZ,h]
theorem bG5 (h1:gB ls a dO=none)(h2:isV ls a eM 2=false)(h3:gB ls a eB=none)(h4:mM ls a fN=none)(h5:gB ls a gC=none)(h6:gB ls a jR=none)
  (h7:gB ls a kT=none) (h8:isV ls a iM 1=false):jZ ls a=none:=by
 unfold jZ;split
 ·
  rename_i hl;have n1: ∀w,gB ls a w=none→ls[a].length=2∧wd ls[a] 0=w→bN (wd ls[a] 1)=none:=fun w h hc=>by grind[isV,iU,aF0]
  unfold fO;split
  · grind
  ·
   split
   · grind[iU]
   ·
    split
    · grind
    ·
     split
     ·
      rename_i hc;have:isV ls a fN 3=true:=by rw[iU hl];simp[hc]
      grind[aZ6,absurd]
     ·
      split
      · grind
      grind[iU]
 · rfl
def jT (ls:List (List aH))(a:Nat):Option Nd:=if h:a<ls.length then jS ls[a]else none
theorem bR1 (h:isV ls a lG 1=true):jT ls a=some ⟨2,0,0,rq0⟩:=by grind[gD,jT,jS]
theorem bR2 (h:isV ls a lH 1=true):jT ls a=some ⟨3,0,0,rq0⟩:=by grind[gD,jT,jS,lH,lG]
theorem bY9 (h:gB ls a cR=some n):jT ls a=some ⟨4,n,0,rq0⟩:=by grind[jH,jT,jS]
theorem bG6 (h1:isV ls a lG 1=false)(h2:isV ls a lH 1=false)(h3:gB ls a cR=none):jT ls a=none:=by
 unfold jT;split
 ·
  rename_i hl;unfold jS;split
  · grind[iU]
  grind[iU,isV,cR,aF0]
 · rfl
abbrev Kds :=Option (List Nd×Int)×List (List aH)
def pS (ts:List Nd)(k:Int)(x:Kds):Kds:=(x.1.map fun p=>(ts++p.1,k+p.2),x.2)
def yA (n:Nd)(x:Kds):Option (List Nd)×List (List aH):=(x.1.map fun p=>{n with c:=p.2}::p.1,x.2)
theorem bR3 (ts us:List Nd)(k j:Int)(x:Kds):pS ts k (pS us j x)=pS (ts++us) (k+j) x:=by
 obtain⟨o,r⟩:=x;cases o<;>simp[pS,List.append_assoc,Int.add_assoc]
theorem bR4 (x:Kds):pS [] 0 x=x:=by simp_all[pS]
variable {r:List (List aH)}{f:Nat}
theorem nY {w:List aH}{q:Rq}(h:fO w=some q):rdN (f+1) (w::r)=(some [⟨1,0,0,q⟩],r):=by simp only[rdN,h]
theorem nZ {w:List aH}(h:fO w=none)(h2:jS w=none):rdN (f+1) (w::r)=(none,w::r):=by simp only[rdN,h,h2]
theorem oR {w:List aH}{n:Nd}(h:fO w=none)(h2:jS w=some n):rdN (f+1) (w::r)=yA n (rdK f r):=by
 simp only[rdN,h,h2]
 match rdK f r with
 |(none,r')=>rfl
 |(some (ts,c),r')=>rfl
variable {l:List (List aH)}
theorem aF4 (h:iN (l.headD [])=true):rdK (f+1) l=(some ([],0),l.tail):=by simp only[rdK,h,if_true]
theorem aU3 (h:iN (l.headD [])=false)(h2:rdN f l=(none,r)):rdK (f+1) l=(none,r):=by simp_all[rdK,Bool.false_eq_true,if_false]
variable {t:List Nd}
theorem xC (h:iN (l.headD [])=false)(h2:rdN f l=(some t,r)):rdK (f+1) l=pS t 1 (rdK f r):=by
 simp only[rdK,h,h2,Bool.false_eq_true,if_false];grind[rdK,pS,Int.add_comm]
theorem aF5 : ∀f,(∀l,∃j,(rdN f l).2=l.drop j∧ ∀t,(rdN f l).1=some t→t.length+(rdN f l).2.length≤l.length)∧(∀l,∃j,(rdK f l).2=l.drop j∧ ∀p,(rdK f l).1=some p→p.1.length+(rdK f l).2.length≤l.length)
 |0=>⟨fun l=>⟨0,by simp[rdN],fun t h=>by simp[rdN]at h⟩,fun l=>⟨0,by simp[rdK],fun t h=>by simp[rdK]at h⟩⟩
 |f+1=>by
  obtain⟨ihN,ihK⟩:=aF5 f;refine⟨fun l=>?_,fun l=>?_⟩
  ·
   match l with
   |[]=>simp_all[rdN]
   |w::r=>
    cases h1:fO w with
    |some q=>rw[nY h1];exact⟨1,rfl,fun t h=>by grind⟩
    |none=>
     cases h2:jS w with
     |none=>rw[nZ h1 h2];exact⟨0,rfl,fun t h=>by cases h⟩
     |some n=>
      rw[oR h1 h2];obtain⟨j,hj,hl⟩:=ihK r;refine⟨j+1,hj,fun t h=>?_⟩;cases hk:(rdK f r).1 with
      |none=>simp[yA,hk]at h
      |some p=>
       grind[yA,rdK]
  ·
   cases he:iN (l.headD [])with
   |true=>
    rw[aF4 he];exact⟨1,by simp,fun p h=>by grind⟩
   |false=>
    obtain⟨j,hj,hl⟩:=ihN l
    match h2:rdN f l with
    |(none,r)=>
     rw[aU3 he h2];grind
    |(some t,r)=>
     rw[xC he h2];rw[h2]at hj hl;obtain⟨i,hi,hl2⟩:=ihK r;have hj':r=l.drop j:=hj;have hl':=hl t rfl;simp only at hl';refine⟨j+i,?_,fun p h=>?_⟩
     · show(rdK f r).2=_;simp_all
     ·
      cases hk:(rdK f r).1 with
      |none=>simp[pS,hk]at h
      |some q=>
       grind[pS,rdK]
theorem aZ7 (f:Nat)(l:List (List aH)): ∃j,j≤l.length∧(rdN f l).2=l.drop j:=by
 obtain⟨j,hj,_⟩:=(aF5 f).1 l;rcases Nat.lt_or_ge l.length j with h|h
 · exact⟨l.length,Nat.le_refl _,by rw[hj,List.drop_eq_nil_of_le (by omega),List.drop_eq_nil_of_le (Nat.le_refl _)]⟩
 grind
theorem sW (ha:a≤ls.length):iN ((ls.drop a).headD [])=isV ls a wEnd 1:=by
 rcases Nat.lt_or_ge a ls.length with h|h
 · rw[iU h,List.drop_eq_getElem_cons h];rfl
 · rw[aE9 (by omega),List.drop_eq_nil_of_le h];rfl
structure KdSt (f:Nat)(ls:List (List aH))(a:Nat)(nd:Nd)(g:Nat)(ts:List Nd)(k p:Nat):Prop where
 eq:rdN f (ls.drop a)=yA nd (pS ts k (rdK g (ls.drop p)))
 le:p≤ls.length
 fuel:2*(ls.length-p)+2≤g
 lt:g<f
 len:ts.length+(ls.length-p)+1≤ls.length-a
 kids:k≤ts.length
variable {nd:Nd}
theorem KdSt.init (ha:a<ls.length)(hf:2*(ls.length-a)+1≤f)(h1:fO ls[a]=none)(h2:jS ls[a]=some nd):KdSt f ls a nd (f-1) [] 0 (a+1):=by
 obtain⟨g,rfl⟩: ∃g,f=g+1:=⟨f-1,by omega⟩;refine⟨?_,by omega,?_,by omega,by grind,by simp⟩;all_goals grind[List.drop_eq_getElem_cons,oR,yA,pS,bR4,Nat.add_sub_cancel]
variable {p g:Nat}{ts:List Nd}
theorem KdSt.end_ {nd:Nd}{k:Nat}(h:KdSt f ls a nd g ts k p)(he:isV ls p wEnd 1=true):p<ls.length∧rdN f (ls.drop a)=(some ({nd with c:=(k:Int)}::ts),ls.drop (p+1)):=by
 obtain⟨hp,_,_⟩:=gD he;obtain⟨q,rfl⟩: ∃q,g=q+1:=⟨g-1,by have:=h.fuel;omega⟩;refine⟨hp,?_⟩;rw[h.eq,aF4 (by rw[sW h.le,he])];simp[pS,yA]
theorem KdSt.no (h:KdSt f ls a nd g ts k p)(he:isV ls p wEnd 1=false)(hn:(rdN (g-1) (ls.drop p)).1=none):rdN f (ls.drop a)=(none,(rdN (g-1) (ls.drop p)).2):=by
 obtain⟨q,rfl⟩: ∃q,g=q+1:=⟨g-1,by have:=h.fuel;omega⟩;simp only[Nat.add_sub_cancel]at hn⊢;rw[h.eq,aU3 (by rw[sW h.le,he]) (r:=(rdN q (ls.drop p)).2) (Prod.ext hn rfl)];rfl
theorem KdSt.some_ (h:KdSt f ls a nd g ts k p)(he:isV ls p wEnd 1=false)(hs:(rdN (g-1) (ls.drop p)).1=some t):
  KdSt f ls a nd (g-1) (ts++t) (k+1) (ls.length-(rdN (g-1) (ls.drop p)).2.length):=by
 obtain⟨q,rfl⟩: ∃q,g=q+1:=⟨g-1,by have:=h.fuel;omega⟩;simp only[Nat.add_sub_cancel]at hs⊢;obtain⟨j,hj,hr⟩:=aZ7 q (ls.drop p);have hlt:(rdN q (ls.drop p)).snd.length<(ls.drop p).length:=(bO9 q).1 (ls.drop p) t (rdN q (ls.drop p)).snd (Prod.ext hs rfl);obtain⟨_,_,hlen⟩:=(aF5 q).1 (ls.drop p);have hlen':=hlen t hs;have hle:=h.le;rw[hr]at hlt hlen';simp only[List.length_drop]at hj hlt hlen';have hpos:ls.length-(rdN q (ls.drop p)).2.length=p+j:=by rw[hr];simp only[List.length_drop];omega
 have hfu:=h.fuel;have hfl:=h.lt;have hll:=h.len;have hkk:=h.kids;have ht0:1≤t.length∨t=[]:=by cases t<;>simp
 rw[hpos];refine⟨?_,by omega,by omega,by omega,by grind,?_⟩
 · rw[h.eq,xC (by rw[sW h.le,he]) (r:=(rdN q (ls.drop p)).2) (Prod.ext hs rfl),bR3,hr,List.drop_drop];rfl
 ·
  simp only[List.length_append];rcases ht0 with h0|h0
  · omega
  ·
   exfalso;subst h0
   revert hs
   match q,ls.drop p with
   |0,l=>intro hs;cases hs
   |q+1,[]=>intro hs;cases hs
   |q+1,w::r=>
    intro hs;cases h1:fO w with
    |some x=>rw[nY h1]at hs;cases hs
    |none=>
     cases h2:jS w with
     |none=>rw[nZ h1 h2]at hs;cases hs
     |some x=>
      rw[oR h1 h2]at hs;cases hk:(rdK q r).1 with
      |none=>simp[yA,hk]at hs
      |some y=>simp[yA,hk]at hs
theorem cF0 (ha:a≤ls.length)(h:isV ls a wRule 5=false):rdR (ls.drop a)=(none,ls.drop a):=by
 rcases Nat.lt_or_ge a ls.length with hl|hl
 · rw[iU hl]at h;rw[List.drop_eq_getElem_cons hl];simp_all[rdR,if_neg]
 · rw[List.drop_eq_nil_of_le hl];rfl
theorem bZ0 (hl:a<ls.length)(h1:ls[a].length=5)(h2:wd ls[a] 0=wRule)(hn:bN (wd ls[a] 4)=none):rdR (ls.drop a)=(none,ls.drop a):=by
 rw[List.drop_eq_getElem_cons hl];simp_all[rdR,if_pos]
theorem bR5 (hl:a<ls.length)(h1:ls[a].length=5)(h2:wd ls[a] 0=wRule){g:Int}(hn:bN (wd ls[a] 4)=some g):
  rdR (ls.drop a)=((rdT (ls.drop (a+1))).1.map fun t=>⟨wd ls[a] 1,wd ls[a] 2,wd ls[a] 3,g,t⟩,(rdT (ls.drop (a+1))).2):=by
 rw[List.drop_eq_getElem_cons hl];simp only[rdR];grind
theorem aF6 (ls:List (List aH)): ∃j,j≤ls.length∧(rdR ls).2=ls.drop j∧ ∀p,(rdR ls).1=some p→1≤j:=by
 match ls with
 |[]=>exact⟨0,by simp,rfl,fun p h=>by cases h⟩
 |w::r=>
  simp only[rdR];split
  ·
   cases bN (wd w 4)with
   |none=>exact⟨0,by simp,rfl,fun p h=>by cases h⟩
   |some g=>
    obtain⟨j,hj,h2⟩:=aZ7 (2*r.length+2) r;simp only[rdT]
    match hm:rdN (2*r.length+2) r with
    |(none,r')=>rw[hm]at h2;exact⟨j+1,by grind,h2,fun p h=>by cases h⟩
    |(some t,r')=>rw[hm]at h2;exact⟨j+1,by grind,h2,fun p h=>by omega⟩
  · exact⟨0,by simp,rfl,fun p h=>by cases h⟩
abbrev Rls :=Option (List Pr)×List (List aH)
structure RsSt (ls:List (List aH))(X:Rls)(acc:List Pr)(p:Nat):Prop where
 eq:X=kU (ls.length-p+1) (ls.drop p) acc
 le:p≤ls.length
 len:acc.length≤p
theorem aA5 : ∀(f g:Nat) (ls:List (List aH)) (acc:List Pr),ls.length<f→f≤g→kU g ls acc=kU f ls acc
 |0,_,_,_,h,_=>by omega
 |f+1,g,ls,acc,h,hg=>by
  obtain⟨q,rfl⟩: ∃q,g=q+1:=⟨g-1,by omega⟩;simp only[kU];split
  · rfl
  ·
   obtain⟨j,hj,h2,h3⟩:=aF6 ls
   match hm:rdR ls with
   |(none,r)=>rfl
   |(some x,r)=>
    rw[hm]at h2 h3;have h4:=h3 x rfl;simp only at h2;exact aA5 f q r _ (by rw[h2,List.length_drop];omega) (by omega)
variable {acc:List Pr}{X:Rls}
theorem RsSt.done (h:RsSt ls X acc p)(hp: ¬p<ls.length):p=ls.length∧X=(some acc,[]):=by
 have h1:=h.le;refine⟨by omega,?_⟩;rw[h.eq,List.drop_eq_nil_of_le (by omega),kU,if_pos rfl]
theorem RsSt.no (h:RsSt ls X acc p)(hp:p<ls.length)(hn:(rdR (ls.drop p)).1=none):X=(none,(rdR (ls.drop p)).2):=by
 rw[h.eq,kU,if_neg (by simp_all)];grind
theorem RsSt.some_ (h:RsSt ls X acc p)(hp:p<ls.length){x:Pr}(hs:(rdR (ls.drop p)).1=some x):
  RsSt ls X (acc++[x]) (ls.length-(rdR (ls.drop p)).2.length)∧p<ls.length-(rdR (ls.drop p)).2.length:=by
 obtain⟨j,hj,h2,h3⟩:=aF6 (ls.drop p);have h4:=h3 x hs;rw[List.length_drop]at hj;have hlen:=h.len;have hpos:ls.length-(rdR (ls.drop p)).2.length=p+j:=by rw[h2];simp only[List.length_drop];omega
 rw[hpos];refine⟨⟨?_,by omega,by grind⟩,by omega⟩;rw[h.eq,kU,if_neg (by grind)];grind[rdR,List.drop_drop,aA5,List.length_drop]
theorem cF1 (h:isV ls 0 wPolicy 3=false):rdP ls=(none,ls):=by
 match ls with
 |[]=>rfl
 |w::r=>
  simp_all[iU,rdP,if_neg]
theorem bZ1 (hl:0<ls.length)(h1:ls[0].length=3)(h2:wd ls[0] 0=wPolicy)(hn:bN (wd ls[0] 2)=none):rdP ls=(none,ls):=by
 match ls,hl with
 |w::r,_=>
  simp_all[List.getElem_cons_zero,rdP,if_pos]
theorem bR6 (hl:0<ls.length)(h1:ls[0].length=3)(h2:wd ls[0] 0=wPolicy){v:Int}(hn:bN (wd ls[0] 2)=some v):
  ∃X:Rls,rdP ls=(X.1.map fun l=>⟨wd ls[0] 1,v,l⟩,X.2)∧RsSt ls X [] 1:=by
 match ls,hl with
 |w::r,_=>
  simp only[List.getElem_cons_zero]at h1 h2 hn⊢;refine⟨kU (r.length+1) r [],?_,⟨by simp,by simp,by simp⟩⟩;simp only[rdP];grind
end Go.Pl
