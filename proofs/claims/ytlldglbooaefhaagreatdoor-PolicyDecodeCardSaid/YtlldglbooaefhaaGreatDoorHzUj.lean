/- Part of a proof: walks of functions of the program, by contracts, and the rules they use. By an AI agent. -/
import Derived.Test.YtlldglbooaefhaaGreatDoorHzU1
import Derived.Test.YtlldglbooaefhaaGreatDoorHzTc
import Derived.Test.YtlldglbooaefhaaGreatDoorHlTlaw
import Derived.Test.YtlldglbooaefhaaGreatDoorHlZb
import Derived.Test.YtlldglbooaefhaaGreatDoorRows
import Derived.Test.YtlldglbooaefhaaGreatDoorPl03c
import Derived.Test.YtlldglbooaefhaaGreatDoorPl03e
set_option linter.unusedSimpArgs false
set_option linter.unusedVariables false
set_option linter.defProp false
namespace Go.Proofs.YtlldglbooaefhaaGreatDoor
open Go Go.Hl Go.Pl
set_option maxRecDepth 10000
set_option maxHeartbeats 16000000
theorem cD5 (q:Rq)(hn:q.t.length<2^63):cF Tryz.prog 75 [q.cv] (fun v=>v= .bool (eV q)):=by
 refine FW Tryz.func75 ?_;refine R0 ?_;refine aB fun K hK=>?_;have key0: ∀(b:Bool) fr ob nx,b=inB q.n 1 32→Fits 0 fr ob (fin [(1,.ptr 0 0),(3,.c (.bool b))]) (fob [(0,.box 38 (.c q.cv))]) 100→K fr ob nx:=by
  rintro b fr ob nx rfl hf;refine hK _ _ _ (bM hf ?_);clear hf hK K;refine aB fun K hK=>?_;refine R0 ?_;refine aN ?_;refine aB fun K hK=>?_;have key: ∀(b:Bool) fr ob nx,b=(q.k==1||(q.k==3||q.k==5))→Fits 0 fr ob (fin [(1,.ptr 0 0),(3,.c (.bool (inB q.n 1 32))),(13,.c (.int .i64 q.k)),(14,.c (.bool b))]) (fob [(0,.box 38 (.c q.cv))]) 300→K fr ob nx:=by
   rintro b fr ob nx rfl hf;refine hK _ _ _ (bM hf ?_);clear hf hK K;refine aG (b:=_) rfl (fun hb=>?_) (fun hb=>?_)
   ·
    refine aB fun K hK=>Rg ?_;iterate 2 refine S0 ?_
    refine aD 18 rfl (fun h6_18=>?_) (fun h6_18=>?_)
    ·
     have F:=h6_18;iterate 5 refine SF ?_
     refine aD 22 rfl (fun h6_22=>?_) (fun h6_22=>?_)
     ·
      have F:=aI h6_18 h6_22;iterate 5 refine SF ?_
      refine T2 (hK _ _ _ ?_);clear hK K;refine aE (RT Tryz.results75 ?_);exact aH [] (.bool _) rfl (by rw[xW hb,h6_18,h6_22];rfl)
     have F:=aI h6_18 h6_22;iterate 5 refine SF ?_
     refine T2 (hK _ _ _ ?_);clear hK K;refine aE (RT Tryz.results75 ?_);exact aH [] (.bool _) rfl (by rw[xW hb,h6_18,h6_22];rfl)
    have F:=h6_18;iterate 10 refine SF ?_
    refine T2 (hK _ _ _ ?_);clear hK K;refine aE (RT Tryz.results75 ?_);exact aH [] (.bool _) rfl (by rw[xW hb,h6_18];rfl)
   have h1:=hb;refine R0 ?_;refine aG (b:=_) rfl (fun hb=>?_) (fun hb=>?_)
   ·
    refine aB fun K hK=>Rg ?_;iterate 2 refine S0 ?_
    refine aD 31 rfl (fun h8_31=>?_) (fun h8_31=>?_)
    ·
     have F:=h8_31;iterate 5 refine SF ?_
     refine aD 35 rfl (fun h8_35=>?_) (fun h8_35=>?_)
     ·
      have F:=aI h8_31 h8_35;iterate 5 refine SF ?_
      refine aD 40 rfl (fun h8_40=>?_) (fun h8_40=>?_)
      ·
       have F:=aI h8_31 (aI h8_35 h8_40);iterate 5 refine SF ?_
       refine T2 (hK _ _ _ ?_);clear hK K;refine aE (RT Tryz.results75 ?_);exact aH [] (.bool _) rfl (by rw[sB hb,h8_31,h8_35,h8_40];rfl)
      have F:=aI h8_31 (aI h8_35 h8_40);iterate 5 refine SF ?_
      refine T2 (hK _ _ _ ?_);clear hK K;refine aE (RT Tryz.results75 ?_);exact aH [] (.bool _) rfl (by rw[sB hb,h8_31,h8_35,h8_40];rfl)
     have F:=aI h8_31 h8_35;iterate 10 refine SF ?_
     refine T2 (hK _ _ _ ?_);clear hK K;refine aE (RT Tryz.results75 ?_);exact aH [] (.bool _) rfl (by rw[sB hb,h8_31,h8_35];rfl)
    have F:=h8_31;iterate 15 refine SF ?_
    refine T2 (hK _ _ _ ?_);clear hK K;refine aE (RT Tryz.results75 ?_);exact aH [] (.bool _) rfl (by rw[sB hb,h8_31];rfl)
   have h2:=hb;refine R0 ?_;refine aG (b:=_) rfl (fun hb=>?_) (fun hb=>?_)
   ·
    refine aB fun K hK=>Rg ?_;iterate 4 refine S0 ?_
    refine aD 51 rfl (fun h10_51=>?_) (fun h10_51=>?_)
    ·
     have F:=h10_51;iterate 5 refine SF ?_
     refine aD 55 rfl (fun h10_55=>?_) (fun h10_55=>?_)
     ·
      have F:=aI h10_51 h10_55;iterate 2 refine SF ?_
      refine aP (g:=some (57,true)) rfl rfl fun K' hK'=>T6 ?_;refine C1 (xG _ hn) ?_;rintro u rfl;refine AX (hK' _ _ ?_);clear hK' K';iterate 2 refine SF ?_
      refine T2 (hK _ _ _ ?_);clear hK K;refine aE (RT Tryz.results75 ?_);exact aH [] (.bool _) rfl (by rw[xX hb,h10_51,h10_55];rfl)
     have F:=aI h10_51 h10_55;iterate 5 refine SF ?_
     refine T2 (hK _ _ _ ?_);clear hK K;refine aE (RT Tryz.results75 ?_);exact aH [] (.bool _) rfl (by rw[xX hb,h10_51,h10_55];rfl)
    have F:=h10_51;iterate 10 refine SF ?_
    refine T2 (hK _ _ _ ?_);clear hK K;refine aE (RT Tryz.results75 ?_);exact aH [] (.bool _) rfl (by rw[xX hb,h10_51];rfl)
   have h3:=hb;refine R0 ?_;refine aG (b:=_) rfl (fun hb=>?_) (fun hb=>?_)
   ·
    refine aB fun K hK=>Rg ?_;iterate 4 refine S0 ?_
    refine aD 66 rfl (fun h12_66=>?_) (fun h12_66=>?_)
    ·
     have F:=h12_66;iterate 5 refine SF ?_
     refine aD 70 rfl (fun h12_70=>?_) (fun h12_70=>?_)
     ·
      have F:=aI h12_66 h12_70;iterate 5 refine SF ?_
      refine aD 75 rfl (fun h12_75=>?_) (fun h12_75=>?_)
      ·
       have F:=aI h12_66 (aI h12_70 h12_75);iterate 5 refine SF ?_
       refine T2 (hK _ _ _ ?_);clear hK K;refine aE (RT Tryz.results75 ?_);exact aH [] (.bool _) rfl (by rw[sC hb,h12_66,h12_70,h12_75];rfl)
      have F:=aI h12_66 (aI h12_70 h12_75);iterate 5 refine SF ?_
      refine T2 (hK _ _ _ ?_);clear hK K;refine aE (RT Tryz.results75 ?_);exact aH [] (.bool _) rfl (by rw[sC hb,h12_66,h12_70,h12_75];rfl)
     have F:=aI h12_66 h12_70;iterate 10 refine SF ?_
     refine T2 (hK _ _ _ ?_);clear hK K;refine aE (RT Tryz.results75 ?_);exact aH [] (.bool _) rfl (by rw[sC hb,h12_66,h12_70];rfl)
    have F:=h12_66;iterate 15 refine SF ?_
    refine T2 (hK _ _ _ ?_);clear hK K;refine aE (RT Tryz.results75 ?_);exact aH [] (.bool _) rfl (by rw[sC hb,h12_66];rfl)
   have h4:=hb;refine R0 ?_;refine aG (b:=_) rfl (fun hb=>?_) (fun hb=>?_)
   ·
    refine aB fun K hK=>Rg ?_;iterate 2 refine S0 ?_
    refine HS rfl rfl fun K' hK'=>T5 ?_;refine C1 (xF _) ?_;rintro u rfl;refine AX (hK' _ _ ?_);clear hK' K';refine S0 ?_;refine aD 86 rfl (fun h14_86=>?_) (fun h14_86=>?_)
    ·
     have F:=h14_86;iterate 5 refine SF ?_
     refine aD 90 rfl (fun h14_90=>?_) (fun h14_90=>?_)
     ·
      have F:=aI h14_86 h14_90;iterate 5 refine SF ?_
      refine T2 (hK _ _ _ ?_);clear hK K;refine aE (RT Tryz.results75 ?_);exact aH [] (.bool _) rfl (by rw[xY hb,h14_86,h14_90];rfl)
     have F:=aI h14_86 h14_90;iterate 5 refine SF ?_
     refine T2 (hK _ _ _ ?_);clear hK K;refine aE (RT Tryz.results75 ?_);exact aH [] (.bool _) rfl (by rw[xY hb,h14_86,h14_90];rfl)
    have F:=h14_86;iterate 10 refine SF ?_
    refine T2 (hK _ _ _ ?_);clear hK K;refine aE (RT Tryz.results75 ?_);exact aH [] (.bool _) rfl (by rw[xY hb,h14_86];rfl)
   have h5:=hb;refine R0 ?_;refine aG (b:=_) rfl (fun hb=>?_) (fun hb=>?_)
   ·
    refine aB fun K hK=>Rg ?_;iterate 4 refine S0 ?_
    refine aD 101 rfl (fun h16_101=>?_) (fun h16_101=>?_)
    ·
     have F:=h16_101;iterate 5 refine SF ?_
     refine aD 105 rfl (fun h16_105=>?_) (fun h16_105=>?_)
     ·
      have F:=aI h16_101 h16_105;iterate 5 refine SF ?_
      refine T2 (hK _ _ _ ?_);clear hK K;refine aE (RT Tryz.results75 ?_);exact aH [] (.bool _) rfl (by rw[xZ hb,h16_101,h16_105];rfl)
     have F:=aI h16_101 h16_105;iterate 5 refine SF ?_
     refine T2 (hK _ _ _ ?_);clear hK K;refine aE (RT Tryz.results75 ?_);exact aH [] (.bool _) rfl (by rw[xZ hb,h16_101,h16_105];rfl)
    have F:=h16_101;iterate 10 refine SF ?_
    refine T2 (hK _ _ _ ?_);clear hK K;refine aE (RT Tryz.results75 ?_);exact aH [] (.bool _) rfl (by rw[xZ hb,h16_101];rfl)
   refine aJ ?_;refine T0 (hK _ _ _ ?_);clear hK K;refine R0 ?_;refine aE (RT Tryz.results75 ?_);exact aH [] (.bool false) rfl (by rw[bD6 h1 (by simpa using h2) (by simpa using h3) (by simpa using h4) (by simpa using h5) (by simpa using hb)])
  refine R0 ?_;refine aG (b:=_) rfl (fun hb=>?_) (fun hb=>?_)
  · refine aJ (T3 ?_);exact key (q.k==1) _ _ _ (by rw[hb];rfl) (fF)
  have h1:=hb;refine R0 ?_;refine aG (b:=_) rfl (fun hb=>?_) (fun hb=>?_)
  · refine aJ (T3 ?_);exact key (q.k==3) _ _ _ (by rw[h1,hb];rfl) (fF)
  have h1':=hb;refine aK (by kernel_rfl) ?_;simp only[↓sP,sA,tyS,simprocAttr];exact key (q.k==5) _ _ _ (by rw[h1,h1'];rfl) (fF)
 refine Rg ?_;iterate 4 refine S0 ?_
 refine aD 6 rfl (fun h1_6=>?_) (fun h1_6=>?_)
 ·
  have F:=h1_6;iterate 5 refine SF ?_
  refine aD 10 rfl (fun h1_10=>?_) (fun h1_10=>?_)
  · simp only[h1_10];refine T4 ?_;exact key0 true _ _ _ (by simp only[inB,h1_6,h1_10,Bool.true_and,Bool.false_and]) (fF)
  simp only[h1_10];refine T4 ?_;exact key0 false _ _ _ (by simp only[inB,h1_6,h1_10,Bool.true_and,Bool.false_and]) (fF)
 have F:=h1_6;iterate 5 refine SF ?_
 refine T4 ?_;exact key0 false _ _ _ (by simp only[inB,h1_6,Bool.true_and,Bool.false_and]) (fF)
theorem bV5 (n:Nd)(hn:n.q.t.length<2^63):cF Tryz.prog 43 [n.cv] (fun v=>v= .bool (oA n)):=by
 refine FW Tryz.func43 ?_;refine R0 ?_;refine aB fun K hK=>Rg ?_;have F:=@aH4;iterate 5 refine SF ?_
 refine T2 (hK _ _ _ ?_);clear hK K;refine aB fun K hK=>?_;refine R0 ?_;refine aN ?_;refine R0 ?_;refine aG (b:=_) rfl (fun hb=>?_) (fun hb=>?_)
 ·
  refine aB fun K hK=>Rg ?_;iterate 4 refine S0 ?_
  refine aD 14 rfl (fun h4_14=>?_) (fun h4_14=>?_)
  ·
   have F:=h4_14;iterate 5 refine SF ?_
   refine aD 18 rfl (fun h4_18=>?_) (fun h4_18=>?_)
   ·
    have F:=aI h4_14 h4_18;iterate 2 refine SF ?_
    refine aP (g:=some (20,true)) rfl rfl fun K' hK'=>T6 ?_;refine C1 (cD5 n.q hn) ?_;rintro u rfl;refine AX (hK' _ _ ?_);clear hK' K';iterate 2 refine SF ?_
    refine T2 (hK _ _ _ ?_);clear hK K;refine aE (RT Tryz.results43 ?_);exact aH [] (.bool _) rfl (by rw[qF (by simpa using hb),h4_14,h4_18];rfl)
   have F:=aI h4_14 h4_18;iterate 5 refine SF ?_
   refine T2 (hK _ _ _ ?_);clear hK K;refine aE (RT Tryz.results43 ?_);exact aH [] (.bool _) rfl (by rw[qF (by simpa using hb),h4_14,h4_18];rfl)
  have F:=h4_14;iterate 10 refine SF ?_
  refine T2 (hK _ _ _ ?_);clear hK K;refine aE (RT Tryz.results43 ?_);exact aH [] (.bool _) rfl (by rw[qF (by simpa using hb),h4_14];rfl)
 have h1:n.k≠1:=by simpa using hb
 refine aB fun K hK=>?_;have key2: ∀(b:Bool) fr ob nx,b=(n.k==2||n.k==3)→Fits 0 fr ob (fin [(1,.ptr 0 0),(3,.c (.bool (gE n.q rq0))),(9,.c (.int .i64 n.k)),(25,.c (.bool b))]) (fob [(0,.box 40 (.c n.cv))]) 300→K fr ob nx:=by
  rintro b fr ob nx rfl hf;refine hK _ _ _ (bM hf ?_);clear hf hK K;refine aG (b:=_) rfl (fun hb=>?_) (fun hb=>?_)
  ·
   refine aB fun K hK=>Rg ?_;iterate 4 refine S0 ?_
   refine aD 30 rfl (fun h7_30=>?_) (fun h7_30=>?_)
   ·
    have F:=h7_30;iterate 5 refine SF ?_
    refine aD 34 rfl (fun h7_34=>?_) (fun h7_34=>?_)
    ·
     have F:=aI h7_30 h7_34;iterate 3 refine SF ?_
     refine T2 (hK _ _ _ ?_);clear hK K;refine aE (RT Tryz.results43 ?_);exact aH [] (.bool _) rfl (by rw[tO hb,h7_30,h7_34];rfl)
    have F:=aI h7_30 h7_34;iterate 3 refine SF ?_
    refine T2 (hK _ _ _ ?_);clear hK K;refine aE (RT Tryz.results43 ?_);exact aH [] (.bool _) rfl (by rw[tO hb,h7_30,h7_34];rfl)
   have F:=h7_30;iterate 8 refine SF ?_
   refine T2 (hK _ _ _ ?_);clear hK K;refine aE (RT Tryz.results43 ?_);exact aH [] (.bool _) rfl (by rw[tO hb,h7_30];rfl)
  have h2:=hb;refine R0 ?_;refine aG (b:=_) rfl (fun hb=>?_) (fun hb=>?_)
  ·
   refine aB fun K hK=>Rg ?_;iterate 4 refine S0 ?_
   refine aD 43 rfl (fun h9_43=>?_) (fun h9_43=>?_)
   ·
    have F:=h9_43;iterate 5 refine SF ?_
    refine aD 47 rfl (fun h9_47=>?_) (fun h9_47=>?_)
    ·
     have F:=aI h9_43 h9_47;iterate 7 refine SF ?_
     refine aD 54 rfl (fun h9_54=>?_) (fun h9_54=>?_)
     ·
      have F:=aI h9_43 (aI h9_47 h9_54);iterate 3 refine SF ?_
      refine T2 (hK _ _ _ ?_);clear hK K;refine aE (RT Tryz.results43 ?_);exact aH [] (.bool _) rfl (by rw[mP (by simpa using hb),h9_43,h9_47,h9_54];rfl)
     have F:=aI h9_43 (aI h9_47 h9_54);iterate 3 refine SF ?_
     refine T2 (hK _ _ _ ?_);clear hK K;refine aE (RT Tryz.results43 ?_);exact aH [] (.bool _) rfl (by rw[mP (by simpa using hb),h9_43,h9_47,h9_54];rfl)
    have F:=aI h9_43 h9_47;iterate 10 refine SF ?_
    refine T2 (hK _ _ _ ?_);clear hK K;refine aE (RT Tryz.results43 ?_);exact aH [] (.bool _) rfl (by rw[mP (by simpa using hb),h9_43,h9_47];rfl)
   have F:=h9_43;iterate 15 refine SF ?_
   refine T2 (hK _ _ _ ?_);clear hK K;refine aE (RT Tryz.results43 ?_);exact aH [] (.bool _) rfl (by rw[mP (by simpa using hb),h9_43];rfl)
  refine aJ ?_;refine T0 (hK _ _ _ ?_);clear hK K;refine R0 ?_;refine aE (RT Tryz.results43 ?_);exact aH [] (.bool _) rfl (by rw[bV0 h1 h2 (by simpa using hb)])
 refine R0 ?_;refine aG (b:=_) rfl (fun hb=>?_) (fun hb=>?_)
 · refine aJ (T3 ?_);exact key2 (n.k==2) _ _ _ (by rw[hb];rfl) (aM (by omega) (by simp[aZ,fin_at,finA_at,upd_at,HV.men,HV.menL,HV.norm,HV.toC,HV.toCL,rq0]) (by simp[bA,fob_at,upd_at,none0_at,bX,HO.men,HV.men,HV.menL,HV.norm,HV.toC,HV.toCL,rq0]))
 have h2:=hb;refine aK (by kernel_rfl) ?_;simp only[↓sP,sA,tyS,simprocAttr];exact key2 (n.k==3) _ _ _ (by rw[hb];rfl) (aM (by omega) (by simp[aZ,fin_at,finA_at,upd_at,HV.men,HV.menL,HV.norm,HV.toC,HV.toCL,rq0]) (by simp[bA,fob_at,upd_at,none0_at,bX,HO.men,HV.men,HV.menL,HV.norm,HV.toC,HV.toCL,rq0]))
theorem cQ (n:Int)(h: -4611686018427387904≤n∧n≤4611686018427387904):IntKind.i64.wrap n=n:=IntWalk.i64_in _ (by omega)
theorem vQ (l:List Nd)(hn: ∀n∈l,n.q.t.length<2^63):cF Tryz.prog 13 [.slc (l.map Nd.cv)] (fun v=>v= .bool (dS l)):=by
 refine FW Tryz.func13 ?_;refine R0 ?_;refine aB fun K hK=>?_;refine aB fun K hK=>Rg ?_;iterate 4 refine S0 ?_
 refine aD 9 rfl (fun h1_9=>?_) (fun h1_9=>?_)
 ·
  have F:=h1_9;iterate 4 refine SF ?_
  refine T2 (hK _ _ _ ?_);clear hK K;refine CT rfl ?_;refine R0 ?_;refine aE (RT Tryz.results13 ?_);exact aH [] (.bool false) rfl (by rw[kS (.inl (by simp only[decide_eq_true_eq]at h1_9;omega))])
 have F:=h1_9;iterate 4 refine SF ?_
 refine aD 13 rfl (fun h1_13=>?_) (fun h1_13=>?_)
 · simp only[h1_13];refine T2 (hK _ _ _ ?_);clear hK K;refine CT rfl ?_;refine R0 ?_;refine aE (RT Tryz.results13 ?_);exact aH [] (.bool false) rfl (by rw[kS (.inr (by simp only[decide_eq_true_eq]at h1_13;omega))])
 simp only[h1_13];refine T2 (hK _ _ _ ?_);clear hK K;refine CF rfl ?_;refine aJ ?_;refine T0 (hK _ _ _ ?_);clear hK K;have hl1:1≤l.length:=by simp only[decide_eq_false_iff_not]at h1_9;omega
 have hl2:l.length≤60:=by simp only[decide_eq_false_iff_not]at h1_13;omega
 clear h1_9 h1_13;refine R0 ?_;refine aB fun K hK=>?_;refine R0 ?_;refine aN ?_;refine bR (α:={y:Nat×Int×Int//ScSt l y.1 y.2.1 y.2.2}) (fun y=>(fin [(3,.c (.int .i64 y.1.2.1)),(4,.c (.int .i64 y.1.2.2)),(15,.c (.slc (l.map Nd.cv))),(16,.c (.int .i64 l.length)),(17,.c (.int .i64 y.1.1))],fob [])) 200 (fun y=>l.length-y.1.1) ⟨(0,1,0),ScSt.init l⟩ (fF) ?_;rintro⟨⟨i,m,v⟩,hst⟩;simp only at hst;have hi:=hst.le;have hm0:=hst.m0;have hm1:=hst.m1;have hv0:=hst.v0;have hv1:=hst.v1;refine R0 ?_;refine aB fun K hK=>?_;refine aG (b:=decide ((i:Int)<l.length)) rfl (fun hb=>?_) (fun hb=>?_)
 ·
  have hlt:i<l.length:=by simpa using hb
  clear hb;refine aJ ?_;refine T0 (hK _ _ _ ?_);clear hK K;refine aB fun K hK=>?_;refine aN ?_;refine aB fun K hK=>Rg ?_;have F:=aI @Int.natCast_nonneg (aI @Int.ofNat_lt (aI hlt (nM hlt)));iterate 4 refine SF ?_
  refine T2 (hK _ _ _ ?_);clear hK K;refine aB fun K hK=>?_;refine aB fun K hK=>Rg ?_;iterate 3 refine S0 ?_
  refine aD 22 rfl (fun h7_22=>?_) (fun h7_22=>?_)
  ·
   have F:=h7_22;iterate 4 refine SF ?_
   refine T2 (hK _ _ _ ?_);clear hK K;refine CT rfl ?_;refine R0 ?_;refine aE (RT Tryz.results13 ?_);exact aH [] (.bool false) rfl (by rw[hst.stop hlt (.inl (by simpa using h7_22))])
  have F:=h7_22;refine SF ?_;refine aP (g:=some (23,false)) rfl rfl fun K' hK'=>T6 ?_;refine C1 (bV4 l[i] (hn _ (List.getElem_mem hlt))) ?_;rintro u rfl;refine AX (hK' _ _ ?_);clear hK' K';iterate 2 refine SF ?_
  refine aD 25 rfl (fun h7_25=>?_) (fun h7_25=>?_)
  ·
   simp only[h7_25];refine T2 (hK _ _ _ ?_);clear hK K;refine CF rfl ?_;refine aJ ?_;refine T0 (hK _ _ _ ?_);clear hK K;have hnb:cH l[i]=true:=by simpa using h7_25
   have hm:m≠0:=by simpa using h7_22
   obtain⟨c1,c2,c3,c4⟩:=eI hnb;have hnx:=hst.next hlt hm hnb;clear h7_22 h7_25;refine aB fun K hK=>Rg ?_;iterate 6 refine S0 ?_ (e:=fun _ h_=>by simp only[sH,↓sP,sA,tyS,simprocAttr,cQ (l[i].c-1) (by omega),cQ (m+(l[i].c-1)) (by omega)];exact AX h_)
   refine T2 (hK _ _ _ ?_);clear hK K;refine R0 ?_;refine aG (b:=_) rfl (fun hb=>?_) (fun hb=>?_)
   · refine aK (by kernel_rfl) ?_;simp only[↓sP,sA,tyS,simprocAttr,cQ (v+1) (by omega)];refine AX (hK _ _ _ ?_);clear hK K;refine aK (by kernel_rfl) ?_;simp only[↓sP,sA,tyS,simprocAttr,cQ ((i:Int)+1) (by omega)];rw[if_pos (by simpa using hb)]at hnx;refine⟨⟨(i+1,_,_),hnx⟩,fF,?_⟩;show l.length-(i+1)<l.length-i;omega
   refine aJ ?_;refine T0 (hK _ _ _ ?_);clear hK K;refine aK (by kernel_rfl) ?_;simp only[↓sP,sA,tyS,simprocAttr,cQ ((i:Int)+1) (by omega)];rw[if_neg (by simpa using hb)]at hnx;refine⟨⟨(i+1,_,_),hnx⟩,fF,?_⟩;show l.length-(i+1)<l.length-i;omega
  simp only[h7_25];refine T2 (hK _ _ _ ?_);clear hK K;refine CT rfl ?_;refine R0 ?_;refine aE (RT Tryz.results13 ?_);exact aH [] (.bool false) rfl (by rw[hst.stop hlt (.inr (by simpa using h7_25))])
 refine bJ (T3 ?_);clear hK K;refine AX (hK _ _ _ ?_);clear hK K;have hei:i=l.length:=by simp only[decide_eq_false_iff_not]at hb;omega
 subst hei;have hf:=hst.fin hl1 hl2;clear hb;refine aB fun K hK=>Rg ?_;iterate 3 refine S0 ?_
 refine aD 40 rfl (fun h13_40=>?_) (fun h13_40=>?_)
 ·
  have F:=h13_40;iterate 4 refine SF ?_
  refine T2 (hK _ _ _ ?_);clear hK K;refine aE (RT Tryz.results13 ?_);exact aH [] (.bool _) rfl (by rw[hf,h13_40,Bool.true_and])
 have F:=h13_40;iterate 4 refine SF ?_
 refine T2 (hK _ _ _ ?_);clear hK K;refine aE (RT Tryz.results13 ?_);exact aH [] (.bool false) rfl (by rw[hf,h13_40,Bool.false_and])
theorem bV6 (l:List Nd)(hn: ∀n∈l,n.q.t.length<2^63):cF Tryz.prog 14 [.slc (l.map Nd.cv)] (fun v=>v= .bool (dS l)):=by
 refine FW Tryz.func14 ?_;refine R0 ?_;refine aB fun K hK=>?_;refine aB fun K hK=>Rg ?_;iterate 4 refine S0 ?_
 refine aD 8 rfl (fun h1_8=>?_) (fun h1_8=>?_)
 ·
  have F:=h1_8;iterate 4 refine SF ?_
  refine T2 (hK _ _ _ ?_);clear hK K;refine CT rfl ?_;refine R0 ?_;refine aE (RT Tryz.results14 ?_);exact aH [] (.bool false) rfl (by rw[kS (.inl (by simp only[decide_eq_true_eq]at h1_8;omega))])
 have F:=h1_8;iterate 4 refine SF ?_
 refine aD 12 rfl (fun h1_12=>?_) (fun h1_12=>?_)
 · simp only[h1_12];refine T2 (hK _ _ _ ?_);clear hK K;refine CT rfl ?_;refine R0 ?_;refine aE (RT Tryz.results14 ?_);exact aH [] (.bool false) rfl (by rw[kS (.inr (by simp only[decide_eq_true_eq]at h1_12;omega))])
 simp only[h1_12];refine T2 (hK _ _ _ ?_);clear hK K;refine CF rfl ?_;refine aJ ?_;refine T0 (hK _ _ _ ?_);clear hK K;have hl1:1≤l.length:=by simp only[decide_eq_false_iff_not]at h1_8;omega
 have hl2:l.length≤60:=by simp only[decide_eq_false_iff_not]at h1_12;omega
 clear h1_8 h1_12;refine R0 ?_;refine aB fun K hK=>?_;refine R0 ?_;refine aN ?_;refine bR (α:={y:Nat×Int×Int//ScSt l y.1 y.2.1 y.2.2}) (fun y=>(fin [(0,.c (.slc (l.map Nd.cv))),(3,.c (.int .i64 y.1.2.1)),(4,.c (.int .i64 y.1.2.2)),(5,.c (.int .i64 y.1.1))],fob [])) 200 (fun y=>l.length-y.1.1) ⟨(0,1,0),ScSt.init l⟩ (fF) ?_;rintro⟨⟨i,m,v⟩,hst⟩;simp only at hst;have hi:=hst.le;have hm0:=hst.m0;have hm1:=hst.m1;have hv0:=hst.v0;have hv1:=hst.v1;refine aB fun K hK=>?_;refine aB fun K hK=>Rg ?_;iterate 4 refine S0 ?_
 refine T2 (hK _ _ _ ?_);clear hK K;refine aG (b:=decide ((i:Int)<l.length)) rfl (fun hb=>?_) (fun hb=>?_)
 ·
  have hlt:i<l.length:=by simpa using hb
  clear hb;refine aJ ?_;refine T0 (hK _ _ _ ?_);clear hK K;refine aB fun K hK=>?_;refine aN ?_;refine aB fun K hK=>?_;refine aB fun K hK=>Rg ?_;have F:=aI @Int.natCast_nonneg (aI @Int.ofNat_lt (aI hlt (nM hlt)));iterate 3 refine SF ?_
  refine aD 21 rfl (fun h7_21=>?_) (fun h7_21=>?_)
  ·
   have F:=aI @Int.natCast_nonneg (aI @Int.ofNat_lt (aI hlt (aI (nM hlt) h7_21)));iterate 15 refine SF ?_
   refine T2 (hK _ _ _ ?_);clear hK K;refine CT rfl ?_;refine R0 ?_;refine aE (RT Tryz.results14 ?_);exact aH [] (.bool false) rfl (by rw[hst.stop hlt (.inl (by simpa using h7_21))])
  have F:=aI @Int.natCast_nonneg (aI @Int.ofNat_lt (aI hlt (aI (nM hlt) h7_21)));iterate 4 refine SF ?_
  refine aP (g:=some (22,false)) rfl rfl fun K' hK'=>T6 ?_;refine C1 (bV5 l[i] (hn _ (List.getElem_mem hlt))) ?_;rintro u rfl;refine AX (hK' _ _ ?_);clear hK' K';iterate 3 refine SF ?_
  refine aD 27 rfl (fun h7_27=>?_) (fun h7_27=>?_)
  ·
   have F:=aI @Int.natCast_nonneg (aI @Int.ofNat_lt (aI hlt (aI (nM hlt) (aI h7_21 h7_27))));iterate 7 refine SF ?_
   refine aD 36 rfl (fun h7_36=>?_) (fun h7_36=>?_)
   · simp only[h7_36];refine T2 (hK _ _ _ ?_);clear hK K;refine CT rfl ?_;refine R0 ?_;refine aE (RT Tryz.results14 ?_);exact aH [] (.bool false) rfl (by rw[hst.stop hlt (.inr (by rw[aH3,h7_27,h7_36];rfl))])
   simp only[h7_36];refine T2 (hK _ _ _ ?_);clear hK K;refine CF rfl ?_;refine aJ ?_;refine T0 (hK _ _ _ ?_);clear hK K;have hnb:cH l[i]=true:=by rw[aH3,h7_27,h7_36];rfl
   have hm:m≠0:=by simpa using h7_21
   obtain⟨c1,c2,c3,c4⟩:=eI hnb;have hnx:=hst.next hlt hm hnb;clear h7_21 h7_27 h7_36;refine aB fun K hK=>Rg ?_;iterate 9 refine S0 ?_ (e:=fun _ h_=>by simp only[sH,↓sP,sA,tyS,simprocAttr,Int.natCast_nonneg,Int.ofNat_lt,hlt,bS hlt,cQ (l[i].c-1) (by omega),cQ (m+(l[i].c-1)) (by omega)];exact AX h_)
   refine T2 (hK _ _ _ ?_);clear hK K;refine aB fun K hK=>Rg ?_;have F:=aI @Int.natCast_nonneg (aI @Int.ofNat_lt (aI hlt (nM hlt)));iterate 6 refine SF ?_
   refine T2 (hK _ _ _ ?_);clear hK K;refine aG (b:=_) rfl (fun hb=>?_) (fun hb=>?_)
   · refine aK (by kernel_rfl) ?_;simp only[↓sP,sA,tyS,simprocAttr,cQ (v+1) (by omega)];refine AX (hK _ _ _ ?_);clear hK K;refine aK (by kernel_rfl) ?_;simp only[↓sP,sA,tyS,simprocAttr,cQ ((i:Int)+1) (by omega)];rw[if_pos (by simpa using hb)]at hnx;refine⟨⟨(i+1,_,_),hnx⟩,fF,?_⟩;show l.length-(i+1)<l.length-i;omega
   refine aJ ?_;refine T0 (hK _ _ _ ?_);clear hK K;refine aK (by kernel_rfl) ?_;simp only[↓sP,sA,tyS,simprocAttr,cQ ((i:Int)+1) (by omega)];rw[if_neg (by simpa using hb)]at hnx;refine⟨⟨(i+1,_,_),hnx⟩,fF,?_⟩;show l.length-(i+1)<l.length-i;omega
  have F:=aI @Int.natCast_nonneg (aI @Int.ofNat_lt (aI hlt (aI (nM hlt) (aI h7_21 h7_27))));iterate 7 refine SF ?_
  refine T2 (hK _ _ _ ?_);clear hK K;refine CT rfl ?_;refine R0 ?_;refine aE (RT Tryz.results14 ?_);exact aH [] (.bool false) rfl (by rw[hst.stop hlt (.inr (by rw[aH3,h7_27];rfl))])
 refine bJ (T3 ?_);clear hK K;refine AX (hK _ _ _ ?_);clear hK K;have hei:i=l.length:=by simp only[decide_eq_false_iff_not]at hb;omega
 subst hei;have hf:=hst.fin hl1 hl2;clear hb;refine aB fun K hK=>Rg ?_;iterate 3 refine S0 ?_
 refine aD 55 rfl (fun h12_55=>?_) (fun h12_55=>?_)
 ·
  have F:=h12_55;iterate 4 refine SF ?_
  refine T2 (hK _ _ _ ?_);clear hK K;refine aE (RT Tryz.results14 ?_);exact aH [] (.bool _) rfl (by rw[hf,h12_55,Bool.true_and])
 have F:=h12_55;iterate 4 refine SF ?_
 refine T2 (hK _ _ _ ?_);clear hK K;refine aE (RT Tryz.results14 ?_);exact aH [] (.bool false) rfl (by rw[hf,h12_55,Bool.false_and])
def iC (n:Nat):CV:= .int .i64 n
theorem aC6 (l:List Nat):CV.denilL (l.map iC)=l.map iC:=cT (fun _=>rfl) l
theorem bV7 (l:List Nd)(ht:IsTree l)(i:Nat)(hi:i<l.length):cF Tryz.prog 44 [.slc (l.map Nd.cv),.int .i64 i] (fun v=>v= .int .i64 (aft l i:Nat)):=by
 have hl:=ht.len;refine FW Tryz.func44 ?_;refine R0 ?_;refine aB fun K hK=>?_;refine R0 ?_;refine aN ?_;refine bR (α:={y:Nat×Nat//AftSt l i y.1 y.2∧y.1≤1+60*y.2}) (fun y=>(fin [(0,.c (.slc (l.map Nd.cv))),(1,.c (.int .i64 y.1.2)),(5,.c (.int .i64 y.1.1))],fob [])) 100 (fun y=>l.length-y.1.2) ⟨(1,i),⟨Nat.le_of_lt hi,rfl⟩,by omega⟩ (fF) ?_;rintro⟨⟨m,p⟩,hst,hm⟩;simp only at hst hm;have hp:=hst.1;refine aB fun K hK=>?_;refine R0 ?_;refine aG (b:=decide ((0:Int)<(m:Int))) rfl (fun hb=>?_) (fun hb=>?_)
 ·
  have hm1:0<m:=by simpa using hb
  have hpl:=hst.lt ht hi hm1;obtain⟨c1,c2,_,_⟩:=eI (ht.node _ (List.getElem_mem hpl));obtain⟨m',rfl⟩: ∃m',m=m'+1:=⟨m-1,by omega⟩;have hnx:=hst.next hpl;have hw1:IntKind.i64.wrap (((m'+1:Nat):Int)+(l[p].c-1))=((m'+l[p].c.toNat:Nat):Int):=by rw[cQ _ (by omega)];omega
  have hw2:IntKind.i64.wrap ((p:Int)+1)=((p+1:Nat):Int):=by rw[cQ _ (by omega)];rfl
  clear hb;refine aJ ?_;refine T0 (hK _ _ _ ?_);clear hK K;refine aB fun K hK=>?_;refine aN ?_;refine Rg ?_;iterate 9 refine S0 ?_ (e:=fun _ h_=>by simp only[sH,↓sP,sA,tyS,simprocAttr,Int.natCast_nonneg,Int.ofNat_lt,hpl,bS hpl,cQ (l[p].c-1) (by omega),hw1];exact AX h_)
  refine T2 (hK _ _ _ ?_);clear hK K;refine aK (by kernel_rfl) ?_;refine TQ hw2 ?_;refine⟨⟨(m'+l[p].c.toNat,p+1),hnx,by simp only;omega⟩,fF,?_⟩;show l.length-(p+1)<l.length-p;omega
 refine bJ (T3 ?_);clear hK K;refine AX (hK _ _ _ ?_);clear hK K;refine R0 ?_;refine aE (RT Tryz.results44 ?_);have hm0:m=0:=by simpa using hb
 subst hm0;exact aH [] (.int .i64 p) rfl (by rw[hst.fin])
theorem aR4 (l:List Nd)(hn: ∀n∈l,n.q.t.length<2^63)(i:Int):cF Tryz.prog 16 [.slc (l.map Nd.cv),.int .i64 i] (fun v=>v= .slc ((tJ l i).map iC)):=by
 refine FW Tryz.func16 ?_;refine R0 ?_;refine aB fun K hK=>?_;refine aB fun K hK=>Rg ?_;refine S0 ?_;refine HS rfl rfl fun K' hK'=>T5 ?_;refine C1 (vQ l hn) ?_;rintro u rfl;refine AX (hK' _ _ ?_);clear hK' K';iterate 2 refine S0 ?_
 refine aD 8 rfl (fun h1_8=>?_) (fun h1_8=>?_)
 ·
  have F:=h1_8;iterate 4 refine SF ?_
  refine aD 12 rfl (fun h1_12=>?_) (fun h1_12=>?_)
  ·
   have F:=aI h1_8 h1_12;iterate 5 refine SF ?_
   refine T2 (hK _ _ _ ?_);clear hK K;refine CT rfl ?_;refine R0 ?_;refine aE (RT Tryz.results16 ?_);exact aH [] (.slc []) rfl (by rw[qG (.inr (.inl (by simpa using h1_12)))];rfl)
  have F:=aI h1_8 h1_12;iterate 5 refine SF ?_
  refine aD 18 rfl (fun h1_18=>?_) (fun h1_18=>?_)
  · simp only[h1_18];refine T2 (hK _ _ _ ?_);clear hK K;refine CT rfl ?_;refine R0 ?_;refine aE (RT Tryz.results16 ?_);exact aH [] (.slc []) rfl (by rw[qG (.inr (.inr (by simpa using h1_18)))];rfl)
  simp only[h1_18];refine T2 (hK _ _ _ ?_);clear hK K;refine CF rfl ?_;refine aJ ?_;refine T0 (hK _ _ _ ?_);clear hK K;obtain⟨j,rfl⟩: ∃j:Nat,i=j:=⟨i.toNat,by simp at h1_12;omega⟩;have hj:j<l.length:=by simp at h1_18;omega
  have ht:=lJ h1_8;have hcv:=bK7 h1_8 hj;have hl:=ht.len;obtain⟨c1,c2,_,_⟩:=eI (ht.node _ (List.getElem_mem hj));have hw2:IntKind.i64.wrap ((j:Int)+1)=((j+1:Nat):Int):=by rw[cQ _ (by omega)];rfl
  clear h1_8 h1_12 h1_18;refine R0 ?_;refine aB fun K hK=>?_;have F:=hw2;refine RF ?_;refine aN ?_;refine jX 5 0 3 1 rfl rfl rfl rfl ?_;refine bR (α:={k:Nat//k≤l[j].c.toNat}) (fun k=>(fin [(0,.c (.slc (l.map Nd.cv))),(1,.c (.int .i64 j)),(5,.own 72 k.1),(6,.c (.int .i64 (eO l k.1 (j+1):Nat)))],fob [(72,.row 3 1 ((kP l k.1 (j+1)).map iC))])) 200 (fun k=>l[j].c.toNat-k.1) ⟨0,by omega⟩ (aM (by omega) (by simp[aZ,fin_at,finA_at,upd_at,HV.men,HV.menL,HV.norm,HV.toC,HV.toCL,kP,eO]) (by simp[bA,fob_at,upd_at,none0_at,bX,HO.men,HV.men,HV.menL,HV.norm,HV.toC,HV.toCL,kP,eO])) ?_;rintro⟨k,hk⟩;have hkl:=aB0 l k (j+1);refine aB fun K hK=>?_;refine aB fun K hK=>Rg ?_;have F:=aI @Int.natCast_nonneg (aI @Int.ofNat_lt (aI hj (aI (nM hj) hkl)));iterate 8 refine SF ?_
  refine T2 (hK _ _ _ ?_);clear hK K;refine aG (b:=decide ((k:Int)<l[j].c)) rfl (fun hb=>?_) (fun hb=>?_)
  ·
   have hkc:k<l[j].c.toNat:=by simp only[decide_eq_true_eq]at hb;omega
   have hkp:=nU ht hj hkc;have e:(kP l (k+1) (j+1)).map iC=(kP l k (j+1)).map iC++[CV.int .i64 (eO l k (j+1):Nat)]:=by rw[xJ,List.map_append];rfl
   refine aJ ?_;refine T0 (hK _ _ _ ?_);clear hK K;refine aB fun K hK=>?_;refine aN ?_;refine Rg ?_;have F:=hkl;iterate 5 refine SF ?_
   refine T2 (hK _ _ _ ?_);clear hK K;refine Rg ?_;iterate 2 refine S0 ?_
   refine HS rfl rfl fun K' hK'=>T5 ?_;refine C2 (bV7 l ht _ hkp) ?_;rintro u rfl;refine AX (hK' _ _ ?_);clear hK' K';refine S0 ?_;refine T4 ?_;refine⟨⟨k+1,hkc⟩,aM (by omega) (by simp[aZ,fin_at,finA_at,upd_at,HV.men,HV.menL,HV.norm,HV.toC,HV.toCL,e,hkl,gT]) (by simp[bA,fob_at,upd_at,none0_at,bX,HO.men,HV.men,HV.menL,HV.norm,HV.toC,HV.toCL,e,hkl,gT]),?_⟩;show l[j].c.toNat-(k+1)<l[j].c.toNat-k;omega
  refine bJ (T3 ?_);clear hK K;refine AX (hK _ _ _ ?_);clear hK K;refine R0 ?_;refine aE (RT Tryz.results16 ?_);have hkc:k=l[j].c.toNat:=by simp only[decide_eq_false_iff_not]at hb;omega
  subst hkc;exact aH [72] (.slc ((kP l l[j].c.toNat (j+1)).map iC)) (by simp[HV.close,fob_at,hkl,HV.norm,HV.toC,aC6,CV.denil]) (by rw[hcv])
 have F:=h1_8;iterate 9 refine SF ?_
 refine T2 (hK _ _ _ ?_);clear hK K;refine CT rfl ?_;refine R0 ?_;refine aE (RT Tryz.results16 ?_);exact aH [] (.slc []) rfl (by rw[qG (.inl h1_8)];rfl)
theorem aC7 (l:List Nd)(hn: ∀n∈l,n.q.t.length<2^63):cF Tryz.prog 18 [.slc (l.map Nd.cv)] (fun v=>v= .slc ((jK l).map iC)):=by
 refine FW Tryz.func18 ?_;refine R0 ?_;refine aB fun K hK=>?_;refine aB fun K hK=>Rg ?_;refine S0 ?_;refine HS rfl rfl fun K' hK'=>T5 ?_;refine C1 (vQ l hn) ?_;rintro u rfl;refine AX (hK' _ _ ?_);clear hK' K';refine S0 ?_;refine T2 (hK _ _ _ ?_);clear hK K;refine aG (b:=!dS l) rfl (fun hb=>?_) (fun hb=>?_)
 · refine R0 ?_;refine aE (RT Tryz.results18 ?_);exact aH [] (.slc []) rfl (by rw[uS (by simpa using hb)];rfl)
 have h8:dS l=true:=by simpa using hb
 have ht:=lJ h8;have hlv:=qH h8;have hl:=ht.len;clear hb;refine aJ ?_;refine T0 (hK _ _ _ ?_);clear hK K;refine R0 ?_;refine aB fun K hK=>?_;refine R0 ?_;refine aN ?_;refine jX 3 0 3 1 rfl rfl rfl rfl ?_;refine bR (α:={i:Nat//i≤l.length}) (fun i=>(fin [(3,.own 32 (gY 0 (l.take i.1)).length),(9,.c (.slc (l.map Nd.cv))),(10,.c (.int .i64 l.length)),(11,.c (.int .i64 i.1))],fob [(32,.row 3 1 ((gY 0 (l.take i.1)).map iC))])) 200 (fun i=>l.length-i.1) ⟨0,by omega⟩ (aM (by omega) (by simp[aZ,fin_at,finA_at,upd_at,HV.men,HV.menL,HV.norm,HV.toC,HV.toCL,gY]) (by simp[bA,fob_at,upd_at,none0_at,bX,HO.men,HV.men,HV.menL,HV.norm,HV.toC,HV.toCL,gY])) ?_;rintro⟨i,hi⟩;have hfl:(gY 0 (l.take i)).length≤i:=by rw[lL];have:=cG5 (l.take i);simp at this;omega
 refine R0 ?_;refine aB fun K hK=>?_;refine aG (b:=decide ((i:Int)<l.length)) rfl (fun hb=>?_) (fun hb=>?_)
 ·
  have hlt:i<l.length:=by simpa using hb
  have e:=aW8 hlt;clear hb;refine aJ ?_;refine T0 (hK _ _ _ ?_);clear hK K;refine aB fun K hK=>?_;refine aN ?_;refine aB fun K hK=>Rg ?_;have F:=aI @Int.natCast_nonneg (aI @Int.ofNat_lt (aI hlt (nM hlt)));iterate 6 refine SF ?_
  refine T2 (hK _ _ _ ?_);clear hK K;refine R0 ?_;refine aG (b:=_) rfl (fun hb=>?_) (fun hb=>?_)
  ·
   rw[if_pos (by simpa using hb)]at e;refine Rg ?_;iterate 5 refine S0 ?_
   refine T2 (hK _ _ _ ?_);clear hK K;refine aK (by kernel_rfl) ?_;simp only[↓sP,sA,tyS,simprocAttr,cQ ((i:Int)+1) (by omega)];refine⟨⟨i+1,hlt⟩,aM (by omega) (by simp[aZ,fin_at,finA_at,upd_at,HV.men,HV.menL,HV.norm,HV.toC,HV.toCL,e,iC]) (by simp[bA,fob_at,upd_at,none0_at,bX,HO.men,HV.men,HV.menL,HV.norm,HV.toC,HV.toCL,e,iC]),?_⟩;show l.length-(i+1)<l.length-i;omega
  rw[if_neg (by simpa using hb)]at e;refine aJ ?_;refine T0 (hK _ _ _ ?_);clear hK K;refine aK (by kernel_rfl) ?_;simp only[↓sP,sA,tyS,simprocAttr,cQ ((i:Int)+1) (by omega)];refine⟨⟨i+1,hlt⟩,aM (by omega) (by simp[aZ,fin_at,finA_at,upd_at,HV.men,HV.menL,HV.norm,HV.toC,HV.toCL,e]) (by simp[bA,fob_at,upd_at,none0_at,bX,HO.men,HV.men,HV.menL,HV.norm,HV.toC,HV.toCL,e]),?_⟩;show l.length-(i+1)<l.length-i;omega
 refine bJ (T3 ?_);clear hK K;refine AX (hK _ _ _ ?_);clear hK K;refine R0 ?_;refine aE (RT Tryz.results18 ?_);have hei:i=l.length:=by simp only[decide_eq_false_iff_not]at hb;omega
 subst hei;rw[List.take_length];exact aH [32] (.slc ((gY 0 l).map iC)) (by simp[HV.close,fob_at,HV.norm,HV.toC,aC6,CV.denil]) (by rw[hlv])
def bC (b:Bool):CV:= .bool b
theorem uT {α:Type}{f:α→CV}{Q:α→Prop}: ∀(l:List CV),(∀x∈l,∃y,x=f y∧Q y)→ ∃m:List α,l=m.map f∧ ∀y∈m,Q y
 |[],_=>⟨[],rfl,by simp⟩
 |x::l,h=>by
  obtain⟨y,rfl,hy⟩:=h x (by simp);obtain⟨m,rfl,hm⟩:=uT l (fun x hx=>h x (by simp[hx]));exact⟨y::m,rfl,fun z hz=>by rcases List.mem_cons.1 hz with rfl|hz;exact hy;exact hm z hz⟩
theorem own :ownKnob Tryz.prog.godebug=none:=by kernel_rfl
theorem kids :Kids Tryz.prog (· <Tryz.prog.types.size):=kids_rows (by kernel_rfl) (by kernel_rfl)
theorem aX9 : ∀t e,t<Tryz.prog.types.size→Tryz.prog.underlying t=some (.slice e)→0<Tryz.prog.cellsOf e:=slices_full_of Tryz.prog (by kernel_rfl)
end Go.Proofs.YtlldglbooaefhaaGreatDoor
namespace Go.Pl
open Go Go.Hl
def isV (ls:List (List aF))(a:Nat)(w:aF)(k:Nat):Bool:=decide (a<ls.length)&&((ls.getD a []).length==k&&wd (ls.getD a []) 0==w)
variable {a:Nat}{ls:List (List aF)}
theorem aH5 (h: ¬a<ls.length)(w:aF)(k:Nat):isV ls a w k=false:=by simp[isV,h]
theorem iZ (h:a<ls.length)(w:aF)(k:Nat):isV ls a w k=(ls[a].length==k&&wd ls[a] 0==w):=by simp[isV,h]
variable {k:Nat}
theorem gN {w:aF}(h:isV ls a w k=true): ∃hl:a<ls.length,ls[a].length=k∧wd ls[a] 0=w:=by
 by_cases hl:a<ls.length;all_goals simp_all[iZ,Bool.and_eq_true,beq_iff_eq,aH5]
def gM (ls:List (List aF))(a:Nat)(w:aF):Option Int:=if isV ls a w 2 then bK (wd (ls.getD a []) 1)else none
def mV (ls:List (List aF))(a:Nat)(w:aF):Option (Int×Int):=if isV ls a w 3 then match bK (wd (ls.getD a []) 1),bK (wd (ls.getD a []) 2)with|some n,some m=>some (n,m)|_,_=>none else none
theorem aH6 {w:aF}(h:isV ls a w 2=true)(hl:a<ls.length):gM ls a w=bK (wd ls[a] 1):=by simp[gM,h,hl]
theorem cD6 {w:aF}(h:isV ls a w 2=false):gM ls a w=none:=by simp[gM,h]
theorem cD7 {w:aF}(h:isV ls a w 3=false):mV ls a w=none:=by simp[mV,h]
theorem bD8 {w:aF}(h:isV ls a w 3=true)(hl:a<ls.length):mV ls a w=match bK (wd ls[a] 1),bK (wd ls[a] 2)with|some n,some m=>some (n,m)|_,_=>none:=by simp[mV,h,hl]
theorem jR {w:aF}{n:Int}(h:gM ls a w=some n): ∃hl:a<ls.length,ls[a].length=2∧wd ls[a] 0=w∧bK (wd ls[a] 1)=some n:=by grind[gM,gN]
theorem bK8 {w:aF}{n m:Int}(h:mV ls a w=some (n,m)): ∃hl:a<ls.length,ls[a].length=3∧wd ls[a] 0=w∧bK (wd ls[a] 1)=some n∧bK (wd ls[a] 2)=some m:=by
 unfold mV at h;grind[gN]
variable {w:List aF}
theorem yU (h:w.length=2)(h0:wd w 0=bL):dD w=(bK (wd w 1)).map (⟨1,·,0,[]⟩):=by simp[dD,h,h0]
theorem aH7 (h:w.length=2)(h0:wd w 0=bH):dD w=some ⟨2,0,0,wd w 1⟩:=by grind[dD,bH,bL]
theorem yV (h:w.length=2)(h0:wd w 0=bO):dD w=(bK (wd w 1)).map (⟨3,·,0,[]⟩):=by grind[dD,bO,bL,bH]
theorem aH8 (h:w.length=3)(h0:wd w 0=bT):dD w=match bK (wd w 1),bK (wd w 2)with|some n,some m=>some ⟨4,n,m,[]⟩|_,_=>none:=by
 simp only[dD,h,h0];grind
theorem aR5 (h:w.length=2)(h0:wd w 0=cB):dD w=(bK (wd w 1)).map (⟨5,·,0,[]⟩):=by grind[dD,cB,bL,bH,bO]
theorem aY0 (h:w.length=2)(h0:wd w 0=cO):dD w=(bK (wd w 1)).map (⟨6,·,0,[]⟩):=by grind[dD,cO,bL,bH,bO,cB]
theorem aY1 (h:w.length=2)(h0:wd w 0=cR):dD w=(bK (wd w 1)).map (⟨7,·,0,[]⟩):=by grind[dD,cR,bL,bH,bO,cB,cO]
theorem aH9 (h:w.length=1)(h0:wd w 0=bY):dD w=some ⟨8,0,0,[]⟩:=by simp[dD,h,h0]
def kH (ls:List (List aF))(a:Nat):Option Rq:=if h:a<ls.length then dD ls[a]else none
theorem gO (h:a<ls.length):kH ls a=dD ls[a]:=by simp[kH,h]
theorem bK9 (h1:gM ls a bL=none)(h2:isV ls a bH 2=false)(h3:gM ls a bO=none)(h4:mV ls a bT=none)(h5:gM ls a cB=none)(h6:gM ls a cO=none)
  (h7:gM ls a cR=none) (h8:isV ls a bY 1=false):kH ls a=none:=by
 unfold kH;split
 ·
  rename_i hl;have n1: ∀w,gM ls a w=none→ls[a].length=2∧wd ls[a] 0=w→bK (wd ls[a] 1)=none:=fun w h hc=>by grind[isV,iZ,aH6]
  unfold dD;split
  · grind
  ·
   split
   · grind[iZ]
   ·
    split
    · grind
    ·
     split
     ·
      rename_i hc;have:isV ls a bT 3=true:=by rw[iZ hl];simp[hc]
      grind[bD8,absurd]
     ·
      split
      · grind
      grind[iZ]
 · rfl
def kE (ls:List (List aF))(a:Nat):Option Nd:=if h:a<ls.length then dW ls[a]else none
theorem bV8 (h:isV ls a eS 1=true):kE ls a=some ⟨2,0,0,rq0⟩:=by grind[gN,kE,dW]
theorem bV9 (h:isV ls a eT 1=true):kE ls a=some ⟨3,0,0,rq0⟩:=by grind[gN,kE,dW,eT,eS]
theorem cD8 {n:Int}(h:gM ls a bQ=some n):kE ls a=some ⟨4,n,0,rq0⟩:=by grind[jR,kE,dW]
theorem bL0 (h1:isV ls a eS 1=false)(h2:isV ls a eT 1=false)(h3:gM ls a bQ=none):kE ls a=none:=by
 unfold kE;split
 ·
  rename_i hl;unfold dW;split
  · grind[iZ]
  grind[iZ,isV,bQ,aH6]
 · rfl
abbrev Kds :=Option (List Nd×Int)×List (List aF)
def qI (ts:List Nd)(k:Int)(x:Kds):Kds:=(x.1.map fun p=>(ts++p.1,k+p.2),x.2)
def yW (n:Nd)(x:Kds):Option (List Nd)×List (List aF):=(x.1.map fun p=>{n with c:=p.2}::p.1,x.2)
theorem bW0 (ts us:List Nd)(k j:Int)(x:Kds):qI ts k (qI us j x)=qI (ts++us) (k+j) x:=by
 obtain⟨o,r⟩:=x;cases o<;>simp[qI,List.append_assoc,Int.add_assoc]
theorem bW1 (x:Kds):qI [] 0 x=x:=by simp_all[qI]
variable {q:Rq}{r:List (List aF)}{f:Nat}
theorem oB {w:List aF}(h:dD w=some q):rdN (f+1) (w::r)=(some [⟨1,0,0,q⟩],r):=by simp only[rdN,h]
theorem oC {w:List aF}(h:dD w=none)(h2:dW w=none):rdN (f+1) (w::r)=(none,w::r):=by simp only[rdN,h,h2]
variable {n:Nd}
theorem pA {w:List aF}(h:dD w=none)(h2:dW w=some n):rdN (f+1) (w::r)=yW n (rdK f r):=by
 simp only[rdN,h,h2]
 match rdK f r with
 |(none,r')=>rfl
 |(some (ts,c),r')=>rfl
theorem aI0 {l:List (List aF)}(h:eH (l.headD [])=true):rdK (f+1) l=(some ([],0),l.tail):=by simp only[rdK,h,if_true]
theorem aY2 {l:List (List aF)}(h:eH (l.headD [])=false)(h2:rdN f l=(none,r)):rdK (f+1) l=(none,r):=by simp_all[rdK,Bool.false_eq_true,if_false]
variable {t:List Nd}
theorem yA {l:List (List aF)}(h:eH (l.headD [])=false)(h2:rdN f l=(some t,r)):rdK (f+1) l=qI t 1 (rdK f r):=by
 simp only[rdK,h,h2,Bool.false_eq_true,if_false];grind[rdK,qI,Int.add_comm]
theorem aI1 : ∀f,(∀l,∃j,(rdN f l).2=l.drop j∧ ∀t,(rdN f l).1=some t→t.length+(rdN f l).2.length≤l.length)∧(∀l,∃j,(rdK f l).2=l.drop j∧ ∀p,(rdK f l).1=some p→p.1.length+(rdK f l).2.length≤l.length)
 |0=>⟨fun l=>⟨0,by simp[rdN],fun t h=>by simp[rdN]at h⟩,fun l=>⟨0,by simp[rdK],fun t h=>by simp[rdK]at h⟩⟩
 |f+1=>by
  obtain⟨ihN,ihK⟩:=aI1 f;refine⟨fun l=>?_,fun l=>?_⟩
  ·
   match l with
   |[]=>simp_all[rdN]
   |w::r=>
    cases h1:dD w with
    |some q=>rw[oB h1];exact⟨1,rfl,fun t h=>by grind⟩
    |none=>
     cases h2:dW w with
     |none=>rw[oC h1 h2];exact⟨0,rfl,fun t h=>by cases h⟩
     |some n=>
      rw[pA h1 h2];obtain⟨j,hj,hl⟩:=ihK r;refine⟨j+1,hj,fun t h=>?_⟩;cases hk:(rdK f r).1 with
      |none=>simp[yW,hk]at h
      |some p=>
       grind[yW,rdK]
  ·
   cases he:eH (l.headD [])with
   |true=>
    rw[aI0 he];exact⟨1,by simp,fun p h=>by grind⟩
   |false=>
    obtain⟨j,hj,hl⟩:=ihN l
    match h2:rdN f l with
    |(none,r)=>
     rw[aY2 he h2];grind
    |(some t,r)=>
     rw[yA he h2];rw[h2]at hj hl;obtain⟨i,hi,hl2⟩:=ihK r;have hj':r=l.drop j:=hj;have hl':=hl t rfl;simp only at hl';refine⟨j+i,?_,fun p h=>?_⟩
     · show(rdK f r).2=_;simp_all
     ·
      cases hk:(rdK f r).1 with
      |none=>simp[qI,hk]at h
      |some q=>
       grind[qI,rdK]
theorem bD9 (f:Nat)(l:List (List aF)): ∃j,j≤l.length∧(rdN f l).2=l.drop j:=by
 obtain⟨j,hj,_⟩:=(aI1 f).1 l;rcases Nat.lt_or_ge l.length j with h|h
 · exact⟨l.length,Nat.le_refl _,by rw[hj,List.drop_eq_nil_of_le (by omega),List.drop_eq_nil_of_le (Nat.le_refl _)]⟩
 grind
theorem tP (ha:a≤ls.length):eH ((ls.drop a).headD [])=isV ls a wEnd 1:=by
 rcases Nat.lt_or_ge a ls.length with h|h
 · rw[iZ h,List.drop_eq_getElem_cons h];rfl
 · rw[aH5 (by omega),List.drop_eq_nil_of_le h];rfl
structure KdSt (f:Nat)(ls:List (List aF))(a:Nat)(nd:Nd)(g:Nat)(ts:List Nd)(k p:Nat):Prop where
 eq:rdN f (ls.drop a)=yW nd (qI ts k (rdK g (ls.drop p)))
 le:p≤ls.length
 fuel:2*(ls.length-p)+2≤g
 lt:g<f
 len:ts.length+(ls.length-p)+1≤ls.length-a
 kids:k≤ts.length
variable {nd:Nd}
theorem KdSt.init (ha:a<ls.length)(hf:2*(ls.length-a)+1≤f)(h1:dD ls[a]=none)(h2:dW ls[a]=some nd):KdSt f ls a nd (f-1) [] 0 (a+1):=by
 obtain⟨g,rfl⟩: ∃g,f=g+1:=⟨f-1,by omega⟩;refine⟨?_,by omega,?_,by omega,by grind,by simp⟩;all_goals grind[List.drop_eq_getElem_cons,pA,yW,qI,bW1,Nat.add_sub_cancel]
variable {p g:Nat}{ts:List Nd}
theorem KdSt.end_ {nd:Nd}{k:Nat}(h:KdSt f ls a nd g ts k p)(he:isV ls p wEnd 1=true):p<ls.length∧rdN f (ls.drop a)=(some ({nd with c:=(k:Int)}::ts),ls.drop (p+1)):=by
 obtain⟨hp,_,_⟩:=gN he;obtain⟨q,rfl⟩: ∃q,g=q+1:=⟨g-1,by have:=h.fuel;omega⟩;refine⟨hp,?_⟩;rw[h.eq,aI0 (by rw[tP h.le,he])];simp[qI,yW]
theorem KdSt.no (h:KdSt f ls a nd g ts k p)(he:isV ls p wEnd 1=false)(hn:(rdN (g-1) (ls.drop p)).1=none):rdN f (ls.drop a)=(none,(rdN (g-1) (ls.drop p)).2):=by
 obtain⟨q,rfl⟩: ∃q,g=q+1:=⟨g-1,by have:=h.fuel;omega⟩;simp only[Nat.add_sub_cancel]at hn⊢;rw[h.eq,aY2 (by rw[tP h.le,he]) (r:=(rdN q (ls.drop p)).2) (Prod.ext hn rfl)];rfl
theorem KdSt.some_ (h:KdSt f ls a nd g ts k p)(he:isV ls p wEnd 1=false)(hs:(rdN (g-1) (ls.drop p)).1=some t):
  KdSt f ls a nd (g-1) (ts++t) (k+1) (ls.length-(rdN (g-1) (ls.drop p)).2.length):=by
 obtain⟨q,rfl⟩: ∃q,g=q+1:=⟨g-1,by have:=h.fuel;omega⟩;simp only[Nat.add_sub_cancel]at hs⊢;obtain⟨j,hj,hr⟩:=bD9 q (ls.drop p);have hlt:(rdN q (ls.drop p)).snd.length<(ls.drop p).length:=(aH0 q).1 (ls.drop p) t (rdN q (ls.drop p)).snd (Prod.ext hs rfl);obtain⟨_,_,hlen⟩:=(aI1 q).1 (ls.drop p);have hlen':=hlen t hs;have hle:=h.le;rw[hr]at hlt hlen';simp only[List.length_drop]at hj hlt hlen';have hpos:ls.length-(rdN q (ls.drop p)).2.length=p+j:=by rw[hr];simp only[List.length_drop];omega
 have hfu:=h.fuel;have hfl:=h.lt;have hll:=h.len;have hkk:=h.kids;have ht0:1≤t.length∨t=[]:=by cases t<;>simp
 rw[hpos];refine⟨?_,by omega,by omega,by omega,by grind,?_⟩
 · rw[h.eq,yA (by rw[tP h.le,he]) (r:=(rdN q (ls.drop p)).2) (Prod.ext hs rfl),bW0,hr,List.drop_drop];rfl
 ·
  simp only[List.length_append];rcases ht0 with h0|h0
  · omega
  ·
   exfalso;subst h0
   revert hs
   match q,ls.drop p with
   |0,l=>intro hs;cases hs
   |q+1,[]=>intro hs;cases hs
   |q+1,w::r=>
    intro hs;cases h1:dD w with
    |some x=>rw[oB h1]at hs;cases hs
    |none=>
     cases h2:dW w with
     |none=>rw[oC h1 h2]at hs;cases hs
     |some x=>
      rw[pA h1 h2]at hs;cases hk:(rdK q r).1 with
      |none=>simp[yW,hk]at hs
      |some y=>simp[yW,hk]at hs
theorem cJ9 (ha:a≤ls.length)(h:isV ls a wRule 5=false):rdR (ls.drop a)=(none,ls.drop a):=by
 rcases Nat.lt_or_ge a ls.length with hl|hl
 · rw[iZ hl]at h;rw[List.drop_eq_getElem_cons hl];simp_all[rdR,if_neg]
 · rw[List.drop_eq_nil_of_le hl];rfl
theorem cD9 (hl:a<ls.length)(h1:ls[a].length=5)(h2:wd ls[a] 0=wRule)(hn:bK (wd ls[a] 4)=none):rdR (ls.drop a)=(none,ls.drop a):=by
 rw[List.drop_eq_getElem_cons hl];simp_all[rdR,if_pos]
theorem bW2 (hl:a<ls.length)(h1:ls[a].length=5)(h2:wd ls[a] 0=wRule){g:Int}(hn:bK (wd ls[a] 4)=some g):
  rdR (ls.drop a)=((rdT (ls.drop (a+1))).1.map fun t=>⟨wd ls[a] 1,wd ls[a] 2,wd ls[a] 3,g,t⟩,(rdT (ls.drop (a+1))).2):=by
 rw[List.drop_eq_getElem_cons hl];simp only[rdR];grind
theorem aI2 (ls:List (List aF)): ∃j,j≤ls.length∧(rdR ls).2=ls.drop j∧ ∀p,(rdR ls).1=some p→1≤j:=by
 match ls with
 |[]=>exact⟨0,by simp,rfl,fun p h=>by cases h⟩
 |w::r=>
  simp only[rdR];split
  ·
   cases bK (wd w 4)with
   |none=>exact⟨0,by simp,rfl,fun p h=>by cases h⟩
   |some g=>
    obtain⟨j,hj,h2⟩:=bD9 (2*r.length+2) r;simp only[rdT]
    match hm:rdN (2*r.length+2) r with
    |(none,r')=>rw[hm]at h2;exact⟨j+1,by grind,h2,fun p h=>by cases h⟩
    |(some t,r')=>rw[hm]at h2;exact⟨j+1,by grind,h2,fun p h=>by omega⟩
  · exact⟨0,by simp,rfl,fun p h=>by cases h⟩
abbrev Rls :=Option (List Pr)×List (List aF)
structure RsSt (ls:List (List aF))(X:Rls)(acc:List Pr)(p:Nat):Prop where
 eq:X=jL (ls.length-p+1) (ls.drop p) acc
 le:p≤ls.length
 len:acc.length≤p
theorem aC8 : ∀(f g:Nat) (ls:List (List aF)) (acc:List Pr),ls.length<f→f≤g→jL g ls acc=jL f ls acc
 |0,_,_,_,h,_=>by omega
 |f+1,g,ls,acc,h,hg=>by
  obtain⟨q,rfl⟩: ∃q,g=q+1:=⟨g-1,by omega⟩;simp only[jL];split
  · rfl
  ·
   obtain⟨j,hj,h2,h3⟩:=aI2 ls
   match hm:rdR ls with
   |(none,r)=>rfl
   |(some x,r)=>
    rw[hm]at h2 h3;have h4:=h3 x rfl;simp only at h2;exact aC8 f q r _ (by rw[h2,List.length_drop];omega) (by omega)
variable {acc:List Pr}{X:Rls}
theorem RsSt.done (h:RsSt ls X acc p)(hp: ¬p<ls.length):p=ls.length∧X=(some acc,[]):=by
 have h1:=h.le;refine⟨by omega,?_⟩;rw[h.eq,List.drop_eq_nil_of_le (by omega),jL,if_pos rfl]
theorem RsSt.no (h:RsSt ls X acc p)(hp:p<ls.length)(hn:(rdR (ls.drop p)).1=none):X=(none,(rdR (ls.drop p)).2):=by
 rw[h.eq,jL,if_neg (by simp_all)];grind
theorem RsSt.some_ (h:RsSt ls X acc p)(hp:p<ls.length){x:Pr}(hs:(rdR (ls.drop p)).1=some x):
  RsSt ls X (acc++[x]) (ls.length-(rdR (ls.drop p)).2.length)∧p<ls.length-(rdR (ls.drop p)).2.length:=by
 obtain⟨j,hj,h2,h3⟩:=aI2 (ls.drop p);have h4:=h3 x hs;rw[List.length_drop]at hj;have hlen:=h.len;have hpos:ls.length-(rdR (ls.drop p)).2.length=p+j:=by rw[h2];simp only[List.length_drop];omega
 rw[hpos];refine⟨⟨?_,by omega,by grind⟩,by omega⟩;rw[h.eq,jL,if_neg (by grind)];grind[rdR,List.drop_drop,aC8,List.length_drop]
theorem cK0 (h:isV ls 0 wPolicy 3=false):rdP ls=(none,ls):=by
 match ls with
 |[]=>rfl
 |w::r=>
  simp_all[iZ,rdP,if_neg]
theorem cE0 (hl:0<ls.length)(h1:ls[0].length=3)(h2:wd ls[0] 0=wPolicy)(hn:bK (wd ls[0] 2)=none):rdP ls=(none,ls):=by
 match ls,hl with
 |w::r,_=>
  simp_all[List.getElem_cons_zero,rdP,if_pos]
theorem bW3 (hl:0<ls.length)(h1:ls[0].length=3)(h2:wd ls[0] 0=wPolicy){v:Int}(hn:bK (wd ls[0] 2)=some v):
  ∃X:Rls,rdP ls=(X.1.map fun l=>⟨wd ls[0] 1,v,l⟩,X.2)∧RsSt ls X [] 1:=by
 match ls,hl with
 |w::r,_=>
  simp only[List.getElem_cons_zero]at h1 h2 hn⊢;refine⟨jL (r.length+1) r [],?_,⟨by simp,by simp,by simp⟩⟩;simp only[rdP];grind
theorem cE1 (h:cH n=true)(h1:n.k≠1)(h2:n.k≠2)(h3:n.k≠3):n.k=4:=by simp_all[cH,if_neg]
theorem bW4 (h:eV q=true):(0≤q.n∧q.n≤1099511627776)∧(0≤q.m∧q.m≤1099511627776):=by
 unfold eV inB at h
 repeat' split at h
 all_goals first
  |cases h;done
  |(simp only[Bool.and_eq_true,decide_eq_true_eq,beq_iff_eq]at h;(try rw[iS]at h);omega)
theorem cE2 (h:cH n=true)(h1:n.k=1):eV n.q=true:=by simp_all[cH,if_pos,Bool.and_eq_true]
theorem cE3 (h:cH n=true)(h1:n.k=4):1≤n.n∧n.n≤60:=by
 unfold cH inB at h;grind
variable {i:Nat}{l:List Nd}
theorem aR6 (ht:IsTree l)(hi:i<l.length)(hk:l[i].k=1):aft l i=i+1:=by
 obtain⟨_,_,c3,_⟩:=eI (ht.node _ (List.getElem_mem hi));refine aW7 hi ?_;rw[List.drop_eq_getElem_cons hi];simp_all[skip,dF]
theorem yB (ht:IsTree l)(hi:i<l.length):eO l l[i].c.toNat (i+1)=aft l i:=by
 obtain⟨h1,h2,h3⟩:=iK ht hi l[i].c.toNat (Nat.le_refl _);simp_all[lB,Nat.sub_self,dF,congrArg,List.length,Option.some.inj,List.length_drop]
theorem tQ {l:List Nd}(ht:IsTree l): ∀(m:Nat) (i:Nat) (hi:i<l.length),l.length-i≤m→(kD l i).length≤2*(aft l i-i)∧ ∀k,k≤l[i].c.toNat→l[i].k≠1→(eP l i k).length≤2*(eO l k (i+1)-(i+1))
 |0,i,hi,hm=>by omega
 |m+1,i,hi,hm=>by
  have hkids: ∀k,k≤l[i].c.toNat→l[i].k≠1→(eP l i k).length≤2*(eO l k (i+1)-(i+1)):=by
   intro k;induction k with
   |zero=>grind[mO]
   |succ k ih=>
    intro hk hn;have h1:=ih (by omega) hn;have hlt:=nU ht hi (k:=k) (by omega);obtain⟨_,_,h3⟩:=iK ht hi k (by omega);have h4:=(tQ ht m (eO l k (i+1)) hlt (by omega)).1;grind[lB,rU,List.length_append,gT]
  refine⟨?_,hkids⟩;by_cases hk:l[i].k=1
  · grind[xO,aR6]
  · have h1:=hkids _ (Nat.le_refl _) hk;obtain⟨_,_,h3⟩:=iK ht hi _ (Nat.le_refl l[i].c.toNat);grind[yB,uP,List.length_cons,List.length_append,List.length_nil]
theorem aR7 (ht:IsTree l)(hi:i<l.length)(hk:k≤l[i].c.toNat)(hn:l[i].k≠1):(eP l i k).length≤2*(eO l k (i+1)-(i+1)):=(tQ ht _ i hi (Nat.le_refl _)).2 k hk hn
theorem bW5 (ht:IsTree l)(hi:i<l.length):(kD l i).length≤2*(aft l i-i):=(tQ ht _ i hi (Nat.le_refl _)).1
theorem aC9 : ∀(l:List Pr) (i:Nat),gU l=true→gU (l.take i)=true
 |[],i,h=>by grind
 |r::l,0,h=>rfl
 |r::l,i+1,h=>by
  simp only[gU,Bool.and_eq_true,Bool.not_eq_true']at h;simp only[List.take_succ_cons,gU,Bool.and_eq_true,Bool.not_eq_true'];refine⟨?_,aC9 l i h.2⟩;grind
def aY3 (l:List Pr)(r:Pr):Bool:=(l.map Pr.a).contains r.a||(!dR r.a||(!(fJ r.b).isSome||(!(fJ r.c).isSome||(!inB r.g 0 vB||!dS r.t))))
structure RlSt (l:List Pr)(i:Nat):Prop where
 le:i≤l.length
 all:(l.take i).all jD=true
 apart:gU (l.take i)=true
theorem RlSt.zero (l:List Pr):RlSt l 0:=⟨by omega,by simp,by simp[gU]⟩
theorem bE0 (l:List Pr)(r:Pr):aY3 l r=!(!(l.map Pr.a).contains r.a&&jD r):=by simp_all[aY3,jD,Pr.a,dR,fJ,inB,vB,dS]
theorem RlSt.succ {l:List Pr}(h:RlSt l i)(hi:i<l.length)(hb:aY3 (l.take i) l[i]=false):RlSt l (i+1):=by
 rw[bE0]at hb;simp only[Bool.not_eq_false',Bool.and_eq_true]at hb;refine⟨hi,?_,?_⟩
 · rw[List.take_succ_eq_append_getElem hi,List.all_append,h.all,List.all_cons,hb.2];rfl
 · rw[List.take_succ_eq_append_getElem hi,nY,h.apart,hb.1];rfl
theorem aI3 {l:List Pr}(hi:i<l.length)(hb:aY3 (l.take i) l[i]=true):(l.all jD&&gU l)=false:=by
 rw[Bool.eq_false_iff];intro h;simp only[Bool.and_eq_true]at h;have h1:=aC9 l (i+1) h.2;rw[List.take_succ_eq_append_getElem hi,nY]at h1;simp_all[Bool.and_eq_true,List.all_eq_true,List.getElem_mem,bE0]
theorem aI4 {p:Po}(h:(p.r.all jD&&gU p.r)=false):eR p=false:=by
 simp only[eR,h,Bool.and_false]
def nmD (l:List Pr):MD:=l.foldl (fun D r=>kF D r.a (.val (.bool true))) []
theorem bW6 (l:List Pr)(r:Pr):nmD (l++[r])=kF (nmD l) r.a (.val (.bool true)):=by simp[nmD,List.foldl_append]
theorem cO8 (D:MD)(k j:aF)(h:k≠j)(m:MV):cW (kF D k m) j=cW D j:=by
 induction D with
 |nil=>simp[kF,cW,h]
 |cons x D ih=>
  grind[kF,cW]
theorem bW7 (s:aF): ∀(l:List Pr) (D:MD),cW (l.foldl (fun D r=>kF D r.a (.val (.bool true))) D) s=if(l.map Pr.a).contains s then some (.val (.bool true))else cW D s
 |[],D=>rfl
 |r::l,D=>by
  rw[List.foldl_cons,bW7 s l,List.map_cons,List.contains_cons];by_cases h:r.a=s;all_goals simp_all[cV,cO8,Ne.symm,Bool.false_or]
theorem bE1 (s:aF)(l:List Pr):cW (nmD l) s=if(l.map Pr.a).contains s then some (.val (.bool true))else none:=bW7 s l []
def vE (p:Po):Bool:=!dR p.n||(!inB p.v 1 1099511627776||decide ((16:Int)<p.r.length))
def oD (c:Bool)(r:Pr):Bool:=c||(!dR r.a||(!(fJ r.b).isSome||(!(fJ r.c).isSome||(!inB r.g 0 1099511627776||!dS r.t))))
theorem aR8 (l:List Pr)(r:Pr):oD ((l.map Pr.a).contains r.a) r=aY3 l r:=by simp only[oD,aY3,iS]
theorem aD0 {p:Po}(h:vE p=true):eR p=false:=by grind[vE,eR,iS,dR,inB,decide]
theorem aR9 {p:Po}(h:vE p=false)(h2:RlSt p.r p.r.length):eR p=true:=by
 unfold vE at h;rw[eR,iS];have h3:=h2.all;have h4:=h2.apart;grind
structure PoSz (p:Po):Prop where
 n:p.n.length<2^63
 r:p.r.length<2^40
 a: ∀r∈p.r,r.a.length<2^63
 t: ∀r∈p.r,∀n∈r.t,n.q.t.length<2^63
end Go.Pl
namespace Go.Proofs.YtlldglbooaefhaaGreatDoor
open Go Go.Hl Go.Pl
set_option maxRecDepth 10000
set_option maxHeartbeats 16000000
def aI5 (p:Po):Bool:=!dR p.n||(decide (p.v<1)||(decide ((1099511627776:Int)<p.v)||decide ((16:Int)<p.r.length)))
theorem bE2 (p:Po):aI5 p=vE p:=by
 have h1:decide (p.v<1)=!decide (1≤p.v):=by rw[←decide_not];exact decide_eq_decide.2 (by omega)
 have h2:decide ((1099511627776:Int)<p.v)=!decide (p.v≤1099511627776):=by rw[←decide_not];exact decide_eq_decide.2 (by omega)
 rw[aI5,vE,inB,h1,h2];cases dR p.n<;>cases decide (1≤p.v)<;>cases decide (p.v≤1099511627776)<;>rfl
def aI6 (r:Pr):Bool:=!dR r.a||(!(fJ r.b).isSome||(!(fJ r.c).isSome||(!inN r.g||!dS r.t)))
theorem aY4 (l:List Pr)(r:Pr):aY3 l r=((l.map Pr.a).contains r.a||aI6 r):=rfl
theorem bL1 (p:Po)(hp:PoSz p):cF Tryz.prog 30 [p.cv] (fun v=>v= .bool (eR p)):=by
 have hpn:=hp.n;have hpr:=hp.r;refine FW Tryz.func30 ?_;refine R0 ?_;refine aB fun K hK=>?_;refine aB fun K hK=>?_;have key: ∀(b:Bool) fr ob nx,b=aI5 p→Fits 0 fr ob (fin [(1,.ptr 0 0),(25,.c (.bool b))]) (fob [(0,.box 45 (.c p.cv))]) 600→K fr ob nx:=by
  rintro b fr ob nx rfl hf;refine hK _ _ _ (bM hf ?_);clear hf hK K;refine aG (b:=aI5 p) rfl (fun hb=>?_) (fun hb=>?_)
  · refine R0 ?_;refine aE (RT Tryz.results30 ?_);exact aH [] (.bool false) rfl (by rw[aD0 (by rw[←bE2];exact hb)])
  refine aJ ?_;refine T0 (hK _ _ _ ?_);clear hK K;refine aB fun K hK=>?_;refine R0 ?_;refine aN ?_;have hhead:=hb;rw[bE2]at hhead;clear hb;refine bR (α:={i:Nat//RlSt p.r i}) (fun i=>(fin [(1,.ptr 0 0),(3,.c (.int .i64 i.1))],fob [(0,.box 45 (.c p.cv))])) 2000 (fun i=>p.r.length-i.1) ⟨0,RlSt.zero p.r⟩ (fF) ?_;rintro⟨i,hΦ⟩;refine aB fun K hK=>?_;refine aB fun K hK=>Rg ?_;iterate 5 refine S0 ?_
  refine T2 (hK _ _ _ ?_);clear hK K;refine aG (b:=decide ((i:Int)<p.r.length)) rfl (fun hb=>?_) (fun hb=>?_)
  ·
   have hlt:i<p.r.length:=by simpa using hb
   clear hb;obtain⟨r,hr⟩: ∃r,r=p.r[i]:=⟨_,rfl⟩;have hmem:r∈p.r:=by rw[hr];exact List.getElem_mem hlt
   have hra:=hp.a r hmem;have hrt:=hp.t r hmem;refine aJ ?_;refine T0 (hK _ _ _ ?_);clear hK K;refine aB fun K hK=>?_;refine aN ?_;refine aB fun K hK=>Rg ?_;iterate 7 refine S0 ?_ (e:=fun _ h_=>by simp only[sH,↓sP,sA,tyS,simprocAttr,Int.natCast_nonneg,Int.ofNat_lt,hlt,bS hlt,←hr];exact AX h_)
   refine T2 (hK _ _ _ ?_);clear hK K;refine aB fun K hK=>?_;refine aB fun K hK=>?_;have key: ∀(b:Bool) fr ob nx,b=aI6 r→Fits 0 fr ob (fin [(1,.ptr 0 0),(3,.c (.int .i64 i)),(4,.ptr 2040 0),(65,.c (.bool b))]) (fob [(0,.box 45 (.c p.cv)),(2040,.box 54 (.c r.cv))]) 3000→K fr ob nx:=by
    rintro b fr ob nx rfl hf;refine hK _ _ _ (bM hf ?_);clear hf hK K;refine aG (b:=aI6 r) rfl (fun hb=>?_) (fun hb=>?_)
    · refine R0 ?_;refine aE (RT Tryz.results30 ?_);exact aH [] (.bool false) rfl (by rw[aI4 (aI3 hlt (by rw[aY4,←hr,hb,Bool.or_true]))])
    refine aJ ?_;refine T0 (hK _ _ _ ?_);clear hK K;refine R0 ?_;refine aN ?_;have hbn:=hb;clear hb;refine bR (α:={k:Nat//k≤i∧((p.r.take k).map Pr.a).contains r.a=false}) (fun k=>(fin [(1,.ptr 0 0),(3,.c (.int .i64 i)),(4,.ptr 2040 0),(5,.c (.int .i64 k.1))],fob [(0,.box 45 (.c p.cv)),(2040,.box 54 (.c r.cv))])) 5000 (fun k=>i-k.1) ⟨0,by omega,rfl⟩ (fF) ?_;rintro⟨k,hk,hno⟩;refine aB fun K hK=>?_;refine R0 ?_;refine aG (b:=decide ((k:Int)<(i:Int))) rfl (fun hb=>?_) (fun hb=>?_)
    ·
     have hki:k<i:=by simpa using hb
     have hkl:k<p.r.length:=by omega
     clear hb;refine aJ ?_;refine T0 (hK _ _ _ ?_);clear hK K;refine aB fun K hK=>?_;refine aN ?_;refine aB fun K hK=>QR ?_;have F:=aI @Int.natCast_nonneg (aI @Int.ofNat_lt (aI hkl (nM hkl)));iterate 9 refine SF ?_
     refine T2 (hK _ _ _ ?_);clear hK K;refine aG (b:=p.r[k].a==r.a) rfl (fun hb=>?_) (fun hb=>?_)
     ·
      refine R0 ?_;refine aE (RT Tryz.results30 ?_);have he:p.r[k].a=r.a:=by simpa using hb
      have hc:((p.r.take i).map Pr.a).contains r.a=true:=by
       rw[List.contains_iff_mem,←he];exact List.mem_map_of_mem (List.mem_iff_getElem.2 ⟨k,by simp;omega,by simp⟩)
      exact aH [] (.bool false) rfl (by rw[aI4 (aI3 hlt (by rw[aY4,←hr,hc,Bool.true_or]))])
     refine aJ ?_;refine T0 (hK _ _ _ ?_);clear hK K;refine aK (by kernel_rfl) ?_;refine TQ (IntWalk.i64_in ((k:Int)+1) (by omega)) ?_;have he:(r.a==p.r[k].a)=false:=by
      rw[beq_eq_false_iff_ne]at hb⊢;exact fun h=>hb h.symm
     refine⟨⟨k+1,hki,by rw[List.take_succ_eq_append_getElem hkl];simp only[List.map_append,List.contains_append,hno,List.map_cons,List.map_nil,List.contains_cons,List.contains_nil,he,Bool.or_false]⟩,fF,?_⟩;show i-(k+1)<i-k;omega
    refine bJ (T3 ?_);clear hK K;refine AX (hK _ _ _ ?_);clear hK K;have hke:k=i:=by simp at hb;omega
    subst hke;have hΦ2:=hΦ.succ hlt (by rw[aY4,←hr,hno,hbn];rfl);clear hb;refine aK (by kernel_rfl) ?_;refine TQ (IntWalk.i64_in ((k:Int)+1) (by omega)) ?_;refine⟨⟨k+1,hΦ2⟩,fF,?_⟩;show p.r.length-(k+1)<p.r.length-k;omega
   refine Rg ?_;iterate 2 refine S0 ?_
   refine HS rfl rfl fun K' hK'=>T5 ?_;refine C1 (xG r.a (by omega)) ?_;rintro u rfl;refine AX (hK' _ _ ?_);clear hK' K';iterate 2 refine S0 ?_
   refine aD 40 rfl (fun h7_40=>?_) (fun h7_40=>?_)
   ·
    have F:=h7_40;iterate 2 refine SF ?_
    refine aP (g:=some (42,false)) rfl rfl fun K' hK'=>T6 ?_;refine C1 (aQ7 r.b) ?_;rintro u rfl;refine AX (hK' _ _ ?_);clear hK' K';iterate 3 refine SF ?_
    refine aD 45 rfl (fun h7_45=>?_) (fun h7_45=>?_)
    ·
     have F:=aI h7_40 h7_45;iterate 2 refine SF ?_
     refine aP (g:=some (48,false)) rfl rfl fun K' hK'=>T6 ?_;refine C1 (aQ7 r.c) ?_;rintro u rfl;refine AX (hK' _ _ ?_);clear hK' K';iterate 3 refine SF ?_
     refine aD 51 rfl (fun h7_51=>?_) (fun h7_51=>?_)
     ·
      have F:=aI h7_40 (aI h7_45 h7_51);iterate 2 refine SF ?_
      refine aP (g:=some (54,false)) rfl rfl fun K' hK'=>T6 ?_;refine C1 (xF r.g) ?_;rintro u rfl;refine AX (hK' _ _ ?_);clear hK' K';iterate 3 refine SF ?_
      refine aD 57 rfl (fun h7_57=>?_) (fun h7_57=>?_)
      ·
       have F:=aI h7_40 (aI h7_45 (aI h7_51 h7_57));iterate 2 refine SF ?_
       refine aP (g:=some (60,false)) rfl rfl fun K' hK'=>T6 ?_;refine C1 (bV6 r.t hrt) ?_;rintro u rfl;refine AX (hK' _ _ ?_);clear hK' K';iterate 2 refine SF ?_
       refine aD 63 rfl (fun h7_63=>?_) (fun h7_63=>?_)
       · simp only[h7_63];refine T4 ?_;exact key false _ _ _ (by simp only[aI6,h7_40,h7_45,h7_51,h7_57,h7_63,Bool.not_true,Bool.not_false,Bool.true_or,Bool.false_or]) (fF)
       simp only[h7_63];refine T4 ?_;exact key true _ _ _ (by simp only[aI6,h7_40,h7_45,h7_51,h7_57,h7_63,Bool.not_true,Bool.not_false,Bool.true_or,Bool.false_or]) (fF)
      have F:=aI h7_40 (aI h7_45 (aI h7_51 h7_57));iterate 5 refine SF ?_
      refine T4 ?_;exact key true _ _ _ (by simp only[aI6,h7_40,h7_45,h7_51,h7_57,Bool.not_true,Bool.not_false,Bool.true_or,Bool.false_or]) (fF)
     have F:=aI h7_40 (aI h7_45 h7_51);iterate 11 refine SF ?_
     refine T4 ?_;exact key true _ _ _ (by simp only[aI6,h7_40,h7_45,h7_51,Bool.not_true,Bool.not_false,Bool.true_or,Bool.false_or]) (fF)
    have F:=aI h7_40 h7_45;iterate 17 refine SF ?_
    refine T4 ?_;exact key true _ _ _ (by simp only[aI6,h7_40,h7_45,Bool.not_true,Bool.not_false,Bool.true_or,Bool.false_or]) (fF)
   have F:=h7_40;iterate 23 refine SF ?_
   refine T4 ?_;exact key true _ _ _ (by simp only[aI6,h7_40,Bool.not_true,Bool.not_false,Bool.true_or,Bool.false_or]) (fF)
  refine bJ (T3 ?_);clear hK K;refine AX (hK _ _ _ ?_);clear hK K;refine R0 ?_;refine aE (RT Tryz.results30 ?_);have hie:i=p.r.length:=by have:=hΦ.le;simp at hb;omega
  subst hie;exact aH [] (.bool true) rfl (by rw[aR9 hhead hΦ])
 refine Rg ?_;iterate 2 refine S0 ?_
 refine HS rfl rfl fun K' hK'=>T5 ?_;refine C1 (xG p.n (by omega)) ?_;rintro u rfl;refine AX (hK' _ _ ?_);clear hK' K';iterate 2 refine S0 ?_
 refine aD 8 rfl (fun h1_8=>?_) (fun h1_8=>?_)
 ·
  have F:=h1_8;iterate 5 refine SF ?_
  refine aD 13 rfl (fun h1_13=>?_) (fun h1_13=>?_)
  ·
   have F:=aI h1_8 h1_13;iterate 10 refine SF ?_
   refine T4 ?_;exact key true _ _ _ (by simp only[aI5,h1_8,h1_13,Bool.not_true,Bool.not_false,Bool.true_or,Bool.false_or]) (fF)
  have F:=aI h1_8 h1_13;iterate 5 refine SF ?_
  refine aD 18 rfl (fun h1_18=>?_) (fun h1_18=>?_)
  ·
   have F:=aI h1_8 (aI h1_13 h1_18);iterate 5 refine SF ?_
   refine T4 ?_;exact key true _ _ _ (by simp only[aI5,h1_8,h1_13,h1_18,Bool.not_true,Bool.not_false,Bool.true_or,Bool.false_or]) (fF)
  have F:=aI h1_8 (aI h1_13 h1_18);iterate 5 refine SF ?_
  refine aD 24 rfl (fun h1_24=>?_) (fun h1_24=>?_)
  · simp only[h1_24];refine T4 ?_;exact key true _ _ _ (by simp only[aI5,h1_8,h1_13,h1_18,h1_24,Bool.not_true,Bool.not_false,Bool.true_or,Bool.false_or]) (fF)
  simp only[h1_24];refine T4 ?_;exact key false _ _ _ (by simp only[aI5,h1_8,h1_13,h1_18,h1_24,Bool.not_true,Bool.not_false,Bool.true_or,Bool.false_or]) (fF)
 have F:=h1_8;iterate 15 refine SF ?_
 refine T4 ?_;exact key true _ _ _ (by simp only[aI5,h1_8,Bool.not_true,Bool.not_false,Bool.true_or,Bool.false_or]) (fF)
structure Few (p:Po):Prop where
 r:p.r.length≤20
 n:p.n.length≤100
 t: ∀r∈p.r,r.t.length≤70
end Go.Proofs.YtlldglbooaefhaaGreatDoor
