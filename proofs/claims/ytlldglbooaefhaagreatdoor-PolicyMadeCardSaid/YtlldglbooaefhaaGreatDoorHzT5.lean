/- Part of a proof: walks of functions of the program, by contracts, and the rules they use. By an AI agent. -/
import Derived.Test.YtlldglbooaefhaaGreatDoorHzU1
import Derived.Test.YtlldglbooaefhaaGreatDoorHzTc
import Derived.Test.YtlldglbooaefhaaGreatDoorHlTlaw
import Derived.Test.YtlldglbooaefhaaGreatDoorHlZb
import Derived.Test.YtlldglbooaefhaaGreatDoorRows
set_option linter.unusedSimpArgs false
set_option linter.unusedVariables false
set_option linter.defProp false
namespace Go.Proofs.YtlldglbooaefhaaGreatDoor
open Go Go.Hl Go.Pl
set_option maxRecDepth 10000
set_option maxHeartbeats 16000000
theorem bV1 (q:Rq)(hn:q.t.length<2^63):bW Tryz.prog 75 [q.cv] (fun v=>v= .bool (dB q)):=by
 refine FW Tryz.func75 ?_;refine R0 ?_;refine aC fun K hK=>?_;have key0: ∀(b:Bool) fr ob nx,b=inB q.n 1 32→Fits 0 fr ob (fin [(1,.ptr 0 0),(3,.c (.bool b))]) (fob [(0,.box 38 (.c q.cv))]) 100→K fr ob nx:=by
  rintro b fr ob nx rfl hf;refine hK _ _ _ (bK hf ?_);clear hf hK K;refine aC fun K hK=>?_;refine R0 ?_;refine aL ?_;refine aC fun K hK=>?_;have key: ∀(b:Bool) fr ob nx,b=(q.k==1||(q.k==3||q.k==5))→Fits 0 fr ob (fin [(1,.ptr 0 0),(3,.c (.bool (inB q.n 1 32))),(13,.c (.int .i64 q.k)),(14,.c (.bool b))]) (fob [(0,.box 38 (.c q.cv))]) 300→K fr ob nx:=by
   rintro b fr ob nx rfl hf;refine hK _ _ _ (bK hf ?_);clear hf hK K;refine aJ (b:=_) rfl (fun hb=>?_) (fun hb=>?_)
   ·
    refine aC fun K hK=>Rg ?_;iterate 2 refine S0 ?_
    refine aE 18 rfl (fun h6_18=>?_) (fun h6_18=>?_)
    ·
     have F:=h6_18;iterate 5 refine SF ?_
     refine aE 22 rfl (fun h6_22=>?_) (fun h6_22=>?_)
     ·
      have F:=aI h6_18 h6_22;iterate 5 refine SF ?_
      refine T2 (hK _ _ _ ?_);clear hK K;refine aF (RT Tryz.results75 ?_);exact aH [] (.bool _) rfl (by rw[wJ hb,h6_18,h6_22];rfl)
     have F:=aI h6_18 h6_22;iterate 5 refine SF ?_
     refine T2 (hK _ _ _ ?_);clear hK K;refine aF (RT Tryz.results75 ?_);exact aH [] (.bool _) rfl (by rw[wJ hb,h6_18,h6_22];rfl)
    have F:=h6_18;iterate 10 refine SF ?_
    refine T2 (hK _ _ _ ?_);clear hK K;refine aF (RT Tryz.results75 ?_);exact aH [] (.bool _) rfl (by rw[wJ hb,h6_18];rfl)
   have h1:=hb;refine R0 ?_;refine aJ (b:=_) rfl (fun hb=>?_) (fun hb=>?_)
   ·
    refine aC fun K hK=>Rg ?_;iterate 2 refine S0 ?_
    refine aE 31 rfl (fun h8_31=>?_) (fun h8_31=>?_)
    ·
     have F:=h8_31;iterate 5 refine SF ?_
     refine aE 35 rfl (fun h8_35=>?_) (fun h8_35=>?_)
     ·
      have F:=aI h8_31 h8_35;iterate 5 refine SF ?_
      refine aE 40 rfl (fun h8_40=>?_) (fun h8_40=>?_)
      ·
       have F:=aI h8_31 (aI h8_35 h8_40);iterate 5 refine SF ?_
       refine T2 (hK _ _ _ ?_);clear hK K;refine aF (RT Tryz.results75 ?_);exact aH [] (.bool _) rfl (by rw[qO hb,h8_31,h8_35,h8_40];rfl)
      have F:=aI h8_31 (aI h8_35 h8_40);iterate 5 refine SF ?_
      refine T2 (hK _ _ _ ?_);clear hK K;refine aF (RT Tryz.results75 ?_);exact aH [] (.bool _) rfl (by rw[qO hb,h8_31,h8_35,h8_40];rfl)
     have F:=aI h8_31 h8_35;iterate 10 refine SF ?_
     refine T2 (hK _ _ _ ?_);clear hK K;refine aF (RT Tryz.results75 ?_);exact aH [] (.bool _) rfl (by rw[qO hb,h8_31,h8_35];rfl)
    have F:=h8_31;iterate 15 refine SF ?_
    refine T2 (hK _ _ _ ?_);clear hK K;refine aF (RT Tryz.results75 ?_);exact aH [] (.bool _) rfl (by rw[qO hb,h8_31];rfl)
   have h2:=hb;refine R0 ?_;refine aJ (b:=_) rfl (fun hb=>?_) (fun hb=>?_)
   ·
    refine aC fun K hK=>Rg ?_;iterate 4 refine S0 ?_
    refine aE 51 rfl (fun h10_51=>?_) (fun h10_51=>?_)
    ·
     have F:=h10_51;iterate 5 refine SF ?_
     refine aE 55 rfl (fun h10_55=>?_) (fun h10_55=>?_)
     ·
      have F:=aI h10_51 h10_55;iterate 2 refine SF ?_
      refine aV (g:=some (57,true)) rfl rfl fun K' hK'=>T6 ?_;refine C1 (bI4 _ hn) ?_;rintro u rfl;refine AX (hK' _ _ ?_);clear hK' K';iterate 2 refine SF ?_
      refine T2 (hK _ _ _ ?_);clear hK K;refine aF (RT Tryz.results75 ?_);exact aH [] (.bool _) rfl (by rw[wK hb,h10_51,h10_55];rfl)
     have F:=aI h10_51 h10_55;iterate 5 refine SF ?_
     refine T2 (hK _ _ _ ?_);clear hK K;refine aF (RT Tryz.results75 ?_);exact aH [] (.bool _) rfl (by rw[wK hb,h10_51,h10_55];rfl)
    have F:=h10_51;iterate 10 refine SF ?_
    refine T2 (hK _ _ _ ?_);clear hK K;refine aF (RT Tryz.results75 ?_);exact aH [] (.bool _) rfl (by rw[wK hb,h10_51];rfl)
   have h3:=hb;refine R0 ?_;refine aJ (b:=_) rfl (fun hb=>?_) (fun hb=>?_)
   ·
    refine aC fun K hK=>Rg ?_;iterate 4 refine S0 ?_
    refine aE 66 rfl (fun h12_66=>?_) (fun h12_66=>?_)
    ·
     have F:=h12_66;iterate 5 refine SF ?_
     refine aE 70 rfl (fun h12_70=>?_) (fun h12_70=>?_)
     ·
      have F:=aI h12_66 h12_70;iterate 5 refine SF ?_
      refine aE 75 rfl (fun h12_75=>?_) (fun h12_75=>?_)
      ·
       have F:=aI h12_66 (aI h12_70 h12_75);iterate 5 refine SF ?_
       refine T2 (hK _ _ _ ?_);clear hK K;refine aF (RT Tryz.results75 ?_);exact aH [] (.bool _) rfl (by rw[qP hb,h12_66,h12_70,h12_75];rfl)
      have F:=aI h12_66 (aI h12_70 h12_75);iterate 5 refine SF ?_
      refine T2 (hK _ _ _ ?_);clear hK K;refine aF (RT Tryz.results75 ?_);exact aH [] (.bool _) rfl (by rw[qP hb,h12_66,h12_70,h12_75];rfl)
     have F:=aI h12_66 h12_70;iterate 10 refine SF ?_
     refine T2 (hK _ _ _ ?_);clear hK K;refine aF (RT Tryz.results75 ?_);exact aH [] (.bool _) rfl (by rw[qP hb,h12_66,h12_70];rfl)
    have F:=h12_66;iterate 15 refine SF ?_
    refine T2 (hK _ _ _ ?_);clear hK K;refine aF (RT Tryz.results75 ?_);exact aH [] (.bool _) rfl (by rw[qP hb,h12_66];rfl)
   have h4:=hb;refine R0 ?_;refine aJ (b:=_) rfl (fun hb=>?_) (fun hb=>?_)
   ·
    refine aC fun K hK=>Rg ?_;iterate 2 refine S0 ?_
    refine HS rfl rfl fun K' hK'=>T5 ?_;refine C1 (aQ1 _) ?_;rintro u rfl;refine AX (hK' _ _ ?_);clear hK' K';refine S0 ?_;refine aE 86 rfl (fun h14_86=>?_) (fun h14_86=>?_)
    ·
     have F:=h14_86;iterate 5 refine SF ?_
     refine aE 90 rfl (fun h14_90=>?_) (fun h14_90=>?_)
     ·
      have F:=aI h14_86 h14_90;iterate 5 refine SF ?_
      refine T2 (hK _ _ _ ?_);clear hK K;refine aF (RT Tryz.results75 ?_);exact aH [] (.bool _) rfl (by rw[wL hb,h14_86,h14_90];rfl)
     have F:=aI h14_86 h14_90;iterate 5 refine SF ?_
     refine T2 (hK _ _ _ ?_);clear hK K;refine aF (RT Tryz.results75 ?_);exact aH [] (.bool _) rfl (by rw[wL hb,h14_86,h14_90];rfl)
    have F:=h14_86;iterate 10 refine SF ?_
    refine T2 (hK _ _ _ ?_);clear hK K;refine aF (RT Tryz.results75 ?_);exact aH [] (.bool _) rfl (by rw[wL hb,h14_86];rfl)
   have h5:=hb;refine R0 ?_;refine aJ (b:=_) rfl (fun hb=>?_) (fun hb=>?_)
   ·
    refine aC fun K hK=>Rg ?_;iterate 4 refine S0 ?_
    refine aE 101 rfl (fun h16_101=>?_) (fun h16_101=>?_)
    ·
     have F:=h16_101;iterate 5 refine SF ?_
     refine aE 105 rfl (fun h16_105=>?_) (fun h16_105=>?_)
     ·
      have F:=aI h16_101 h16_105;iterate 5 refine SF ?_
      refine T2 (hK _ _ _ ?_);clear hK K;refine aF (RT Tryz.results75 ?_);exact aH [] (.bool _) rfl (by rw[wM hb,h16_101,h16_105];rfl)
     have F:=aI h16_101 h16_105;iterate 5 refine SF ?_
     refine T2 (hK _ _ _ ?_);clear hK K;refine aF (RT Tryz.results75 ?_);exact aH [] (.bool _) rfl (by rw[wM hb,h16_101,h16_105];rfl)
    have F:=h16_101;iterate 10 refine SF ?_
    refine T2 (hK _ _ _ ?_);clear hK K;refine aF (RT Tryz.results75 ?_);exact aH [] (.bool _) rfl (by rw[wM hb,h16_101];rfl)
   refine aK ?_;refine T0 (hK _ _ _ ?_);clear hK K;refine R0 ?_;refine aF (RT Tryz.results75 ?_);exact aH [] (.bool false) rfl (by rw[aW3 h1 (by simpa using h2) (by simpa using h3) (by simpa using h4) (by simpa using h5) (by simpa using hb)])
  refine R0 ?_;refine aJ (b:=_) rfl (fun hb=>?_) (fun hb=>?_)
  · refine aK (T3 ?_);exact key (q.k==1) _ _ _ (by rw[hb];rfl) (fF)
  have h1:=hb;refine R0 ?_;refine aJ (b:=_) rfl (fun hb=>?_) (fun hb=>?_)
  · refine aK (T3 ?_);exact key (q.k==3) _ _ _ (by rw[h1,hb];rfl) (fF)
  have h1':=hb;refine aM (by kernel_rfl) ?_;simp only[↓sP,sA,tyS,simprocAttr];exact key (q.k==5) _ _ _ (by rw[h1,h1'];rfl) (fF)
 refine Rg ?_;iterate 4 refine S0 ?_
 refine aE 6 rfl (fun h1_6=>?_) (fun h1_6=>?_)
 ·
  have F:=h1_6;iterate 5 refine SF ?_
  refine aE 10 rfl (fun h1_10=>?_) (fun h1_10=>?_)
  · simp only[h1_10];refine T4 ?_;exact key0 true _ _ _ (by simp only[inB,h1_6,h1_10,Bool.true_and,Bool.false_and]) (fF)
  simp only[h1_10];refine T4 ?_;exact key0 false _ _ _ (by simp only[inB,h1_6,h1_10,Bool.true_and,Bool.false_and]) (fF)
 have F:=h1_6;iterate 5 refine SF ?_
 refine T4 ?_;exact key0 false _ _ _ (by simp only[inB,h1_6,Bool.true_and,Bool.false_and]) (fF)
theorem bN1 (n:Nd)(hn:n.q.t.length<2^63):bW Tryz.prog 43 [n.cv] (fun v=>v= .bool (nE n)):=by
 refine FW Tryz.func43 ?_;refine R0 ?_;refine aC fun K hK=>Rg ?_;have F:=@aC5;iterate 5 refine SF ?_
 refine T2 (hK _ _ _ ?_);clear hK K;refine aC fun K hK=>?_;refine R0 ?_;refine aL ?_;refine R0 ?_;refine aJ (b:=_) rfl (fun hb=>?_) (fun hb=>?_)
 ·
  refine aC fun K hK=>Rg ?_;iterate 4 refine S0 ?_
  refine aE 14 rfl (fun h4_14=>?_) (fun h4_14=>?_)
  ·
   have F:=h4_14;iterate 5 refine SF ?_
   refine aE 18 rfl (fun h4_18=>?_) (fun h4_18=>?_)
   ·
    have F:=aI h4_14 h4_18;iterate 2 refine SF ?_
    refine aV (g:=some (20,true)) rfl rfl fun K' hK'=>T6 ?_;refine C1 (bV1 n.q hn) ?_;rintro u rfl;refine AX (hK' _ _ ?_);clear hK' K';iterate 2 refine SF ?_
    refine T2 (hK _ _ _ ?_);clear hK K;refine aF (RT Tryz.results43 ?_);exact aH [] (.bool _) rfl (by rw[pG (by simpa using hb),h4_14,h4_18];rfl)
   have F:=aI h4_14 h4_18;iterate 5 refine SF ?_
   refine T2 (hK _ _ _ ?_);clear hK K;refine aF (RT Tryz.results43 ?_);exact aH [] (.bool _) rfl (by rw[pG (by simpa using hb),h4_14,h4_18];rfl)
  have F:=h4_14;iterate 10 refine SF ?_
  refine T2 (hK _ _ _ ?_);clear hK K;refine aF (RT Tryz.results43 ?_);exact aH [] (.bool _) rfl (by rw[pG (by simpa using hb),h4_14];rfl)
 have h1:n.k≠1:=by simpa using hb
 refine aC fun K hK=>?_;have key2: ∀(b:Bool) fr ob nx,b=(n.k==2||n.k==3)→Fits 0 fr ob (fin [(1,.ptr 0 0),(3,.c (.bool (eU n.q rq0))),(9,.c (.int .i64 n.k)),(25,.c (.bool b))]) (fob [(0,.box 40 (.c n.cv))]) 300→K fr ob nx:=by
  rintro b fr ob nx rfl hf;refine hK _ _ _ (bK hf ?_);clear hf hK K;refine aJ (b:=_) rfl (fun hb=>?_) (fun hb=>?_)
  ·
   refine aC fun K hK=>Rg ?_;iterate 4 refine S0 ?_
   refine aE 30 rfl (fun h7_30=>?_) (fun h7_30=>?_)
   ·
    have F:=h7_30;iterate 5 refine SF ?_
    refine aE 34 rfl (fun h7_34=>?_) (fun h7_34=>?_)
    ·
     have F:=aI h7_30 h7_34;iterate 3 refine SF ?_
     refine T2 (hK _ _ _ ?_);clear hK K;refine aF (RT Tryz.results43 ?_);exact aH [] (.bool _) rfl (by rw[rX hb,h7_30,h7_34];rfl)
    have F:=aI h7_30 h7_34;iterate 3 refine SF ?_
    refine T2 (hK _ _ _ ?_);clear hK K;refine aF (RT Tryz.results43 ?_);exact aH [] (.bool _) rfl (by rw[rX hb,h7_30,h7_34];rfl)
   have F:=h7_30;iterate 8 refine SF ?_
   refine T2 (hK _ _ _ ?_);clear hK K;refine aF (RT Tryz.results43 ?_);exact aH [] (.bool _) rfl (by rw[rX hb,h7_30];rfl)
  have h2:=hb;refine R0 ?_;refine aJ (b:=_) rfl (fun hb=>?_) (fun hb=>?_)
  ·
   refine aC fun K hK=>Rg ?_;iterate 4 refine S0 ?_
   refine aE 43 rfl (fun h9_43=>?_) (fun h9_43=>?_)
   ·
    have F:=h9_43;iterate 5 refine SF ?_
    refine aE 47 rfl (fun h9_47=>?_) (fun h9_47=>?_)
    ·
     have F:=aI h9_43 h9_47;iterate 7 refine SF ?_
     refine aE 54 rfl (fun h9_54=>?_) (fun h9_54=>?_)
     ·
      have F:=aI h9_43 (aI h9_47 h9_54);iterate 3 refine SF ?_
      refine T2 (hK _ _ _ ?_);clear hK K;refine aF (RT Tryz.results43 ?_);exact aH [] (.bool _) rfl (by rw[lQ (by simpa using hb),h9_43,h9_47,h9_54];rfl)
     have F:=aI h9_43 (aI h9_47 h9_54);iterate 3 refine SF ?_
     refine T2 (hK _ _ _ ?_);clear hK K;refine aF (RT Tryz.results43 ?_);exact aH [] (.bool _) rfl (by rw[lQ (by simpa using hb),h9_43,h9_47,h9_54];rfl)
    have F:=aI h9_43 h9_47;iterate 10 refine SF ?_
    refine T2 (hK _ _ _ ?_);clear hK K;refine aF (RT Tryz.results43 ?_);exact aH [] (.bool _) rfl (by rw[lQ (by simpa using hb),h9_43,h9_47];rfl)
   have F:=h9_43;iterate 15 refine SF ?_
   refine T2 (hK _ _ _ ?_);clear hK K;refine aF (RT Tryz.results43 ?_);exact aH [] (.bool _) rfl (by rw[lQ (by simpa using hb),h9_43];rfl)
  refine aK ?_;refine T0 (hK _ _ _ ?_);clear hK K;refine R0 ?_;refine aF (RT Tryz.results43 ?_);exact aH [] (.bool _) rfl (by rw[bM7 h1 h2 (by simpa using hb)])
 refine R0 ?_;refine aJ (b:=_) rfl (fun hb=>?_) (fun hb=>?_)
 · refine aK (T3 ?_);exact key2 (n.k==2) _ _ _ (by rw[hb];rfl) (aN (by omega) (by simp[aZ,fin_at,finA_at,upd_at,HV.men,HV.menL,HV.norm,HV.toC,HV.toCL,rq0]) (by simp[aY,fob_at,upd_at,none0_at,bU,HO.men,HV.men,HV.menL,HV.norm,HV.toC,HV.toCL,rq0]))
 have h2:=hb;refine aM (by kernel_rfl) ?_;simp only[↓sP,sA,tyS,simprocAttr];exact key2 (n.k==3) _ _ _ (by rw[hb];rfl) (aN (by omega) (by simp[aZ,fin_at,finA_at,upd_at,HV.men,HV.menL,HV.norm,HV.toC,HV.toCL,rq0]) (by simp[aY,fob_at,upd_at,none0_at,bU,HO.men,HV.men,HV.menL,HV.norm,HV.toC,HV.toCL,rq0]))
theorem bQ (n:Int)(h: -4611686018427387904≤n∧n≤4611686018427387904):IntKind.i64.wrap n=n:=IntWalk.i64_in _ (by omega)
theorem qR (l:List Nd)(hn: ∀n∈l,n.q.t.length<2^63):bW Tryz.prog 13 [.slc (l.map Nd.cv)] (fun v=>v= .bool (cT l)):=by
 refine FW Tryz.func13 ?_;refine R0 ?_;refine aC fun K hK=>?_;refine aC fun K hK=>Rg ?_;iterate 4 refine S0 ?_
 refine aE 9 rfl (fun h1_9=>?_) (fun h1_9=>?_)
 ·
  have F:=h1_9;iterate 4 refine SF ?_
  refine T2 (hK _ _ _ ?_);clear hK K;refine CT rfl ?_;refine R0 ?_;refine aF (RT Tryz.results13 ?_);exact aH [] (.bool false) rfl (by rw[jX (.inl (by simp only[decide_eq_true_eq]at h1_9;omega))])
 have F:=h1_9;iterate 4 refine SF ?_
 refine aE 13 rfl (fun h1_13=>?_) (fun h1_13=>?_)
 · simp only[h1_13];refine T2 (hK _ _ _ ?_);clear hK K;refine CT rfl ?_;refine R0 ?_;refine aF (RT Tryz.results13 ?_);exact aH [] (.bool false) rfl (by rw[jX (.inr (by simp only[decide_eq_true_eq]at h1_13;omega))])
 simp only[h1_13];refine T2 (hK _ _ _ ?_);clear hK K;refine CF rfl ?_;refine aK ?_;refine T0 (hK _ _ _ ?_);clear hK K;have hl1:1≤l.length:=by simp only[decide_eq_false_iff_not]at h1_9;omega
 have hl2:l.length≤60:=by simp only[decide_eq_false_iff_not]at h1_13;omega
 clear h1_9 h1_13;refine R0 ?_;refine aC fun K hK=>?_;refine R0 ?_;refine aL ?_;refine bD (α:={y:Nat×Int×Int//ScSt l y.1 y.2.1 y.2.2}) (fun y=>(fin [(3,.c (.int .i64 y.1.2.1)),(4,.c (.int .i64 y.1.2.2)),(15,.c (.slc (l.map Nd.cv))),(16,.c (.int .i64 l.length)),(17,.c (.int .i64 y.1.1))],fob [])) 200 (fun y=>l.length-y.1.1) ⟨(0,1,0),ScSt.init l⟩ (fF) ?_;rintro⟨⟨i,m,v⟩,hst⟩;simp only at hst;have hi:=hst.le;have hm0:=hst.m0;have hm1:=hst.m1;have hv0:=hst.v0;have hv1:=hst.v1;refine R0 ?_;refine aC fun K hK=>?_;refine aJ (b:=decide ((i:Int)<l.length)) rfl (fun hb=>?_) (fun hb=>?_)
 ·
  have hlt:i<l.length:=by simpa using hb
  clear hb;refine aK ?_;refine T0 (hK _ _ _ ?_);clear hK K;refine aC fun K hK=>?_;refine aL ?_;refine aC fun K hK=>Rg ?_;have F:=aI @Int.natCast_nonneg (aI @Int.ofNat_lt (aI hlt (nM hlt)));iterate 4 refine SF ?_
  refine T2 (hK _ _ _ ?_);clear hK K;refine aC fun K hK=>?_;refine aC fun K hK=>Rg ?_;iterate 3 refine S0 ?_
  refine aE 22 rfl (fun h7_22=>?_) (fun h7_22=>?_)
  ·
   have F:=h7_22;iterate 4 refine SF ?_
   refine T2 (hK _ _ _ ?_);clear hK K;refine CT rfl ?_;refine R0 ?_;refine aF (RT Tryz.results13 ?_);exact aH [] (.bool false) rfl (by rw[hst.stop hlt (.inl (by simpa using h7_22))])
  have F:=h7_22;refine SF ?_;refine aV (g:=some (23,false)) rfl rfl fun K' hK'=>T6 ?_;refine C1 (bN0 l[i] (hn _ (List.getElem_mem hlt))) ?_;rintro u rfl;refine AX (hK' _ _ ?_);clear hK' K';iterate 2 refine SF ?_
  refine aE 25 rfl (fun h7_25=>?_) (fun h7_25=>?_)
  ·
   simp only[h7_25];refine T2 (hK _ _ _ ?_);clear hK K;refine CF rfl ?_;refine aK ?_;refine T0 (hK _ _ _ ?_);clear hK K;have hnb:bL l[i]=true:=by simpa using h7_25
   have hm:m≠0:=by simpa using h7_22
   obtain⟨c1,c2,c3,c4⟩:=cI hnb;have hnx:=hst.next hlt hm hnb;clear h7_22 h7_25;refine aC fun K hK=>Rg ?_;iterate 6 refine S0 ?_ (e:=fun _ h_=>by simp only[sH,↓sP,sA,tyS,simprocAttr,bQ (l[i].c-1) (by omega),bQ (m+(l[i].c-1)) (by omega)];exact AX h_)
   refine T2 (hK _ _ _ ?_);clear hK K;refine R0 ?_;refine aJ (b:=_) rfl (fun hb=>?_) (fun hb=>?_)
   · refine aM (by kernel_rfl) ?_;simp only[↓sP,sA,tyS,simprocAttr,bQ (v+1) (by omega)];refine AX (hK _ _ _ ?_);clear hK K;refine aM (by kernel_rfl) ?_;simp only[↓sP,sA,tyS,simprocAttr,bQ ((i:Int)+1) (by omega)];rw[if_pos (by simpa using hb)]at hnx;refine⟨⟨(i+1,_,_),hnx⟩,fF,?_⟩;show l.length-(i+1)<l.length-i;omega
   refine aK ?_;refine T0 (hK _ _ _ ?_);clear hK K;refine aM (by kernel_rfl) ?_;simp only[↓sP,sA,tyS,simprocAttr,bQ ((i:Int)+1) (by omega)];rw[if_neg (by simpa using hb)]at hnx;refine⟨⟨(i+1,_,_),hnx⟩,fF,?_⟩;show l.length-(i+1)<l.length-i;omega
  simp only[h7_25];refine T2 (hK _ _ _ ?_);clear hK K;refine CT rfl ?_;refine R0 ?_;refine aF (RT Tryz.results13 ?_);exact aH [] (.bool false) rfl (by rw[hst.stop hlt (.inr (by simpa using h7_25))])
 refine bA (T3 ?_);clear hK K;refine AX (hK _ _ _ ?_);clear hK K;have hei:i=l.length:=by simp only[decide_eq_false_iff_not]at hb;omega
 subst hei;have hf:=hst.fin hl1 hl2;clear hb;refine aC fun K hK=>Rg ?_;iterate 3 refine S0 ?_
 refine aE 40 rfl (fun h13_40=>?_) (fun h13_40=>?_)
 ·
  have F:=h13_40;iterate 4 refine SF ?_
  refine T2 (hK _ _ _ ?_);clear hK K;refine aF (RT Tryz.results13 ?_);exact aH [] (.bool _) rfl (by rw[hf,h13_40,Bool.true_and])
 have F:=h13_40;iterate 4 refine SF ?_
 refine T2 (hK _ _ _ ?_);clear hK K;refine aF (RT Tryz.results13 ?_);exact aH [] (.bool false) rfl (by rw[hf,h13_40,Bool.false_and])
theorem qS (l:List Nd)(hn: ∀n∈l,n.q.t.length<2^63):bW Tryz.prog 14 [.slc (l.map Nd.cv)] (fun v=>v= .bool (cT l)):=by
 refine FW Tryz.func14 ?_;refine R0 ?_;refine aC fun K hK=>?_;refine aC fun K hK=>Rg ?_;iterate 4 refine S0 ?_
 refine aE 8 rfl (fun h1_8=>?_) (fun h1_8=>?_)
 ·
  have F:=h1_8;iterate 4 refine SF ?_
  refine T2 (hK _ _ _ ?_);clear hK K;refine CT rfl ?_;refine R0 ?_;refine aF (RT Tryz.results14 ?_);exact aH [] (.bool false) rfl (by rw[jX (.inl (by simp only[decide_eq_true_eq]at h1_8;omega))])
 have F:=h1_8;iterate 4 refine SF ?_
 refine aE 12 rfl (fun h1_12=>?_) (fun h1_12=>?_)
 · simp only[h1_12];refine T2 (hK _ _ _ ?_);clear hK K;refine CT rfl ?_;refine R0 ?_;refine aF (RT Tryz.results14 ?_);exact aH [] (.bool false) rfl (by rw[jX (.inr (by simp only[decide_eq_true_eq]at h1_12;omega))])
 simp only[h1_12];refine T2 (hK _ _ _ ?_);clear hK K;refine CF rfl ?_;refine aK ?_;refine T0 (hK _ _ _ ?_);clear hK K;have hl1:1≤l.length:=by simp only[decide_eq_false_iff_not]at h1_8;omega
 have hl2:l.length≤60:=by simp only[decide_eq_false_iff_not]at h1_12;omega
 clear h1_8 h1_12;refine R0 ?_;refine aC fun K hK=>?_;refine R0 ?_;refine aL ?_;refine bD (α:={y:Nat×Int×Int//ScSt l y.1 y.2.1 y.2.2}) (fun y=>(fin [(0,.c (.slc (l.map Nd.cv))),(3,.c (.int .i64 y.1.2.1)),(4,.c (.int .i64 y.1.2.2)),(5,.c (.int .i64 y.1.1))],fob [])) 200 (fun y=>l.length-y.1.1) ⟨(0,1,0),ScSt.init l⟩ (fF) ?_;rintro⟨⟨i,m,v⟩,hst⟩;simp only at hst;have hi:=hst.le;have hm0:=hst.m0;have hm1:=hst.m1;have hv0:=hst.v0;have hv1:=hst.v1;refine aC fun K hK=>?_;refine aC fun K hK=>Rg ?_;iterate 4 refine S0 ?_
 refine T2 (hK _ _ _ ?_);clear hK K;refine aJ (b:=decide ((i:Int)<l.length)) rfl (fun hb=>?_) (fun hb=>?_)
 ·
  have hlt:i<l.length:=by simpa using hb
  clear hb;refine aK ?_;refine T0 (hK _ _ _ ?_);clear hK K;refine aC fun K hK=>?_;refine aL ?_;refine aC fun K hK=>?_;refine aC fun K hK=>Rg ?_;have F:=aI @Int.natCast_nonneg (aI @Int.ofNat_lt (aI hlt (nM hlt)));iterate 3 refine SF ?_
  refine aE 21 rfl (fun h7_21=>?_) (fun h7_21=>?_)
  ·
   have F:=aI @Int.natCast_nonneg (aI @Int.ofNat_lt (aI hlt (aI (nM hlt) h7_21)));iterate 15 refine SF ?_
   refine T2 (hK _ _ _ ?_);clear hK K;refine CT rfl ?_;refine R0 ?_;refine aF (RT Tryz.results14 ?_);exact aH [] (.bool false) rfl (by rw[hst.stop hlt (.inl (by simpa using h7_21))])
  have F:=aI @Int.natCast_nonneg (aI @Int.ofNat_lt (aI hlt (aI (nM hlt) h7_21)));iterate 4 refine SF ?_
  refine aV (g:=some (22,false)) rfl rfl fun K' hK'=>T6 ?_;refine C1 (bN1 l[i] (hn _ (List.getElem_mem hlt))) ?_;rintro u rfl;refine AX (hK' _ _ ?_);clear hK' K';iterate 3 refine SF ?_
  refine aE 27 rfl (fun h7_27=>?_) (fun h7_27=>?_)
  ·
   have F:=aI @Int.natCast_nonneg (aI @Int.ofNat_lt (aI hlt (aI (nM hlt) (aI h7_21 h7_27))));iterate 7 refine SF ?_
   refine aE 36 rfl (fun h7_36=>?_) (fun h7_36=>?_)
   · simp only[h7_36];refine T2 (hK _ _ _ ?_);clear hK K;refine CT rfl ?_;refine R0 ?_;refine aF (RT Tryz.results14 ?_);exact aH [] (.bool false) rfl (by rw[hst.stop hlt (.inr (by rw[aC3,h7_27,h7_36];rfl))])
   simp only[h7_36];refine T2 (hK _ _ _ ?_);clear hK K;refine CF rfl ?_;refine aK ?_;refine T0 (hK _ _ _ ?_);clear hK K;have hnb:bL l[i]=true:=by rw[aC3,h7_27,h7_36];rfl
   have hm:m≠0:=by simpa using h7_21
   obtain⟨c1,c2,c3,c4⟩:=cI hnb;have hnx:=hst.next hlt hm hnb;clear h7_21 h7_27 h7_36;refine aC fun K hK=>Rg ?_;iterate 9 refine S0 ?_ (e:=fun _ h_=>by simp only[sH,↓sP,sA,tyS,simprocAttr,Int.natCast_nonneg,Int.ofNat_lt,hlt,bN hlt,bQ (l[i].c-1) (by omega),bQ (m+(l[i].c-1)) (by omega)];exact AX h_)
   refine T2 (hK _ _ _ ?_);clear hK K;refine aC fun K hK=>Rg ?_;have F:=aI @Int.natCast_nonneg (aI @Int.ofNat_lt (aI hlt (nM hlt)));iterate 6 refine SF ?_
   refine T2 (hK _ _ _ ?_);clear hK K;refine aJ (b:=_) rfl (fun hb=>?_) (fun hb=>?_)
   · refine aM (by kernel_rfl) ?_;simp only[↓sP,sA,tyS,simprocAttr,bQ (v+1) (by omega)];refine AX (hK _ _ _ ?_);clear hK K;refine aM (by kernel_rfl) ?_;simp only[↓sP,sA,tyS,simprocAttr,bQ ((i:Int)+1) (by omega)];rw[if_pos (by simpa using hb)]at hnx;refine⟨⟨(i+1,_,_),hnx⟩,fF,?_⟩;show l.length-(i+1)<l.length-i;omega
   refine aK ?_;refine T0 (hK _ _ _ ?_);clear hK K;refine aM (by kernel_rfl) ?_;simp only[↓sP,sA,tyS,simprocAttr,bQ ((i:Int)+1) (by omega)];rw[if_neg (by simpa using hb)]at hnx;refine⟨⟨(i+1,_,_),hnx⟩,fF,?_⟩;show l.length-(i+1)<l.length-i;omega
  have F:=aI @Int.natCast_nonneg (aI @Int.ofNat_lt (aI hlt (aI (nM hlt) (aI h7_21 h7_27))));iterate 7 refine SF ?_
  refine T2 (hK _ _ _ ?_);clear hK K;refine CT rfl ?_;refine R0 ?_;refine aF (RT Tryz.results14 ?_);exact aH [] (.bool false) rfl (by rw[hst.stop hlt (.inr (by rw[aC3,h7_27];rfl))])
 refine bA (T3 ?_);clear hK K;refine AX (hK _ _ _ ?_);clear hK K;have hei:i=l.length:=by simp only[decide_eq_false_iff_not]at hb;omega
 subst hei;have hf:=hst.fin hl1 hl2;clear hb;refine aC fun K hK=>Rg ?_;iterate 3 refine S0 ?_
 refine aE 55 rfl (fun h12_55=>?_) (fun h12_55=>?_)
 ·
  have F:=h12_55;iterate 4 refine SF ?_
  refine T2 (hK _ _ _ ?_);clear hK K;refine aF (RT Tryz.results14 ?_);exact aH [] (.bool _) rfl (by rw[hf,h12_55,Bool.true_and])
 have F:=h12_55;iterate 4 refine SF ?_
 refine T2 (hK _ _ _ ?_);clear hK K;refine aF (RT Tryz.results14 ?_);exact aH [] (.bool false) rfl (by rw[hf,h12_55,Bool.false_and])
def iC (n:Nat):CV:= .int .i64 n
theorem oC (l:List Nat):CV.denilL (l.map iC)=l.map iC:=bY (fun _=>rfl) l
theorem bN2 (l:List Nd)(ht:IsTree l)(i:Nat)(hi:i<l.length):bW Tryz.prog 44 [.slc (l.map Nd.cv),.int .i64 i] (fun v=>v= .int .i64 (aft l i:Nat)):=by
 have hl:=ht.len;refine FW Tryz.func44 ?_;refine R0 ?_;refine aC fun K hK=>?_;refine R0 ?_;refine aL ?_;refine bD (α:={y:Nat×Nat//AftSt l i y.1 y.2∧y.1≤1+60*y.2}) (fun y=>(fin [(0,.c (.slc (l.map Nd.cv))),(1,.c (.int .i64 y.1.2)),(5,.c (.int .i64 y.1.1))],fob [])) 100 (fun y=>l.length-y.1.2) ⟨(1,i),⟨Nat.le_of_lt hi,rfl⟩,by omega⟩ (fF) ?_;rintro⟨⟨m,p⟩,hst,hm⟩;simp only at hst hm;have hp:=hst.1;refine aC fun K hK=>?_;refine R0 ?_;refine aJ (b:=decide ((0:Int)<(m:Int))) rfl (fun hb=>?_) (fun hb=>?_)
 ·
  have hm1:0<m:=by simpa using hb
  have hpl:=hst.lt ht hi hm1;obtain⟨c1,c2,_,_⟩:=cI (ht.node _ (List.getElem_mem hpl));obtain⟨m',rfl⟩: ∃m',m=m'+1:=⟨m-1,by omega⟩;have hnx:=hst.next hpl;have hw1:IntKind.i64.wrap (((m'+1:Nat):Int)+(l[p].c-1))=((m'+l[p].c.toNat:Nat):Int):=by rw[bQ _ (by omega)];omega
  have hw2:IntKind.i64.wrap ((p:Int)+1)=((p+1:Nat):Int):=by rw[bQ _ (by omega)];rfl
  clear hb;refine aK ?_;refine T0 (hK _ _ _ ?_);clear hK K;refine aC fun K hK=>?_;refine aL ?_;refine Rg ?_;iterate 9 refine S0 ?_ (e:=fun _ h_=>by simp only[sH,↓sP,sA,tyS,simprocAttr,Int.natCast_nonneg,Int.ofNat_lt,hpl,bN hpl,bQ (l[p].c-1) (by omega),hw1];exact AX h_)
  refine T2 (hK _ _ _ ?_);clear hK K;refine aM (by kernel_rfl) ?_;refine TQ hw2 ?_;refine⟨⟨(m'+l[p].c.toNat,p+1),hnx,by simp only;omega⟩,fF,?_⟩;show l.length-(p+1)<l.length-p;omega
 refine bA (T3 ?_);clear hK K;refine AX (hK _ _ _ ?_);clear hK K;refine R0 ?_;refine aF (RT Tryz.results44 ?_);have hm0:m=0:=by simpa using hb
 subst hm0;exact aH [] (.int .i64 p) rfl (by rw[hst.fin])
theorem tI (l:List Nd)(hn: ∀n∈l,n.q.t.length<2^63)(i:Int):bW Tryz.prog 16 [.slc (l.map Nd.cv),.int .i64 i] (fun v=>v= .slc ((lN l i).map iC)):=by
 refine FW Tryz.func16 ?_;refine R0 ?_;refine aC fun K hK=>?_;refine aC fun K hK=>Rg ?_;refine S0 ?_;refine HS rfl rfl fun K' hK'=>T5 ?_;refine C1 (qR l hn) ?_;rintro u rfl;refine AX (hK' _ _ ?_);clear hK' K';iterate 2 refine S0 ?_
 refine aE 8 rfl (fun h1_8=>?_) (fun h1_8=>?_)
 ·
  have F:=h1_8;iterate 4 refine SF ?_
  refine aE 12 rfl (fun h1_12=>?_) (fun h1_12=>?_)
  ·
   have F:=aI h1_8 h1_12;iterate 5 refine SF ?_
   refine T2 (hK _ _ _ ?_);clear hK K;refine CT rfl ?_;refine R0 ?_;refine aF (RT Tryz.results16 ?_);exact aH [] (.slc []) rfl (by rw[gR (.inr (.inl (by simpa using h1_12)))];rfl)
  have F:=aI h1_8 h1_12;iterate 5 refine SF ?_
  refine aE 18 rfl (fun h1_18=>?_) (fun h1_18=>?_)
  · simp only[h1_18];refine T2 (hK _ _ _ ?_);clear hK K;refine CT rfl ?_;refine R0 ?_;refine aF (RT Tryz.results16 ?_);exact aH [] (.slc []) rfl (by rw[gR (.inr (.inr (by simpa using h1_18)))];rfl)
  simp only[h1_18];refine T2 (hK _ _ _ ?_);clear hK K;refine CF rfl ?_;refine aK ?_;refine T0 (hK _ _ _ ?_);clear hK K;obtain⟨j,rfl⟩: ∃j:Nat,i=j:=⟨i.toNat,by simp at h1_12;omega⟩;have hj:j<l.length:=by simp at h1_18;omega
  have ht:=fK h1_8;have hcv:=rY h1_8 hj;have hl:=ht.len;obtain⟨c1,c2,_,_⟩:=cI (ht.node _ (List.getElem_mem hj));have hw2:IntKind.i64.wrap ((j:Int)+1)=((j+1:Nat):Int):=by rw[bQ _ (by omega)];rfl
  clear h1_8 h1_12 h1_18;refine R0 ?_;refine aC fun K hK=>?_;have F:=hw2;refine RF ?_;refine aL ?_;refine oX 5 0 3 1 rfl rfl rfl rfl ?_;refine bD (α:={k:Nat//k≤l[j].c.toNat}) (fun k=>(fin [(0,.c (.slc (l.map Nd.cv))),(1,.c (.int .i64 j)),(5,.own 72 k.1),(6,.c (.int .i64 (cK l k.1 (j+1):Nat)))],fob [(72,.row 3 1 ((gA l k.1 (j+1)).map iC))])) 200 (fun k=>l[j].c.toNat-k.1) ⟨0,by omega⟩ (aN (by omega) (by simp[aZ,fin_at,finA_at,upd_at,HV.men,HV.menL,HV.norm,HV.toC,HV.toCL,gA,cK]) (by simp[aY,fob_at,upd_at,none0_at,bU,HO.men,HV.men,HV.menL,HV.norm,HV.toC,HV.toCL,gA,cK])) ?_;rintro⟨k,hk⟩;have hkl:=nZ l k (j+1);refine aC fun K hK=>?_;refine aC fun K hK=>Rg ?_;have F:=aI @Int.natCast_nonneg (aI @Int.ofNat_lt (aI hj (aI (nM hj) hkl)));iterate 8 refine SF ?_
  refine T2 (hK _ _ _ ?_);clear hK K;refine aJ (b:=decide ((k:Int)<l[j].c)) rfl (fun hb=>?_) (fun hb=>?_)
  ·
   have hkc:k<l[j].c.toNat:=by simp only[decide_eq_true_eq]at hb;omega
   have hkp:=gZ ht hj hkc;have e:(gA l (k+1) (j+1)).map iC=(gA l k (j+1)).map iC++[CV.int .i64 (cK l k (j+1):Nat)]:=by rw[pA,List.map_append];rfl
   refine aK ?_;refine T0 (hK _ _ _ ?_);clear hK K;refine aC fun K hK=>?_;refine aL ?_;refine Rg ?_;have F:=hkl;iterate 5 refine SF ?_
   refine T2 (hK _ _ _ ?_);clear hK K;refine Rg ?_;iterate 2 refine S0 ?_
   refine HS rfl rfl fun K' hK'=>T5 ?_;refine C2 (bN2 l ht _ hkp) ?_;rintro u rfl;refine AX (hK' _ _ ?_);clear hK' K';refine S0 ?_;refine T4 ?_;refine⟨⟨k+1,hkc⟩,aN (by omega) (by simp[aZ,fin_at,finA_at,upd_at,HV.men,HV.menL,HV.norm,HV.toC,HV.toCL,e,hkl,cL]) (by simp[aY,fob_at,upd_at,none0_at,bU,HO.men,HV.men,HV.menL,HV.norm,HV.toC,HV.toCL,e,hkl,cL]),?_⟩;show l[j].c.toNat-(k+1)<l[j].c.toNat-k;omega
  refine bA (T3 ?_);clear hK K;refine AX (hK _ _ _ ?_);clear hK K;refine R0 ?_;refine aF (RT Tryz.results16 ?_);have hkc:k=l[j].c.toNat:=by simp only[decide_eq_false_iff_not]at hb;omega
  subst hkc;exact aH [72] (.slc ((gA l l[j].c.toNat (j+1)).map iC)) (by simp[HV.close,fob_at,hkl,HV.norm,HV.toC,oC,CV.denil]) (by rw[hcv])
 have F:=h1_8;iterate 9 refine SF ?_
 refine T2 (hK _ _ _ ?_);clear hK K;refine CT rfl ?_;refine R0 ?_;refine aF (RT Tryz.results16 ?_);exact aH [] (.slc []) rfl (by rw[gR (.inl h1_8)];rfl)
theorem rZ (l:List Nd)(hn: ∀n∈l,n.q.t.length<2^63):bW Tryz.prog 18 [.slc (l.map Nd.cv)] (fun v=>v= .slc ((gI l).map iC)):=by
 refine FW Tryz.func18 ?_;refine R0 ?_;refine aC fun K hK=>?_;refine aC fun K hK=>Rg ?_;refine S0 ?_;refine HS rfl rfl fun K' hK'=>T5 ?_;refine C1 (qR l hn) ?_;rintro u rfl;refine AX (hK' _ _ ?_);clear hK' K';refine S0 ?_;refine T2 (hK _ _ _ ?_);clear hK K;refine aJ (b:=!cT l) rfl (fun hb=>?_) (fun hb=>?_)
 · refine R0 ?_;refine aF (RT Tryz.results18 ?_);exact aH [] (.slc []) rfl (by rw[jY (by simpa using hb)];rfl)
 have h8:cT l=true:=by simpa using hb
 have ht:=fK h8;have hlv:=jJ h8;have hl:=ht.len;clear hb;refine aK ?_;refine T0 (hK _ _ _ ?_);clear hK K;refine R0 ?_;refine aC fun K hK=>?_;refine R0 ?_;refine aL ?_;refine oX 3 0 3 1 rfl rfl rfl rfl ?_;refine bD (α:={i:Nat//i≤l.length}) (fun i=>(fin [(3,.own 32 (eF 0 (l.take i.1)).length),(9,.c (.slc (l.map Nd.cv))),(10,.c (.int .i64 l.length)),(11,.c (.int .i64 i.1))],fob [(32,.row 3 1 ((eF 0 (l.take i.1)).map iC))])) 200 (fun i=>l.length-i.1) ⟨0,by omega⟩ (aN (by omega) (by simp[aZ,fin_at,finA_at,upd_at,HV.men,HV.menL,HV.norm,HV.toC,HV.toCL,eF]) (by simp[aY,fob_at,upd_at,none0_at,bU,HO.men,HV.men,HV.menL,HV.norm,HV.toC,HV.toCL,eF])) ?_;rintro⟨i,hi⟩;have hfl:(eF 0 (l.take i)).length≤i:=by rw[gQ];have:=bG5 (l.take i);simp at this;omega
 refine R0 ?_;refine aC fun K hK=>?_;refine aJ (b:=decide ((i:Int)<l.length)) rfl (fun hb=>?_) (fun hb=>?_)
 ·
  have hlt:i<l.length:=by simpa using hb
  have e:=vU hlt;clear hb;refine aK ?_;refine T0 (hK _ _ _ ?_);clear hK K;refine aC fun K hK=>?_;refine aL ?_;refine aC fun K hK=>Rg ?_;have F:=aI @Int.natCast_nonneg (aI @Int.ofNat_lt (aI hlt (nM hlt)));iterate 6 refine SF ?_
  refine T2 (hK _ _ _ ?_);clear hK K;refine R0 ?_;refine aJ (b:=_) rfl (fun hb=>?_) (fun hb=>?_)
  ·
   rw[if_pos (by simpa using hb)]at e;refine Rg ?_;iterate 5 refine S0 ?_
   refine T2 (hK _ _ _ ?_);clear hK K;refine aM (by kernel_rfl) ?_;simp only[↓sP,sA,tyS,simprocAttr,bQ ((i:Int)+1) (by omega)];refine⟨⟨i+1,hlt⟩,aN (by omega) (by simp[aZ,fin_at,finA_at,upd_at,HV.men,HV.menL,HV.norm,HV.toC,HV.toCL,e,iC]) (by simp[aY,fob_at,upd_at,none0_at,bU,HO.men,HV.men,HV.menL,HV.norm,HV.toC,HV.toCL,e,iC]),?_⟩;show l.length-(i+1)<l.length-i;omega
  rw[if_neg (by simpa using hb)]at e;refine aK ?_;refine T0 (hK _ _ _ ?_);clear hK K;refine aM (by kernel_rfl) ?_;simp only[↓sP,sA,tyS,simprocAttr,bQ ((i:Int)+1) (by omega)];refine⟨⟨i+1,hlt⟩,aN (by omega) (by simp[aZ,fin_at,finA_at,upd_at,HV.men,HV.menL,HV.norm,HV.toC,HV.toCL,e]) (by simp[aY,fob_at,upd_at,none0_at,bU,HO.men,HV.men,HV.menL,HV.norm,HV.toC,HV.toCL,e]),?_⟩;show l.length-(i+1)<l.length-i;omega
 refine bA (T3 ?_);clear hK K;refine AX (hK _ _ _ ?_);clear hK K;refine R0 ?_;refine aF (RT Tryz.results18 ?_);have hei:i=l.length:=by simp only[decide_eq_false_iff_not]at hb;omega
 subst hei;rw[List.take_length];exact aH [32] (.slc ((eF 0 l).map iC)) (by simp[HV.close,fob_at,HV.norm,HV.toC,oC,CV.denil]) (by rw[hlv])
theorem aL2 (a b:List Nat)(ha:a.length<2^40):bW Tryz.prog 15 [.slc (a.map iC),.slc (b.map iC)] (fun v=>v= .bool (a==b)):=by
 refine FW Tryz.func15 ?_;refine R0 ?_;refine aC fun K hK=>?_;refine aC fun K hK=>Rg ?_;iterate 5 refine S0 ?_
 refine T2 (hK _ _ _ ?_);clear hK K;refine aJ (b:=!((a.length:Int)==(b.length:Int))) rfl (fun hb=>?_) (fun hb=>?_)
 ·
  refine R0 ?_;refine aF (RT Tryz.results15 ?_);have hne:a≠b:=by rintro rfl;simp at hb
  exact aH [] (.bool false) rfl (by rw[beq_false_of_ne hne])
 have hlen0:(a.length:Int)=b.length:=by simpa using hb
 have hlen:a.length=b.length:=by omega
 clear hb;refine aK ?_;refine T0 (hK _ _ _ ?_);clear hK K;refine aC fun K hK=>?_;refine R0 ?_;refine aL ?_;refine bD (α:={i:Nat//i≤a.length∧a.take i=b.take i}) (fun i=>(fin [(0,.c (.slc (a.map iC))),(1,.c (.slc (b.map iC))),(5,.c (.int .i64 i.1))],fob [])) 100 (fun i=>a.length-i.1) ⟨0,by omega,by simp⟩ (fF) ?_;rintro⟨i,hi,hpre⟩;refine aC fun K hK=>?_;refine aC fun K hK=>Rg ?_;iterate 4 refine S0 ?_
 refine T2 (hK _ _ _ ?_);clear hK K;refine aJ (b:=decide ((i:Int)<a.length)) rfl (fun hb=>?_) (fun hb=>?_)
 ·
  have hlt:i<a.length:=by simpa using hb
  have hlt2:i<b.length:=by omega
  clear hb;refine aK ?_;refine T0 (hK _ _ _ ?_);clear hK K;refine aC fun K hK=>?_;refine aL ?_;refine aC fun K hK=>QR ?_;iterate 9 refine S0 ?_ (e:=fun _ h_=>by simp only[sH,↓sP,sA,tyS,simprocAttr,Int.natCast_nonneg,Int.ofNat_lt,hlt,bN hlt,hlt2,bN hlt2,iC];exact AX h_)
  refine T2 (hK _ _ _ ?_);clear hK K;refine aJ (b:=!((a[i]:Int)==(b[i]:Int))) rfl (fun hb=>?_) (fun hb=>?_)
  ·
   refine R0 ?_;refine aF (RT Tryz.results15 ?_);have hne:a≠b:=by rintro rfl;simp at hb
   exact aH [] (.bool false) rfl (by rw[beq_false_of_ne hne])
  refine aK ?_;refine T0 (hK _ _ _ ?_);clear hK K;refine aM (by kernel_rfl) ?_;simp only[↓sP,sA,tyS,simprocAttr,bQ ((i:Int)+1) (by omega)];have hab:a[i]=b[i]:=by simp at hb;omega
  refine⟨⟨i+1,hlt,by rw[List.take_succ_eq_append_getElem hlt,List.take_succ_eq_append_getElem hlt2,hpre,hab]⟩,fF,?_⟩;show a.length-(i+1)<a.length-i;omega
 refine bA (T3 ?_);clear hK K;refine AX (hK _ _ _ ?_);clear hK K;refine R0 ?_;refine aF (RT Tryz.results15 ?_);have hei:i=a.length:=by simp only[decide_eq_false_iff_not]at hb;omega
 subst hei;have hab:a=b:=by rw[List.take_length]at hpre;rw[hpre,hlen,List.take_length]
 exact aH [] (.bool true) rfl (by rw[hab,beq_self_eq_true])
theorem aL3 (l:List Nd)(ht:IsTree l)(i:Nat)(hi:i<l.length)(ih: ∀j,i<j→j<l.length→bW Tryz.prog 45 [.slc (l.map Nd.cv),.int .i64 j] (fun v=>v= .int .i64 (aft l j:Nat))):
  bW Tryz.prog 45 [.slc (l.map Nd.cv),.int .i64 i] (fun v=>v= .int .i64 (aft l i:Nat)):=by
 have hl:=ht.len;obtain⟨c1,c2,_,_⟩:=cI (ht.node _ (List.getElem_mem hi));have hw2:IntKind.i64.wrap ((i:Int)+1)=((i+1:Nat):Int):=by rw[bQ _ (by omega)];rfl
 have hc:l[i].c=((l[i].c.toNat:Nat):Int):=by omega
 refine FW Tryz.func45 ?_;refine R0 ?_;refine aC fun K hK=>Rg ?_;have F:=aI @Int.natCast_nonneg (aI @Int.ofNat_lt (aI hi (nM hi)));iterate 6 refine SF ?_
 refine T2 (hK _ _ _ ?_);clear hK K;have F:=hw2;refine RF ?_;refine aC fun K hK=>?_;refine aL ?_;refine bD (α:={y:Nat×Nat//AftSt l i y.1 y.2∧y.1≤60∧i<y.2}) (fun y=>(fin [(0,.c (.slc (l.map Nd.cv))),(1,.c (.int .i64 y.1.2)),(5,.c (.int .i64 y.1.1))],fob [])) 100 (fun y=>y.1.1) ⟨(0+l[i].c.toNat,i+1),AftSt.next (m:=0) ⟨Nat.le_of_lt hi,rfl⟩ hi,by simp only;omega,by simp only;omega⟩ (aN (by omega) (by simp[aZ,fin_at,finA_at,upd_at,HV.men,HV.menL,HV.norm,HV.toC,HV.toCL];omega) (by simp[aY,fob_at,upd_at,none0_at,bU,HO.men,HV.men,HV.menL,HV.norm,HV.toC,HV.toCL])) ?_;rintro⟨⟨m,p⟩,hst,hm,hip⟩;simp only at hst hm hip;have hp:=hst.1;refine aC fun K hK=>?_;refine R0 ?_;refine aJ (b:=decide ((0:Int)<(m:Int))) rfl (fun hb=>?_) (fun hb=>?_)
 ·
  have hm1:0<m:=by simpa using hb
  have hpl:=hst.lt ht hi hm1;obtain⟨m',rfl⟩: ∃m',m=m'+1:=⟨m-1,by omega⟩;obtain⟨a1,a2,a3⟩:=iH ht hpl;have hw1:IntKind.i64.wrap (((m'+1:Nat):Int)-1)=((m':Nat):Int):=by rw[bQ _ (by omega)];omega
  clear hb;refine aK ?_;refine T0 (hK _ _ _ ?_);clear hK K;refine aC fun K hK=>?_;refine aL ?_;refine Rg ?_;iterate 2 refine S0 ?_
  refine HS rfl rfl fun K' hK'=>T5 ?_;refine C2 (ih p hip hpl) ?_;rintro u rfl;refine AX (hK' _ _ ?_);clear hK' K';refine S0 ?_;refine T2 (hK _ _ _ ?_);clear hK K;refine aM (by kernel_rfl) ?_;refine TQ hw1 ?_;refine⟨⟨(m',aft l p),⟨a2,bA9 hst.2 a3⟩,by simp only;omega,by simp only;omega⟩,fF,?_⟩;show m'<m'+1;omega
 refine bA (T3 ?_);clear hK K;refine AX (hK _ _ _ ?_);clear hK K;refine R0 ?_;refine aF (RT Tryz.results45 ?_);have hm0:m=0:=by simpa using hb
 subst hm0;exact aH [] (.int .i64 p) rfl (by rw[hst.fin])
theorem oD (l:List Nd)(ht:IsTree l): ∀(f i:Nat),i<l.length→l.length-i≤f→bW Tryz.prog 45 [.slc (l.map Nd.cv),.int .i64 i] (fun v=>v= .int .i64 (aft l i:Nat))
 |0,i,h1,h2=>by omega
 |f+1,i,h1,h2=>aL3 l ht i h1 fun j h3 h4=>oD l ht f j h4 (by omega)
theorem aC6 (l:List Nd)(hn: ∀n∈l,n.q.t.length<2^63)(i:Int):bW Tryz.prog 17 [.slc (l.map Nd.cv),.int .i64 i] (fun v=>v= .slc ((lN l i).map iC)):=by
 refine FW Tryz.func17 ?_;refine R0 ?_;refine R0 ?_;refine aC fun K hK=>?_;refine aC fun K hK=>Rg ?_;refine S0 ?_;refine HS rfl rfl fun K' hK'=>T5 ?_;refine C1 (qS l hn) ?_;rintro u rfl;refine AX (hK' _ _ ?_);clear hK' K';iterate 2 refine S0 ?_
 refine aE 9 rfl (fun h2_9=>?_) (fun h2_9=>?_)
 ·
  have F:=h2_9;iterate 4 refine SF ?_
  refine aE 13 rfl (fun h2_13=>?_) (fun h2_13=>?_)
  ·
   have F:=aI h2_9 h2_13;iterate 5 refine SF ?_
   refine T2 (hK _ _ _ ?_);clear hK K;refine CT rfl ?_;refine R0 ?_;refine aF (RT Tryz.results17 ?_);exact aH [] (.slc []) rfl (by rw[gR (.inr (.inl (by simpa using h2_13)))];rfl)
  have F:=aI h2_9 h2_13;iterate 5 refine SF ?_
  refine aE 19 rfl (fun h2_19=>?_) (fun h2_19=>?_)
  · simp only[h2_19];refine T2 (hK _ _ _ ?_);clear hK K;refine CT rfl ?_;refine R0 ?_;refine aF (RT Tryz.results17 ?_);exact aH [] (.slc []) rfl (by rw[gR (.inr (.inr (by simpa using h2_19)))];rfl)
  simp only[h2_19];refine T2 (hK _ _ _ ?_);clear hK K;refine CF rfl ?_;refine aK ?_;refine T0 (hK _ _ _ ?_);clear hK K;obtain⟨j,rfl⟩: ∃j:Nat,i=j:=⟨i.toNat,by simp at h2_13;omega⟩;have hj:j<l.length:=by simp at h2_19;omega
  have ht:=fK h2_9;have hcv:=rY h2_9 hj;have hl:=ht.len;obtain⟨c1,c2,_,_⟩:=cI (ht.node _ (List.getElem_mem hj));have hw2:IntKind.i64.wrap ((j:Int)+1)=((j+1:Nat):Int):=by rw[bQ _ (by omega)];rfl
  clear h2_9 h2_13 h2_19;have F:=hw2;refine RF ?_;refine aC fun K hK=>?_;refine R0 ?_;refine aL ?_;refine oX 5 0 3 1 rfl rfl rfl rfl ?_;refine bD (α:={k:Nat//k≤l[j].c.toNat}) (fun k=>(fin [(0,.c (.slc (l.map Nd.cv))),(1,.c (.int .i64 j)),(5,.own 76 k.1),(6,.c (.int .i64 (cK l k.1 (j+1):Nat))),(7,.c (.int .i64 k.1))],fob [(76,.row 3 1 ((gA l k.1 (j+1)).map iC))])) 200 (fun k=>l[j].c.toNat-k.1) ⟨0,by omega⟩ (aN (by omega) (by simp[aZ,fin_at,finA_at,upd_at,HV.men,HV.menL,HV.norm,HV.toC,HV.toCL,gA,cK]) (by simp[aY,fob_at,upd_at,none0_at,bU,HO.men,HV.men,HV.menL,HV.norm,HV.toC,HV.toCL,gA,cK])) ?_;rintro⟨k,hk⟩;have hkl:=nZ l k (j+1);refine aC fun K hK=>?_;refine aC fun K hK=>Rg ?_;have F:=aI @Int.natCast_nonneg (aI @Int.ofNat_lt (aI hj (nM hj)));iterate 7 refine SF ?_
  refine T2 (hK _ _ _ ?_);clear hK K;refine aJ (b:=decide ((k:Int)<l[j].c)) rfl (fun hb=>?_) (fun hb=>?_)
  ·
   have hkc:k<l[j].c.toNat:=by simp only[decide_eq_true_eq]at hb;omega
   have hkp:=gZ ht hj hkc;have e:(gA l (k+1) (j+1)).map iC=(gA l k (j+1)).map iC++[CV.int .i64 (cK l k (j+1):Nat)]:=by rw[pA,List.map_append];rfl
   refine aK ?_;refine T0 (hK _ _ _ ?_);clear hK K;refine aC fun K hK=>?_;refine aL ?_;refine aC fun K hK=>Rg ?_;have F:=hkl;iterate 5 refine SF ?_
   refine T2 (hK _ _ _ ?_);clear hK K;refine Rg ?_;iterate 2 refine S0 ?_
   refine HS rfl rfl fun K' hK'=>T5 ?_;refine C2 (oD l ht _ _ hkp (Nat.le_refl _)) ?_;rintro u rfl;refine AX (hK' _ _ ?_);clear hK' K';refine S0 ?_;refine T2 (hK _ _ _ ?_);clear hK K;refine aM (by kernel_rfl) ?_;simp only[↓sP,sA,tyS,simprocAttr,bQ ((k:Int)+1) (by omega)];refine⟨⟨k+1,hkc⟩,aN (by omega) (by simp[aZ,fin_at,finA_at,upd_at,HV.men,HV.menL,HV.norm,HV.toC,HV.toCL,e,hkl,cL]) (by simp[aY,fob_at,upd_at,none0_at,bU,HO.men,HV.men,HV.menL,HV.norm,HV.toC,HV.toCL,e,hkl,cL]),?_⟩;show l[j].c.toNat-(k+1)<l[j].c.toNat-k;omega
  refine bA (T3 ?_);clear hK K;refine AX (hK _ _ _ ?_);clear hK K;refine R0 ?_;refine aF (RT Tryz.results17 ?_);have hkc:k=l[j].c.toNat:=by simp only[decide_eq_false_iff_not]at hb;omega
  subst hkc;exact aH [76] (.slc ((gA l l[j].c.toNat (j+1)).map iC)) (by simp[HV.close,fob_at,hkl,HV.norm,HV.toC,oC,CV.denil]) (by rw[hcv])
 have F:=h2_9;iterate 9 refine SF ?_
 refine T2 (hK _ _ _ ?_);clear hK K;refine CT rfl ?_;refine R0 ?_;refine aF (RT Tryz.results17 ?_);exact aH [] (.slc []) rfl (by rw[gR (.inl h2_9)];rfl)
theorem aR3 (l:List Nd)(hn: ∀n∈l,n.q.t.length<2^63)(hl:l.length<2^40):bW Tryz.prog 19 [.slc (l.map Nd.cv)] (fun v=>v= .slc ((gI l).map iC)):=by
 refine FW Tryz.func19 ?_;refine R0 ?_;refine R0 ?_;refine aC fun K hK=>?_;refine R0 ?_;refine aL ?_;refine oX 3 0 3 1 rfl rfl rfl rfl ?_;refine bD (α:={i:Nat//i≤l.length∧(0<i→cT l=true)}) (fun i=>(fin [(0,.c (.slc (l.map Nd.cv))),(3,.own 12 (eF 0 (l.take i.1)).length),(4,.c (.int .i64 i.1))],fob [(12,.row 3 1 ((eF 0 (l.take i.1)).map iC))])) 200 (fun i=>l.length-i.1) ⟨0,by omega,by omega⟩ (aN (by omega) (by simp[aZ,fin_at,finA_at,upd_at,HV.men,HV.menL,HV.norm,HV.toC,HV.toCL,eF]) (by simp[aY,fob_at,upd_at,none0_at,bU,HO.men,HV.men,HV.menL,HV.norm,HV.toC,HV.toCL,eF])) ?_;rintro⟨i,hi,ht0⟩;have hfl:(eF 0 (l.take i)).length≤i:=by rw[gQ];have:=bG5 (l.take i);simp at this;omega
 refine aC fun K hK=>?_;refine aC fun K hK=>Rg ?_;iterate 5 refine S0 ?_
 refine aE 8 rfl (fun h3_8=>?_) (fun h3_8=>?_)
 ·
  have F:=h3_8;refine SF ?_;refine aV (g:=some (9,true)) rfl rfl fun K' hK'=>T6 ?_;refine C1 (qS l hn) ?_;rintro u rfl;refine AX (hK' _ _ ?_);clear hK' K';refine SF ?_;refine aE 11 rfl (fun h3_11=>?_) (fun h3_11=>?_)
  ·
   simp only[h3_11];refine T2 (hK _ _ _ ?_);clear hK K;refine CT rfl ?_;refine aK ?_;refine T0 (hK _ _ _ ?_);clear hK K;refine aC fun K hK=>?_;refine aL ?_;have hlt:i<l.length:=by simpa using h3_8
   have h8:=h3_11;have e:=vU hlt;clear h3_8 h3_11;refine aC fun K hK=>Rg ?_;have F:=aI @Int.natCast_nonneg (aI @Int.ofNat_lt (aI hlt (nM hlt)));iterate 6 refine SF ?_
   refine T2 (hK _ _ _ ?_);clear hK K;refine aJ (b:=_) rfl (fun hb=>?_) (fun hb=>?_)
   ·
    rw[if_pos (by simpa using hb)]at e;refine Rg ?_;iterate 5 refine S0 ?_
    refine T2 (hK _ _ _ ?_);clear hK K;refine aM (by kernel_rfl) ?_;simp only[↓sP,sA,tyS,simprocAttr,bQ ((i:Int)+1) (by omega)];refine⟨⟨i+1,hlt,fun _=>h8⟩,aN (by omega) (by simp[aZ,fin_at,finA_at,upd_at,HV.men,HV.menL,HV.norm,HV.toC,HV.toCL,e,iC]) (by simp[aY,fob_at,upd_at,none0_at,bU,HO.men,HV.men,HV.menL,HV.norm,HV.toC,HV.toCL,e,iC]),?_⟩;show l.length-(i+1)<l.length-i;omega
   rw[if_neg (by simpa using hb)]at e;refine aK ?_;refine T0 (hK _ _ _ ?_);clear hK K;refine aM (by kernel_rfl) ?_;simp only[↓sP,sA,tyS,simprocAttr,bQ ((i:Int)+1) (by omega)];refine⟨⟨i+1,hlt,fun _=>h8⟩,aN (by omega) (by simp[aZ,fin_at,finA_at,upd_at,HV.men,HV.menL,HV.norm,HV.toC,HV.toCL,e]) (by simp[aY,fob_at,upd_at,none0_at,bU,HO.men,HV.men,HV.menL,HV.norm,HV.toC,HV.toCL,e]),?_⟩;show l.length-(i+1)<l.length-i;omega
  simp only[h3_11];refine T2 (hK _ _ _ ?_);clear hK K;refine CF rfl ?_;refine bA (T3 ?_);clear hK K;refine AX (hK _ _ _ ?_);clear hK K;refine R0 ?_;refine aF (RT Tryz.results19 ?_);have hi0:i=0:=by
   rcases Nat.eq_zero_or_pos i with h|h
   · exact h
   rw[ht0 h]at h3_11;cases h3_11
  subst hi0;exact aH [12] (.slc []) (by simp[HV.close,fob_at,HV.norm,HV.toC,CV.denil,eF,CV.denilL]) (by rw[jY h3_11];rfl)
 have F:=h3_8;iterate 3 refine SF ?_
 refine T2 (hK _ _ _ ?_);clear hK K;refine CF rfl ?_;refine bA (T3 ?_);clear hK K;refine AX (hK _ _ _ ?_);clear hK K;refine R0 ?_;refine aF (RT Tryz.results19 ?_);have hei:i=l.length:=by simp only[decide_eq_false_iff_not]at h3_8;omega
 subst hei;rw[List.take_length];refine aH [12] (.slc ((eF 0 l).map iC)) (by simp[HV.close,fob_at,HV.norm,HV.toC,oC,CV.denil]) ?_;cases hl0:l with
 |nil=>rfl
 |cons n l'=>rw[←hl0,jJ (ht0 (by rw[hl0];simp))]
def bC (b:Bool):CV:= .bool b
theorem oE (l:List Bool):CV.denilL (l.map bC)=l.map bC:=bY (fun _=>rfl) l
theorem aL4 (l:List Nd)(ht:IsTree l)(tr:List Bool)(htr:tr.length<2^63)(i:Nat)(hi:i<l.length)(ih: ∀j,i<j→j<l.length→bW Tryz.prog 48 [.slc (l.map Nd.cv),.int .i64 j,.slc (tr.map bC)] (fun v=>v= .bool (mW l tr j))):
  bW Tryz.prog 48 [.slc (l.map Nd.cv),.int .i64 i,.slc (tr.map bC)] (fun v=>v= .bool (mW l tr i)):=by
 have hl:=ht.len;obtain⟨c1,c2,_,_⟩:=cI (ht.node _ (List.getElem_mem hi));have hw2:IntKind.i64.wrap ((i:Int)+1)=((i+1:Nat):Int):=by rw[bQ _ (by omega)];rfl
 have hc:l[i].c=((l[i].c.toNat:Nat):Int):=by omega
 refine FW Tryz.func48 ?_;refine R0 ?_;refine aC fun K hK=>Rg ?_;have F:=aI @Int.natCast_nonneg (aI @Int.ofNat_lt (aI hi (nM hi)));iterate 6 refine SF ?_
 refine T2 (hK _ _ _ ?_);clear hK K;refine aC fun K hK=>?_;refine R0 ?_;refine aJ (b:=(l[i].k==1)) rfl (fun hb=>?_) (fun hb=>?_)
 ·
  refine R0 ?_;refine aC fun K hK=>?_;refine R0 ?_;refine aL ?_;have hk1:l[i].k=1:=by simpa using hb
  clear hb;refine bD (α:={j:Nat//j≤i}) (fun j=>(fin [(0,.c (.slc (l.map Nd.cv))),(1,.c (.int .i64 i)),(2,.c (.slc (tr.map bC))),(8,.c (.int .i64 (lv (l.take j.1):Nat))),(9,.c (.int .i64 j.1))],fob [])) 100 (fun j=>i-j.1) ⟨0,by omega⟩ (aN (by omega) (by simp[aZ,fin_at,finA_at,upd_at,HV.men,HV.menL,HV.norm,HV.toC,HV.toCL,lv]) (by simp[aY,fob_at,upd_at,none0_at,bU,HO.men,HV.men,HV.menL,HV.norm,HV.toC,HV.toCL,lv])) ?_;rintro⟨j,hj⟩;have hlv:=wN l j;refine aC fun K hK=>?_;refine R0 ?_;refine aJ (b:=decide ((j:Int)<i)) rfl (fun hb=>?_) (fun hb=>?_)
  ·
   have hji:j<i:=by simpa using hb
   have hjl:j<l.length:=by omega
   have e:=aC4 hjl;have hw3:IntKind.i64.wrap ((lv (l.take j):Int)+1)=((lv (l.take j)+1:Nat):Int):=by rw[bQ _ (by omega)];rfl
   clear hb;refine aK ?_;refine T0 (hK _ _ _ ?_);clear hK K;refine aC fun K hK=>?_;refine aL ?_;refine aC fun K hK=>Rg ?_;have F:=aI @Int.natCast_nonneg (aI @Int.ofNat_lt (aI hjl (nM hjl)));iterate 6 refine SF ?_
   refine T2 (hK _ _ _ ?_);clear hK K;refine aJ (b:=_) rfl (fun hb=>?_) (fun hb=>?_)
   · rw[if_pos (by simpa using hb)]at e;refine aM (by kernel_rfl) ?_;refine TQ hw3 ?_;refine AX (hK _ _ _ ?_);clear hK K;refine aM (by kernel_rfl) ?_;simp only[↓sP,sA,tyS,simprocAttr,bQ ((j:Int)+1) (by omega)];refine⟨⟨j+1,hji⟩,aN (by omega) (by simp[aZ,fin_at,finA_at,upd_at,HV.men,HV.menL,HV.norm,HV.toC,HV.toCL,e]) (by simp[aY,fob_at,upd_at,none0_at,bU,HO.men,HV.men,HV.menL,HV.norm,HV.toC,HV.toCL,e]),?_⟩;show i-(j+1)<i-j;omega
   rw[if_neg (by simpa using hb),Nat.add_zero]at e;refine aK ?_;refine T0 (hK _ _ _ ?_);clear hK K;refine aM (by kernel_rfl) ?_;simp only[↓sP,sA,tyS,simprocAttr,bQ ((j:Int)+1) (by omega)];refine⟨⟨j+1,hji⟩,aN (by omega) (by simp[aZ,fin_at,finA_at,upd_at,HV.men,HV.menL,HV.norm,HV.toC,HV.toCL,e]) (by simp[aY,fob_at,upd_at,none0_at,bU,HO.men,HV.men,HV.menL,HV.norm,HV.toC,HV.toCL,e]),?_⟩;show i-(j+1)<i-j;omega
  refine bA (T3 ?_);clear hK K;refine AX (hK _ _ _ ?_);clear hK K;by_cases hlt:lv (l.take j)<tr.length
  ·
   have hji:j=i:=by simp only[decide_eq_false_iff_not]at hb;omega
   subst hji;have hva:=vV (tr:=tr) hi hk1;clear hb;refine aC fun K hK=>Rg ?_;iterate 11 refine S0 ?_ (e:=fun _ h_=>by simp only[sH,↓sP,sA,tyS,simprocAttr,Int.natCast_nonneg,Int.ofNat_lt,hlt,bN hlt,bC];exact AX h_)
   refine T2 (hK _ _ _ ?_);clear hK K;refine aF (RT Tryz.results48 ?_);exact aH [] (.bool tr[lv (l.take j)]) rfl (by rw[hva];simp[hlt])
  have hji:j=i:=by simp only[decide_eq_false_iff_not]at hb;omega
  subst hji;have hva:=vV (tr:=tr) hi hk1;clear hb;have hlt':decide ((lv (l.take j):Int)<tr.length)=false:=by simp;omega
  refine aC fun K hK=>Rg ?_;have F:=hlt';iterate 11 refine SF ?_
  refine T2 (hK _ _ _ ?_);clear hK K;refine aF (RT Tryz.results48 ?_);exact aH [] (.bool false) rfl (by rw[hva];simp[List.getD_eq_getElem?_getD,List.getElem?_eq_none (Nat.le_of_not_lt hlt)])
 refine aK ?_;refine T0 (hK _ _ _ ?_);clear hK K;refine aC fun K hK=>Rg ?_;have F:=hw2;iterate 4 refine SF ?_
 refine T2 (hK _ _ _ ?_);clear hK K;refine aC fun K hK=>?_;refine R0 ?_;refine aL ?_;have hk1:l[i].k≠1:=by simpa using hb
 have hvi:=aJ4 (tr:=tr) hi hk1;have hkl:=aJ5 ht (tr:=tr) hi;obtain⟨V,hV⟩: ∃V,V=evS (lv l) tr (l.drop (i+1)):=⟨_,rfl⟩;rw[←hV]at hvi hkl;clear hb;refine bD (α:={k:Nat//k≤l[i].c.toNat}) (fun k=>(fin [(0,.c (.slc (l.map Nd.cv))),(2,.c (.slc (tr.map bC))),(7,.ptr 20 0),(10,.c (.int .i64 (cnt (V.take k.1):Nat))),(11,.c (.int .i64 (cK l k.1 (i+1):Nat))),(12,.c (.int .i64 k.1))],fob [(20,.box 40 (.c l[i].cv))])) 200 (fun k=>l[i].c.toNat-k.1) ⟨0,by omega⟩ (aN (by omega) (by simp[aZ,fin_at,finA_at,upd_at,HV.men,HV.menL,HV.norm,HV.toC,HV.toCL,cnt,cK,hw2]) (by simp[aY,fob_at,upd_at,none0_at,bU,HO.men,HV.men,HV.menL,HV.norm,HV.toC,HV.toCL,cnt,cK,hw2])) ?_;rintro⟨k,hk⟩;have hcn:cnt (V.take k)≤k:=by have:=bJ3 (V.take k);simp at this;omega
 have hcn2:cnt (V.take k)≤60:=by omega
 refine aC fun K hK=>?_;refine aC fun K hK=>Rg ?_;iterate 4 refine S0 ?_
 refine T2 (hK _ _ _ ?_);clear hK K;refine aJ (b:=decide ((k:Int)<l[i].c)) rfl (fun hb=>?_) (fun hb=>?_)
 ·
  have hkc:k<l[i].c.toNat:=by simp only[decide_eq_true_eq]at hb;omega
  have hkp:=gZ ht hi hkc;have hik:=(fW ht hi k hk).2.2;have hvk:=bB0 ht (tr:=tr) hi hkc;rw[←hV]at hvk;have hct:=kJ (l:=V) (k:=k) (by omega);have hw3:IntKind.i64.wrap ((cnt (V.take k):Int)+1)=((cnt (V.take k)+1:Nat):Int):=by rw[bQ _ (by omega)];rfl
  clear hb;refine aK ?_;refine T0 (hK _ _ _ ?_);clear hK K;refine aC fun K hK=>?_;refine aL ?_;refine aC fun K hK=>?_;refine aC fun K hK=>Rg ?_;have F:=@oE;iterate 3 refine SF ?_
  refine HS rfl rfl fun K' hK'=>T6 ?_;refine C3 (ih _ (by omega) hkp) ?_;rintro u rfl;refine AX (hK' _ _ ?_);clear hK' K';refine T2 (hK _ _ _ ?_);clear hK K;refine aJ (b:=mW l tr (cK l k (i+1))) rfl (fun hb=>?_) (fun hb=>?_)
  ·
   rw[hvk]at hb;rw[if_pos hb]at hct;refine aM (by kernel_rfl) ?_;refine TQ hw3 ?_;refine AX (hK _ _ _ ?_);clear hK K;refine Rg ?_;iterate 2 refine S0 ?_
   refine HS rfl rfl fun K' hK'=>T5 ?_;refine C2 (oD l ht _ _ hkp (Nat.le_refl _)) ?_;rintro u rfl;refine AX (hK' _ _ ?_);clear hK' K';refine S0 ?_;refine T2 (hK _ _ _ ?_);clear hK K;refine aM (by kernel_rfl) ?_;simp only[↓sP,sA,tyS,simprocAttr,bQ ((k:Int)+1) (by omega)];refine⟨⟨k+1,hkc⟩,aN (by omega) (by simp[aZ,fin_at,finA_at,upd_at,HV.men,HV.menL,HV.norm,HV.toC,HV.toCL,hct,cL]) (by simp[aY,fob_at,upd_at,none0_at,bU,HO.men,HV.men,HV.menL,HV.norm,HV.toC,HV.toCL,hct,cL]),?_⟩;show l[i].c.toNat-(k+1)<l[i].c.toNat-k;omega
  rw[hvk]at hb;rw[if_neg (by rw[hb];simp)]at hct;refine aK ?_;refine T0 (hK _ _ _ ?_);clear hK K;refine Rg ?_;iterate 2 refine S0 ?_
  refine HS rfl rfl fun K' hK'=>T5 ?_;refine C2 (oD l ht _ _ hkp (Nat.le_refl _)) ?_;rintro u rfl;refine AX (hK' _ _ ?_);clear hK' K';refine S0 ?_;refine T2 (hK _ _ _ ?_);clear hK K;refine aM (by kernel_rfl) ?_;simp only[↓sP,sA,tyS,simprocAttr,bQ ((k:Int)+1) (by omega)];refine⟨⟨k+1,hkc⟩,aN (by omega) (by simp[aZ,fin_at,finA_at,upd_at,HV.men,HV.menL,HV.norm,HV.toC,HV.toCL,hct,Nat.add_zero,cL]) (by simp[aY,fob_at,upd_at,none0_at,bU,HO.men,HV.men,HV.menL,HV.norm,HV.toC,HV.toCL,hct,Nat.add_zero,cL]),?_⟩;show l[i].c.toNat-(k+1)<l[i].c.toNat-k;omega
 refine bA (T3 ?_);clear hK K;refine AX (hK _ _ _ ?_);clear hK K;refine aC fun K hK=>?_;have hkc:k=l[i].c.toNat:=by simp only[decide_eq_false_iff_not]at hb;omega
 subst hkc;have hlen:(V.take l[i].c.toNat).length=l[i].c.toNat:=by simp;omega
 clear hb;refine R0 ?_;refine aL ?_;refine R0 ?_;refine aJ (b:=(l[i].k==2)) rfl (fun hb=>?_) (fun hb=>?_)
 ·
  refine aC fun K hK=>Rg ?_;iterate 5 refine S0 ?_
  refine T2 (hK _ _ _ ?_);clear hK K;refine aF (RT Tryz.results48 ?_);have h2:l[i].k=2:=by simpa using hb
  exact aH [] (.bool _) rfl (by rw[hvi,iA,if_pos h2,hlen];congr 1;rw[Bool.eq_iff_iff];simp;omega)
 have h2:l[i].k≠2:=by simpa using hb
 refine R0 ?_;refine aJ (b:=(l[i].k==3)) rfl (fun hb=>?_) (fun hb=>?_)
 ·
  refine R0 ?_;refine aF (RT Tryz.results48 ?_);have h3:l[i].k=3:=by simpa using hb
  exact aH [] (.bool _) rfl (by rw[hvi,iA,if_neg h2,if_pos h3];congr 1;rw[Bool.eq_iff_iff];simp;omega)
 refine aK ?_;refine T0 (hK _ _ _ ?_);clear hK K;refine aC fun K hK=>Rg ?_;iterate 5 refine S0 ?_
 refine T2 (hK _ _ _ ?_);clear hK K;refine aF (RT Tryz.results48 ?_);have h3:l[i].k≠3:=by simpa using hb
 exact aH [] (.bool _) rfl (by rw[hvi,iA,if_neg h2,if_neg h3])
theorem zI (l:List Nd)(ht:IsTree l)(tr:List Bool)(htr:tr.length<2^63): ∀(f i:Nat),i<l.length→l.length-i≤f→bW Tryz.prog 48 [.slc (l.map Nd.cv),.int .i64 i,.slc (tr.map bC)] (fun v=>v= .bool (mW l tr i))
 |0,i,h1,h2=>by omega
 |f+1,i,h1,h2=>aL4 l ht tr htr i h1 fun j h3 h4=>zI l ht tr htr f j h4 (by omega)
theorem bN3 (l:List Nd)(ht:IsTree l)(tr:List Bool)(htr:tr.length<2^63):bW Tryz.prog 48 [.slc (l.map Nd.cv),.int .i64 0,.slc (tr.map bC)] (fun v=>v= .bool (mW l tr 0)):=zI l ht tr htr l.length 0 ht.ne (Nat.le_refl _)
theorem bN4 (l:List Nd)(hn: ∀n∈l,n.q.t.length<2^63)(tr:List Bool)(htr:tr.length<2^63):bW Tryz.prog 21 [.slc (l.map Nd.cv),.slc (tr.map bC)] (fun v=>v= .bool (oR l tr)):=by
 refine FW Tryz.func21 ?_;refine R0 ?_;refine aC fun K hK=>Rg ?_;have F:=@oE;refine SF ?_;refine HS rfl rfl fun K' hK'=>T6 ?_;refine C1 (qS l hn) ?_;rintro u rfl;refine AX (hK' _ _ ?_);clear hK' K';refine SF ?_;refine aE 6 rfl (fun h1_6=>?_) (fun h1_6=>?_)
 ·
  have F:=aI @oE h1_6;iterate 2 refine SF ?_
  refine aV (g:=some (7,true)) rfl rfl fun K' hK'=>T6 ?_;refine C3 (bN3 l (fK h1_6) tr htr) ?_;rintro u rfl;refine AX (hK' _ _ ?_);clear hK' K';iterate 2 refine SF ?_
  refine T2 (hK _ _ _ ?_);clear hK K;refine aF (RT Tryz.results21 ?_);exact aH [] (.bool _) rfl (by rw[oR,h1_6];rfl)
 have F:=aI @oE h1_6;iterate 5 refine SF ?_
 refine T2 (hK _ _ _ ?_);clear hK K;refine aF (RT Tryz.results21 ?_);exact aH [] (.bool false) rfl (by rw[oR,h1_6];rfl)
theorem nF {α:Type}{f:α→CV}{Q:α→Prop}: ∀(l:List CV),(∀x∈l,∃y,x=f y∧Q y)→ ∃m:List α,l=m.map f∧ ∀y∈m,Q y
 |[],_=>⟨[],rfl,by simp⟩
 |x::l,h=>by
  obtain⟨y,rfl,hy⟩:=h x (by simp);obtain⟨m,rfl,hm⟩:=nF l (fun x hx=>h x (by simp[hx]));exact⟨y::m,rfl,fun z hz=>by rcases List.mem_cons.1 hz with rfl|hz;exact hy;exact hm z hz⟩
theorem bV2 {c:CV}(h:HasTy Tryz.prog 23 c): ∃L:List Int,c= .slc (L.map (.int .i64))∧(∀n∈L,(Lit.int .i64 n).wf=true)∧L.length≤maxLen:=by
 obtain⟨l,rfl,hl,hn⟩:=h.of_slc Tryz.underlying23;obtain⟨m,rfl,hm⟩:=nF (f:=CV.int .i64) (Q:=fun n=>(Lit.int .i64 n).wf=true) l (fun x hx=>(hl x hx).of_int Tryz.underlying3);exact⟨m,rfl,hm,by simpa using hn⟩
theorem bN5 {c:CV}(h:HasTy Tryz.prog 24 c): ∃L:List Bool,c= .slc (L.map bC)∧L.length≤maxLen:=by
 obtain⟨l,rfl,hl,hn⟩:=h.of_slc Tryz.underlying24;obtain⟨m,rfl,_⟩:=nF (f:=bC) (Q:=fun _=>True) l (fun x hx=>by obtain⟨b,rfl⟩:=(hl x hx).of_bool Tryz.underlying4;exact⟨b,rfl,trivial⟩);exact⟨m,rfl,by simpa using hn⟩
theorem own :ownKnob Tryz.prog.godebug=none:=by kernel_rfl
theorem kids :Kids Tryz.prog (· <Tryz.prog.types.size):=kids_rows (by kernel_rfl) (by kernel_rfl)
theorem aR4 : ∀t e,t<Tryz.prog.types.size→Tryz.prog.underlying t=some (.slice e)→0<Tryz.prog.cellsOf e:=slices_full_of Tryz.prog (by kernel_rfl)
def tp (L:List Int)(a:Nat):CV:= .agg [.slc (L.map (.int .i64)),.int .i64 a]
attribute [local simp] tp
theorem eJ (L:List Int)(a:Nat)(n:Int)(ha:a<2^40)(hn:n<2^62):aY4 Tryz.prog 36 83 (tp L a) [.int .i64 n] (fun u v'=> ∃(x:Int) (a':Nat),u= .int .i64 x∧v'=tp L a'∧a'≤a+1∧0≤x∧(n<1→x=0)∧(1≤n→x<n)):=by
 refine bR Tryz.func36 rfl (by kernel_rfl) (cZ _ _ _) (Nat.le_of_ble_eq_true rfl) ?_;refine R0 ?_;refine aC fun K hK=>?_;refine R0 ?_;refine aJ (b:=decide (n<1)) rfl (fun hb=>?_) (fun hb=>?_)
 · refine R0 ?_;refine aF (RT Tryz.results36 ?_);refine fJ [] (.int .i64 0) (tp L a) rfl rfl ?_ (by simp) ⟨0,a,rfl,rfl,by omega,by omega,fun _=>rfl,fun h=>by omega⟩;simp[HV.close,tp,CV.denil,CV.denilL,denilL_int,HV.norm,HV.toC]
 refine aK ?_;refine T0 (hK _ _ _ ?_);clear hK K;refine aC fun K hK=>Rg ?_;iterate 7 refine S0 ?_ (e:=fun _ h_=>by simp only[sH,↓sP,sA,tyS,simprocAttr,tp];exact AX h_)
 refine T2 (hK _ _ _ ?_);clear hK K;refine aC fun K hK=>?_;have key: ∀(v:Int) fr ob nx,Fits 1 fr ob (fin [(0,.ptr 0 0),(1,.c (.int .i64 n)),(5,.c (.int .i64 v))]) (fob [(0,.box 83 (.c (tp L a)))]) 300→K fr ob nx:=by
  intro v fr ob nx hf;refine hK _ _ _ (bK hf ?_);clear hf hK K;have hn1:1≤n:=by simp at hb;omega
  have e0:=Int.tmod_lt_of_pos v (b:=n) (by omega);have e1: -n<v.tmod n:=Int.lt_tmod_of_pos v (by omega);refine aC fun K hK=>Rg ?_;iterate 8 refine S0 ?_ (e:=fun _ h_=>by simp only[sH,↓sP,sA,tyS,simprocAttr,tp];exact AX h_)
  refine T2 (hK _ _ _ ?_);clear hK K;refine aC fun K hK=>Rg ?_;iterate 8 refine S0 ?_ (e:=fun _ h_=>by simp only[sH,↓sP,sA,tyS,simprocAttr,tp];exact AX h_)
  refine T2 (hK _ _ _ ?_);clear hK K;refine aF (RT Tryz.results36 ?_);have e2:IntKind.i64.wrap (v.tmod n+n)=v.tmod n+n:=IntWalk.i64_in _ (by omega);have e3:IntKind.i64.wrap ((a:Int)+1)=((a+1:Nat):Int):=IntWalk.i64_in _ (by omega);refine fJ [] (.int .i64 ((v.tmod n+n).tmod n)) (tp L (a+1)) (by rw[e2];rfl) rfl ?_ (by simp) ⟨_,a+1,rfl,rfl,by omega,Int.tmod_nonneg _ (by omega),fun h=>by omega,fun _=>Int.tmod_lt_of_pos _ (by omega)⟩;simp[HV.close,HV.closeL,tp,CV.denil,CV.denilL,denilL_int,HV.norm,HV.toC,HV.toCL,e3]
 refine aC fun K hK=>QR ?_;iterate 10 refine S0 ?_ (e:=fun _ h_=>by simp only[sH,↓sP,sA,tyS,simprocAttr,tp];exact AX h_)
 refine T2 (hK _ _ _ ?_);clear hK K;refine aJ (b:=decide ((a:Int)<L.length)) rfl (fun hb=>?_) (fun hb=>?_)
 ·
  refine QW ?_;simp only[sR,simprocAttr];iterate 11 refine S0 ?_ (e:=fun _ h_=>by simp only[sH,↓sP,sA,tyS,simprocAttr,tp,Int.natCast_nonneg,(by simpa using hb:(a:Int)<L.length),bN (show a<L.length by simpa using hb)];exact AX h_)
  refine T4 ?_;exact key (L[a]'(by simpa using hb)) _ _ _ (fF)
 refine aK (T3 ?_);exact key (IntKind.i64.wrap (IntKind.i64.wrap (↑a*7)+3)) _ _ _ (fF)
theorem bV3 (L:List Int)(a:Nat)(l:List aG)(ha:a<2^40)(hl:1≤l.length∧l.length<2^40):aY4 Tryz.prog 35 83 (tp L a) [.slc (l.map .str)] (fun u v'=> ∃(w:aG) (a':Nat),u= .str w∧w∈l∧v'=tp L a'∧a'≤a+1):=by
 refine bR Tryz.func35 rfl (by kernel_rfl) (cZ _ _ _) (Nat.le_of_ble_eq_true rfl) ?_;refine R0 ?_;refine aC fun K hK=>aM (by kernel_rfl) ?_;simp only[↓sP,sA,tyS,simprocAttr];refine bV (args:=[_]) (eJ L a l.length ha (by omega)) rfl (by simp) ⟨rfl,rfl,rfl,rfl⟩ ?_;rintro u v' ⟨x,a',rfl,rfl,h1,h2,h3,h4⟩;obtain⟨i,rfl⟩: ∃i:Nat,x=i:=⟨x.toNat,by omega⟩;have hlt:i<l.length:=by omega
 simp only[↓sP,sA,tyS,simprocAttr,Int.natCast_nonneg,Int.ofNat_lt,hlt,bN hlt];refine AX (hK _ _ _ ?_);clear hK K;refine aF (RT Tryz.results35 ?_);exact fJ [] (.str l[i]) (tp L a') rfl rfl (by simp[HV.close,HV.closeL,tp,CV.denil,CV.denilL,denilL_int,HV.norm,HV.toC,HV.toCL]) (by simp) ⟨_,a',rfl,List.getElem_mem _,rfl,h1⟩
end Go.Proofs.YtlldglbooaefhaaGreatDoor
