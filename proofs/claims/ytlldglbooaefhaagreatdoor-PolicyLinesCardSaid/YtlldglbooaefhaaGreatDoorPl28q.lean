/- Plain Lean: a valid policy, rule by rule (28.3). By an AI agent. -/
import Derived.Test.YtlldglbooaefhaaGreatDoorHzU1
import Derived.Test.YtlldglbooaefhaaGreatDoorHzTc
import Derived.Test.YtlldglbooaefhaaGreatDoorHlTlaw
import Derived.Test.YtlldglbooaefhaaGreatDoorHlZb
import Derived.Test.YtlldglbooaefhaaGreatDoorRows
import Derived.Test.YtlldglbooaefhaaGreatDoorPl03c
set_option linter.unusedSimpArgs false
set_option linter.unusedVariables false
set_option linter.defProp false
namespace Go.Proofs.YtlldglbooaefhaaGreatDoor
open Go Go.Hl Go.Pl
set_option maxRecDepth 10000
set_option maxHeartbeats 16000000
theorem cE1 (q:Rq)(hn:q.t.length<2^63):cG Tryz.prog 75 [q.cv] (fun v=>v= .bool (fB q)):=by
 refine FW Tryz.func75 ?_;refine R0 ?_;refine aB fun K hK=>?_;have key0: ∀(b:Bool) fr ob nx,b=inB q.n 1 32→Fits 0 fr ob (fin [(1,.ptr 0 0),(3,.c (.bool b))]) (fob [(0,.box 38 (.c q.cv))]) 100→K fr ob nx:=by
  rintro b fr ob nx rfl hf;refine hK _ _ _ (bH hf ?_);clear hf hK K;refine aB fun K hK=>?_;refine R0 ?_;refine aN ?_;refine aB fun K hK=>?_;have key: ∀(b:Bool) fr ob nx,b=(q.k==1||(q.k==3||q.k==5))→Fits 0 fr ob (fin [(1,.ptr 0 0),(3,.c (.bool (inB q.n 1 32))),(13,.c (.int .i64 q.k)),(14,.c (.bool b))]) (fob [(0,.box 38 (.c q.cv))]) 300→K fr ob nx:=by
   rintro b fr ob nx rfl hf;refine hK _ _ _ (bH hf ?_);clear hf hK K;refine aG (b:=_) rfl (fun hb=>?_) (fun hb=>?_)
   ·
    refine aB fun K hK=>Rg ?_;iterate 2 refine S0 ?_
    refine aD 18 rfl (fun h6_18=>?_) (fun h6_18=>?_)
    ·
     have F:=h6_18;iterate 5 refine SF ?_
     refine aD 22 rfl (fun h6_22=>?_) (fun h6_22=>?_)
     ·
      have F:=aI h6_18 h6_22;iterate 5 refine SF ?_
      refine T2 (hK _ _ _ ?_);clear hK K;refine aE (RT Tryz.results75 ?_);exact aH [] (.bool _) rfl (by rw[xX hb,h6_18,h6_22];rfl)
     have F:=aI h6_18 h6_22;iterate 5 refine SF ?_
     refine T2 (hK _ _ _ ?_);clear hK K;refine aE (RT Tryz.results75 ?_);exact aH [] (.bool _) rfl (by rw[xX hb,h6_18,h6_22];rfl)
    have F:=h6_18;iterate 10 refine SF ?_
    refine T2 (hK _ _ _ ?_);clear hK K;refine aE (RT Tryz.results75 ?_);exact aH [] (.bool _) rfl (by rw[xX hb,h6_18];rfl)
   have h1:=hb;refine R0 ?_;refine aG (b:=_) rfl (fun hb=>?_) (fun hb=>?_)
   ·
    refine aB fun K hK=>Rg ?_;iterate 2 refine S0 ?_
    refine aD 31 rfl (fun h8_31=>?_) (fun h8_31=>?_)
    ·
     have F:=h8_31;iterate 5 refine SF ?_
     refine aD 35 rfl (fun h8_35=>?_) (fun h8_35=>?_)
     ·
      have F:=aI h8_31 h8_35;iterate 5 refine SF ?_
      refine aD 40 rfl (fun h8_40=>?_) (fun h8_40=>?_)
      ·
       have F:=aI h8_31 (aI h8_35 h8_40);iterate 5 refine SF ?_
       refine T2 (hK _ _ _ ?_);clear hK K;refine aE (RT Tryz.results75 ?_);exact aH [] (.bool _) rfl (by rw[sD hb,h8_31,h8_35,h8_40];rfl)
      have F:=aI h8_31 (aI h8_35 h8_40);iterate 5 refine SF ?_
      refine T2 (hK _ _ _ ?_);clear hK K;refine aE (RT Tryz.results75 ?_);exact aH [] (.bool _) rfl (by rw[sD hb,h8_31,h8_35,h8_40];rfl)
     have F:=aI h8_31 h8_35;iterate 10 refine SF ?_
     refine T2 (hK _ _ _ ?_);clear hK K;refine aE (RT Tryz.results75 ?_);exact aH [] (.bool _) rfl (by rw[sD hb,h8_31,h8_35];rfl)
    have F:=h8_31;iterate 15 refine SF ?_
    refine T2 (hK _ _ _ ?_);clear hK K;refine aE (RT Tryz.results75 ?_);exact aH [] (.bool _) rfl (by rw[sD hb,h8_31];rfl)
   have h2:=hb;refine R0 ?_;refine aG (b:=_) rfl (fun hb=>?_) (fun hb=>?_)
   ·
    refine aB fun K hK=>Rg ?_;iterate 4 refine S0 ?_
    refine aD 51 rfl (fun h10_51=>?_) (fun h10_51=>?_)
    ·
     have F:=h10_51;iterate 5 refine SF ?_
     refine aD 55 rfl (fun h10_55=>?_) (fun h10_55=>?_)
     ·
      have F:=aI h10_51 h10_55;iterate 2 refine SF ?_
      refine aP (g:=some (57,true)) rfl rfl fun K' hK'=>T6 ?_;refine C1 (xH _ hn) ?_;rintro u rfl;refine AX (hK' _ _ ?_);clear hK' K';iterate 2 refine SF ?_
      refine T2 (hK _ _ _ ?_);clear hK K;refine aE (RT Tryz.results75 ?_);exact aH [] (.bool _) rfl (by rw[xY hb,h10_51,h10_55];rfl)
     have F:=aI h10_51 h10_55;iterate 5 refine SF ?_
     refine T2 (hK _ _ _ ?_);clear hK K;refine aE (RT Tryz.results75 ?_);exact aH [] (.bool _) rfl (by rw[xY hb,h10_51,h10_55];rfl)
    have F:=h10_51;iterate 10 refine SF ?_
    refine T2 (hK _ _ _ ?_);clear hK K;refine aE (RT Tryz.results75 ?_);exact aH [] (.bool _) rfl (by rw[xY hb,h10_51];rfl)
   have h3:=hb;refine R0 ?_;refine aG (b:=_) rfl (fun hb=>?_) (fun hb=>?_)
   ·
    refine aB fun K hK=>Rg ?_;iterate 4 refine S0 ?_
    refine aD 66 rfl (fun h12_66=>?_) (fun h12_66=>?_)
    ·
     have F:=h12_66;iterate 5 refine SF ?_
     refine aD 70 rfl (fun h12_70=>?_) (fun h12_70=>?_)
     ·
      have F:=aI h12_66 h12_70;iterate 5 refine SF ?_
      refine aD 75 rfl (fun h12_75=>?_) (fun h12_75=>?_)
      ·
       have F:=aI h12_66 (aI h12_70 h12_75);iterate 5 refine SF ?_
       refine T2 (hK _ _ _ ?_);clear hK K;refine aE (RT Tryz.results75 ?_);exact aH [] (.bool _) rfl (by rw[sF hb,h12_66,h12_70,h12_75];rfl)
      have F:=aI h12_66 (aI h12_70 h12_75);iterate 5 refine SF ?_
      refine T2 (hK _ _ _ ?_);clear hK K;refine aE (RT Tryz.results75 ?_);exact aH [] (.bool _) rfl (by rw[sF hb,h12_66,h12_70,h12_75];rfl)
     have F:=aI h12_66 h12_70;iterate 10 refine SF ?_
     refine T2 (hK _ _ _ ?_);clear hK K;refine aE (RT Tryz.results75 ?_);exact aH [] (.bool _) rfl (by rw[sF hb,h12_66,h12_70];rfl)
    have F:=h12_66;iterate 15 refine SF ?_
    refine T2 (hK _ _ _ ?_);clear hK K;refine aE (RT Tryz.results75 ?_);exact aH [] (.bool _) rfl (by rw[sF hb,h12_66];rfl)
   have h4:=hb;refine R0 ?_;refine aG (b:=_) rfl (fun hb=>?_) (fun hb=>?_)
   ·
    refine aB fun K hK=>Rg ?_;iterate 2 refine S0 ?_
    refine HS rfl rfl fun K' hK'=>T5 ?_;refine C1 (xG _) ?_;rintro u rfl;refine AX (hK' _ _ ?_);clear hK' K';refine S0 ?_;refine aD 86 rfl (fun h14_86=>?_) (fun h14_86=>?_)
    ·
     have F:=h14_86;iterate 5 refine SF ?_
     refine aD 90 rfl (fun h14_90=>?_) (fun h14_90=>?_)
     ·
      have F:=aI h14_86 h14_90;iterate 5 refine SF ?_
      refine T2 (hK _ _ _ ?_);clear hK K;refine aE (RT Tryz.results75 ?_);exact aH [] (.bool _) rfl (by rw[xZ hb,h14_86,h14_90];rfl)
     have F:=aI h14_86 h14_90;iterate 5 refine SF ?_
     refine T2 (hK _ _ _ ?_);clear hK K;refine aE (RT Tryz.results75 ?_);exact aH [] (.bool _) rfl (by rw[xZ hb,h14_86,h14_90];rfl)
    have F:=h14_86;iterate 10 refine SF ?_
    refine T2 (hK _ _ _ ?_);clear hK K;refine aE (RT Tryz.results75 ?_);exact aH [] (.bool _) rfl (by rw[xZ hb,h14_86];rfl)
   have h5:=hb;refine R0 ?_;refine aG (b:=_) rfl (fun hb=>?_) (fun hb=>?_)
   ·
    refine aB fun K hK=>Rg ?_;iterate 4 refine S0 ?_
    refine aD 101 rfl (fun h16_101=>?_) (fun h16_101=>?_)
    ·
     have F:=h16_101;iterate 5 refine SF ?_
     refine aD 105 rfl (fun h16_105=>?_) (fun h16_105=>?_)
     ·
      have F:=aI h16_101 h16_105;iterate 5 refine SF ?_
      refine T2 (hK _ _ _ ?_);clear hK K;refine aE (RT Tryz.results75 ?_);exact aH [] (.bool _) rfl (by rw[yA hb,h16_101,h16_105];rfl)
     have F:=aI h16_101 h16_105;iterate 5 refine SF ?_
     refine T2 (hK _ _ _ ?_);clear hK K;refine aE (RT Tryz.results75 ?_);exact aH [] (.bool _) rfl (by rw[yA hb,h16_101,h16_105];rfl)
    have F:=h16_101;iterate 10 refine SF ?_
    refine T2 (hK _ _ _ ?_);clear hK K;refine aE (RT Tryz.results75 ?_);exact aH [] (.bool _) rfl (by rw[yA hb,h16_101];rfl)
   refine aJ ?_;refine T0 (hK _ _ _ ?_);clear hK K;refine R0 ?_;refine aE (RT Tryz.results75 ?_);exact aH [] (.bool false) rfl (by rw[bD7 h1 (by simpa using h2) (by simpa using h3) (by simpa using h4) (by simpa using h5) (by simpa using hb)])
  refine R0 ?_;refine aG (b:=_) rfl (fun hb=>?_) (fun hb=>?_)
  · refine aJ (T3 ?_);exact key (q.k==1) _ _ _ (by rw[hb];rfl) (fF)
  have h1:=hb;refine R0 ?_;refine aG (b:=_) rfl (fun hb=>?_) (fun hb=>?_)
  · refine aJ (T3 ?_);exact key (q.k==3) _ _ _ (by rw[h1,hb];rfl) (fF)
  have h1':=hb;refine aK (by kernel_rfl) ?_;simp only[↓sP,sA,tyS,simprocAttr];exact key (q.k==5) _ _ _ (by rw[h1,h1'];rfl) (fF)
 refine Rg ?_;iterate 4 refine S0 ?_
 refine aD 6 rfl (fun h1_6=>?_) (fun h1_6=>?_)
 ·
  have F:=h1_6;iterate 5 refine SF ?_
  refine aD 10 rfl (fun h1_10=>?_) (fun h1_10=>?_)
  · simp only[h1_10];refine T4 ?_;exact key0 true _ _ _ (by simp only[inB,h1_6,h1_10,Bool.true_and,Bool.false_and]) (fF)
  simp only[h1_10];refine T4 ?_;exact key0 false _ _ _ (by simp only[inB,h1_6,h1_10,Bool.true_and,Bool.false_and]) (fF)
 have F:=h1_6;iterate 5 refine SF ?_
 refine T4 ?_;exact key0 false _ _ _ (by simp only[inB,h1_6,Bool.true_and,Bool.false_and]) (fF)
theorem bV9 (n:Nd)(hn:n.q.t.length<2^63):cG Tryz.prog 43 [n.cv] (fun v=>v= .bool (oB n)):=by
 refine FW Tryz.func43 ?_;refine R0 ?_;refine aB fun K hK=>Rg ?_;have F:=@aH5;iterate 5 refine SF ?_
 refine T2 (hK _ _ _ ?_);clear hK K;refine aB fun K hK=>?_;refine R0 ?_;refine aN ?_;refine R0 ?_;refine aG (b:=_) rfl (fun hb=>?_) (fun hb=>?_)
 ·
  refine aB fun K hK=>Rg ?_;iterate 4 refine S0 ?_
  refine aD 14 rfl (fun h4_14=>?_) (fun h4_14=>?_)
  ·
   have F:=h4_14;iterate 5 refine SF ?_
   refine aD 18 rfl (fun h4_18=>?_) (fun h4_18=>?_)
   ·
    have F:=aI h4_14 h4_18;iterate 2 refine SF ?_
    refine aP (g:=some (20,true)) rfl rfl fun K' hK'=>T6 ?_;refine C1 (cE1 n.q hn) ?_;rintro u rfl;refine AX (hK' _ _ ?_);clear hK' K';iterate 2 refine SF ?_
    refine T2 (hK _ _ _ ?_);clear hK K;refine aE (RT Tryz.results43 ?_);exact aH [] (.bool _) rfl (by rw[qG (by simpa using hb),h4_14,h4_18];rfl)
   have F:=aI h4_14 h4_18;iterate 5 refine SF ?_
   refine T2 (hK _ _ _ ?_);clear hK K;refine aE (RT Tryz.results43 ?_);exact aH [] (.bool _) rfl (by rw[qG (by simpa using hb),h4_14,h4_18];rfl)
  have F:=h4_14;iterate 10 refine SF ?_
  refine T2 (hK _ _ _ ?_);clear hK K;refine aE (RT Tryz.results43 ?_);exact aH [] (.bool _) rfl (by rw[qG (by simpa using hb),h4_14];rfl)
 have h1:n.k≠1:=by simpa using hb
 refine aB fun K hK=>?_;have key2: ∀(b:Bool) fr ob nx,b=(n.k==2||n.k==3)→Fits 0 fr ob (fin [(1,.ptr 0 0),(3,.c (.bool (gF n.q rq0))),(9,.c (.int .i64 n.k)),(25,.c (.bool b))]) (fob [(0,.box 40 (.c n.cv))]) 300→K fr ob nx:=by
  rintro b fr ob nx rfl hf;refine hK _ _ _ (bH hf ?_);clear hf hK K;refine aG (b:=_) rfl (fun hb=>?_) (fun hb=>?_)
  ·
   refine aB fun K hK=>Rg ?_;iterate 4 refine S0 ?_
   refine aD 30 rfl (fun h7_30=>?_) (fun h7_30=>?_)
   ·
    have F:=h7_30;iterate 5 refine SF ?_
    refine aD 34 rfl (fun h7_34=>?_) (fun h7_34=>?_)
    ·
     have F:=aI h7_30 h7_34;iterate 3 refine SF ?_
     refine T2 (hK _ _ _ ?_);clear hK K;refine aE (RT Tryz.results43 ?_);exact aH [] (.bool _) rfl (by rw[tQ hb,h7_30,h7_34];rfl)
    have F:=aI h7_30 h7_34;iterate 3 refine SF ?_
    refine T2 (hK _ _ _ ?_);clear hK K;refine aE (RT Tryz.results43 ?_);exact aH [] (.bool _) rfl (by rw[tQ hb,h7_30,h7_34];rfl)
   have F:=h7_30;iterate 8 refine SF ?_
   refine T2 (hK _ _ _ ?_);clear hK K;refine aE (RT Tryz.results43 ?_);exact aH [] (.bool _) rfl (by rw[tQ hb,h7_30];rfl)
  have h2:=hb;refine R0 ?_;refine aG (b:=_) rfl (fun hb=>?_) (fun hb=>?_)
  ·
   refine aB fun K hK=>Rg ?_;iterate 4 refine S0 ?_
   refine aD 43 rfl (fun h9_43=>?_) (fun h9_43=>?_)
   ·
    have F:=h9_43;iterate 5 refine SF ?_
    refine aD 47 rfl (fun h9_47=>?_) (fun h9_47=>?_)
    ·
     have F:=aI h9_43 h9_47;iterate 7 refine SF ?_
     refine aD 54 rfl (fun h9_54=>?_) (fun h9_54=>?_)
     ·
      have F:=aI h9_43 (aI h9_47 h9_54);iterate 3 refine SF ?_
      refine T2 (hK _ _ _ ?_);clear hK K;refine aE (RT Tryz.results43 ?_);exact aH [] (.bool _) rfl (by rw[mR (by simpa using hb),h9_43,h9_47,h9_54];rfl)
     have F:=aI h9_43 (aI h9_47 h9_54);iterate 3 refine SF ?_
     refine T2 (hK _ _ _ ?_);clear hK K;refine aE (RT Tryz.results43 ?_);exact aH [] (.bool _) rfl (by rw[mR (by simpa using hb),h9_43,h9_47,h9_54];rfl)
    have F:=aI h9_43 h9_47;iterate 10 refine SF ?_
    refine T2 (hK _ _ _ ?_);clear hK K;refine aE (RT Tryz.results43 ?_);exact aH [] (.bool _) rfl (by rw[mR (by simpa using hb),h9_43,h9_47];rfl)
   have F:=h9_43;iterate 15 refine SF ?_
   refine T2 (hK _ _ _ ?_);clear hK K;refine aE (RT Tryz.results43 ?_);exact aH [] (.bool _) rfl (by rw[mR (by simpa using hb),h9_43];rfl)
  refine aJ ?_;refine T0 (hK _ _ _ ?_);clear hK K;refine R0 ?_;refine aE (RT Tryz.results43 ?_);exact aH [] (.bool _) rfl (by rw[bV4 h1 h2 (by simpa using hb)])
 refine R0 ?_;refine aG (b:=_) rfl (fun hb=>?_) (fun hb=>?_)
 · refine aJ (T3 ?_);exact key2 (n.k==2) _ _ _ (by rw[hb];rfl) (aL (by omega) (by simp[aY,fin_at,finA_at,upd_at,HV.men,HV.menL,HV.norm,HV.toC,HV.toCL,rq0]) (by simp[aZ,fob_at,upd_at,none0_at,bV,HO.men,HV.men,HV.menL,HV.norm,HV.toC,HV.toCL,rq0]))
 have h2:=hb;refine aK (by kernel_rfl) ?_;simp only[↓sP,sA,tyS,simprocAttr];exact key2 (n.k==3) _ _ _ (by rw[hb];rfl) (aL (by omega) (by simp[aY,fin_at,finA_at,upd_at,HV.men,HV.menL,HV.norm,HV.toC,HV.toCL,rq0]) (by simp[aZ,fob_at,upd_at,none0_at,bV,HO.men,HV.men,HV.menL,HV.norm,HV.toC,HV.toCL,rq0]))
theorem cQ (n:Int)(h: -4611686018427387904≤n∧n≤4611686018427387904):IntKind.i64.wrap n=n:=IntWalk.i64_in _ (by omega)
theorem vR (l:List Nd)(hn: ∀n∈l,n.q.t.length<2^63):cG Tryz.prog 13 [.slc (l.map Nd.cv)] (fun v=>v= .bool (dV l)):=by
 refine FW Tryz.func13 ?_;refine R0 ?_;refine aB fun K hK=>?_;refine aB fun K hK=>Rg ?_;iterate 4 refine S0 ?_
 refine aD 9 rfl (fun h1_9=>?_) (fun h1_9=>?_)
 ·
  have F:=h1_9;iterate 4 refine SF ?_
  refine T2 (hK _ _ _ ?_);clear hK K;refine CT rfl ?_;refine R0 ?_;refine aE (RT Tryz.results13 ?_);exact aH [] (.bool false) rfl (by rw[kW (.inl (by simp only[decide_eq_true_eq]at h1_9;omega))])
 have F:=h1_9;iterate 4 refine SF ?_
 refine aD 13 rfl (fun h1_13=>?_) (fun h1_13=>?_)
 · simp only[h1_13];refine T2 (hK _ _ _ ?_);clear hK K;refine CT rfl ?_;refine R0 ?_;refine aE (RT Tryz.results13 ?_);exact aH [] (.bool false) rfl (by rw[kW (.inr (by simp only[decide_eq_true_eq]at h1_13;omega))])
 simp only[h1_13];refine T2 (hK _ _ _ ?_);clear hK K;refine CF rfl ?_;refine aJ ?_;refine T0 (hK _ _ _ ?_);clear hK K;have hl1:1≤l.length:=by simp only[decide_eq_false_iff_not]at h1_9;omega
 have hl2:l.length≤60:=by simp only[decide_eq_false_iff_not]at h1_13;omega
 clear h1_9 h1_13;refine R0 ?_;refine aB fun K hK=>?_;refine R0 ?_;refine aN ?_;refine bS (α:={y:Nat×Int×Int//ScSt l y.1 y.2.1 y.2.2}) (fun y=>(fin [(3,.c (.int .i64 y.1.2.1)),(4,.c (.int .i64 y.1.2.2)),(15,.c (.slc (l.map Nd.cv))),(16,.c (.int .i64 l.length)),(17,.c (.int .i64 y.1.1))],fob [])) 200 (fun y=>l.length-y.1.1) ⟨(0,1,0),ScSt.init l⟩ (fF) ?_;rintro⟨⟨i,m,v⟩,hst⟩;simp only at hst;have hi:=hst.le;have hm0:=hst.m0;have hm1:=hst.m1;have hv0:=hst.v0;have hv1:=hst.v1;refine R0 ?_;refine aB fun K hK=>?_;refine aG (b:=decide ((i:Int)<l.length)) rfl (fun hb=>?_) (fun hb=>?_)
 ·
  have hlt:i<l.length:=by simpa using hb
  clear hb;refine aJ ?_;refine T0 (hK _ _ _ ?_);clear hK K;refine aB fun K hK=>?_;refine aN ?_;refine aB fun K hK=>Rg ?_;have F:=aI @Int.natCast_nonneg (aI @Int.ofNat_lt (aI hlt (nM hlt)));iterate 4 refine SF ?_
  refine T2 (hK _ _ _ ?_);clear hK K;refine aB fun K hK=>?_;refine aB fun K hK=>Rg ?_;iterate 3 refine S0 ?_
  refine aD 22 rfl (fun h7_22=>?_) (fun h7_22=>?_)
  ·
   have F:=h7_22;iterate 4 refine SF ?_
   refine T2 (hK _ _ _ ?_);clear hK K;refine CT rfl ?_;refine R0 ?_;refine aE (RT Tryz.results13 ?_);exact aH [] (.bool false) rfl (by rw[hst.stop hlt (.inl (by simpa using h7_22))])
  have F:=h7_22;refine SF ?_;refine aP (g:=some (23,false)) rfl rfl fun K' hK'=>T6 ?_;refine C1 (bV8 l[i] (hn _ (List.getElem_mem hlt))) ?_;rintro u rfl;refine AX (hK' _ _ ?_);clear hK' K';iterate 2 refine SF ?_
  refine aD 25 rfl (fun h7_25=>?_) (fun h7_25=>?_)
  ·
   simp only[h7_25];refine T2 (hK _ _ _ ?_);clear hK K;refine CF rfl ?_;refine aJ ?_;refine T0 (hK _ _ _ ?_);clear hK K;have hnb:cJ l[i]=true:=by simpa using h7_25
   have hm:m≠0:=by simpa using h7_22
   obtain⟨c1,c2,c3,c4⟩:=eN hnb;have hnx:=hst.next hlt hm hnb;clear h7_22 h7_25;refine aB fun K hK=>Rg ?_;iterate 6 refine S0 ?_ (e:=fun _ h_=>by simp only[sH,↓sP,sA,tyS,simprocAttr,cQ (l[i].c-1) (by omega),cQ (m+(l[i].c-1)) (by omega)];exact AX h_)
   refine T2 (hK _ _ _ ?_);clear hK K;refine R0 ?_;refine aG (b:=_) rfl (fun hb=>?_) (fun hb=>?_)
   · refine aK (by kernel_rfl) ?_;simp only[↓sP,sA,tyS,simprocAttr,cQ (v+1) (by omega)];refine AX (hK _ _ _ ?_);clear hK K;refine aK (by kernel_rfl) ?_;simp only[↓sP,sA,tyS,simprocAttr,cQ ((i:Int)+1) (by omega)];rw[if_pos (by simpa using hb)]at hnx;refine⟨⟨(i+1,_,_),hnx⟩,fF,?_⟩;show l.length-(i+1)<l.length-i;omega
   refine aJ ?_;refine T0 (hK _ _ _ ?_);clear hK K;refine aK (by kernel_rfl) ?_;simp only[↓sP,sA,tyS,simprocAttr,cQ ((i:Int)+1) (by omega)];rw[if_neg (by simpa using hb)]at hnx;refine⟨⟨(i+1,_,_),hnx⟩,fF,?_⟩;show l.length-(i+1)<l.length-i;omega
  simp only[h7_25];refine T2 (hK _ _ _ ?_);clear hK K;refine CT rfl ?_;refine R0 ?_;refine aE (RT Tryz.results13 ?_);exact aH [] (.bool false) rfl (by rw[hst.stop hlt (.inr (by simpa using h7_25))])
 refine bI (T3 ?_);clear hK K;refine AX (hK _ _ _ ?_);clear hK K;have hei:i=l.length:=by simp only[decide_eq_false_iff_not]at hb;omega
 subst hei;have hf:=hst.fin hl1 hl2;clear hb;refine aB fun K hK=>Rg ?_;iterate 3 refine S0 ?_
 refine aD 40 rfl (fun h13_40=>?_) (fun h13_40=>?_)
 ·
  have F:=h13_40;iterate 4 refine SF ?_
  refine T2 (hK _ _ _ ?_);clear hK K;refine aE (RT Tryz.results13 ?_);exact aH [] (.bool _) rfl (by rw[hf,h13_40,Bool.true_and])
 have F:=h13_40;iterate 4 refine SF ?_
 refine T2 (hK _ _ _ ?_);clear hK K;refine aE (RT Tryz.results13 ?_);exact aH [] (.bool false) rfl (by rw[hf,h13_40,Bool.false_and])
theorem bW0 (l:List Nd)(hn: ∀n∈l,n.q.t.length<2^63):cG Tryz.prog 14 [.slc (l.map Nd.cv)] (fun v=>v= .bool (dV l)):=by
 refine FW Tryz.func14 ?_;refine R0 ?_;refine aB fun K hK=>?_;refine aB fun K hK=>Rg ?_;iterate 4 refine S0 ?_
 refine aD 8 rfl (fun h1_8=>?_) (fun h1_8=>?_)
 ·
  have F:=h1_8;iterate 4 refine SF ?_
  refine T2 (hK _ _ _ ?_);clear hK K;refine CT rfl ?_;refine R0 ?_;refine aE (RT Tryz.results14 ?_);exact aH [] (.bool false) rfl (by rw[kW (.inl (by simp only[decide_eq_true_eq]at h1_8;omega))])
 have F:=h1_8;iterate 4 refine SF ?_
 refine aD 12 rfl (fun h1_12=>?_) (fun h1_12=>?_)
 · simp only[h1_12];refine T2 (hK _ _ _ ?_);clear hK K;refine CT rfl ?_;refine R0 ?_;refine aE (RT Tryz.results14 ?_);exact aH [] (.bool false) rfl (by rw[kW (.inr (by simp only[decide_eq_true_eq]at h1_12;omega))])
 simp only[h1_12];refine T2 (hK _ _ _ ?_);clear hK K;refine CF rfl ?_;refine aJ ?_;refine T0 (hK _ _ _ ?_);clear hK K;have hl1:1≤l.length:=by simp only[decide_eq_false_iff_not]at h1_8;omega
 have hl2:l.length≤60:=by simp only[decide_eq_false_iff_not]at h1_12;omega
 clear h1_8 h1_12;refine R0 ?_;refine aB fun K hK=>?_;refine R0 ?_;refine aN ?_;refine bS (α:={y:Nat×Int×Int//ScSt l y.1 y.2.1 y.2.2}) (fun y=>(fin [(0,.c (.slc (l.map Nd.cv))),(3,.c (.int .i64 y.1.2.1)),(4,.c (.int .i64 y.1.2.2)),(5,.c (.int .i64 y.1.1))],fob [])) 200 (fun y=>l.length-y.1.1) ⟨(0,1,0),ScSt.init l⟩ (fF) ?_;rintro⟨⟨i,m,v⟩,hst⟩;simp only at hst;have hi:=hst.le;have hm0:=hst.m0;have hm1:=hst.m1;have hv0:=hst.v0;have hv1:=hst.v1;refine aB fun K hK=>?_;refine aB fun K hK=>Rg ?_;iterate 4 refine S0 ?_
 refine T2 (hK _ _ _ ?_);clear hK K;refine aG (b:=decide ((i:Int)<l.length)) rfl (fun hb=>?_) (fun hb=>?_)
 ·
  have hlt:i<l.length:=by simpa using hb
  clear hb;refine aJ ?_;refine T0 (hK _ _ _ ?_);clear hK K;refine aB fun K hK=>?_;refine aN ?_;refine aB fun K hK=>?_;refine aB fun K hK=>Rg ?_;have F:=aI @Int.natCast_nonneg (aI @Int.ofNat_lt (aI hlt (nM hlt)));iterate 3 refine SF ?_
  refine aD 21 rfl (fun h7_21=>?_) (fun h7_21=>?_)
  ·
   have F:=aI @Int.natCast_nonneg (aI @Int.ofNat_lt (aI hlt (aI (nM hlt) h7_21)));iterate 15 refine SF ?_
   refine T2 (hK _ _ _ ?_);clear hK K;refine CT rfl ?_;refine R0 ?_;refine aE (RT Tryz.results14 ?_);exact aH [] (.bool false) rfl (by rw[hst.stop hlt (.inl (by simpa using h7_21))])
  have F:=aI @Int.natCast_nonneg (aI @Int.ofNat_lt (aI hlt (aI (nM hlt) h7_21)));iterate 4 refine SF ?_
  refine aP (g:=some (22,false)) rfl rfl fun K' hK'=>T6 ?_;refine C1 (bV9 l[i] (hn _ (List.getElem_mem hlt))) ?_;rintro u rfl;refine AX (hK' _ _ ?_);clear hK' K';iterate 3 refine SF ?_
  refine aD 27 rfl (fun h7_27=>?_) (fun h7_27=>?_)
  ·
   have F:=aI @Int.natCast_nonneg (aI @Int.ofNat_lt (aI hlt (aI (nM hlt) (aI h7_21 h7_27))));iterate 7 refine SF ?_
   refine aD 36 rfl (fun h7_36=>?_) (fun h7_36=>?_)
   · simp only[h7_36];refine T2 (hK _ _ _ ?_);clear hK K;refine CT rfl ?_;refine R0 ?_;refine aE (RT Tryz.results14 ?_);exact aH [] (.bool false) rfl (by rw[hst.stop hlt (.inr (by rw[aH4,h7_27,h7_36];rfl))])
   simp only[h7_36];refine T2 (hK _ _ _ ?_);clear hK K;refine CF rfl ?_;refine aJ ?_;refine T0 (hK _ _ _ ?_);clear hK K;have hnb:cJ l[i]=true:=by rw[aH4,h7_27,h7_36];rfl
   have hm:m≠0:=by simpa using h7_21
   obtain⟨c1,c2,c3,c4⟩:=eN hnb;have hnx:=hst.next hlt hm hnb;clear h7_21 h7_27 h7_36;refine aB fun K hK=>Rg ?_;iterate 9 refine S0 ?_ (e:=fun _ h_=>by simp only[sH,↓sP,sA,tyS,simprocAttr,Int.natCast_nonneg,Int.ofNat_lt,hlt,bR hlt,cQ (l[i].c-1) (by omega),cQ (m+(l[i].c-1)) (by omega)];exact AX h_)
   refine T2 (hK _ _ _ ?_);clear hK K;refine aB fun K hK=>Rg ?_;have F:=aI @Int.natCast_nonneg (aI @Int.ofNat_lt (aI hlt (nM hlt)));iterate 6 refine SF ?_
   refine T2 (hK _ _ _ ?_);clear hK K;refine aG (b:=_) rfl (fun hb=>?_) (fun hb=>?_)
   · refine aK (by kernel_rfl) ?_;simp only[↓sP,sA,tyS,simprocAttr,cQ (v+1) (by omega)];refine AX (hK _ _ _ ?_);clear hK K;refine aK (by kernel_rfl) ?_;simp only[↓sP,sA,tyS,simprocAttr,cQ ((i:Int)+1) (by omega)];rw[if_pos (by simpa using hb)]at hnx;refine⟨⟨(i+1,_,_),hnx⟩,fF,?_⟩;show l.length-(i+1)<l.length-i;omega
   refine aJ ?_;refine T0 (hK _ _ _ ?_);clear hK K;refine aK (by kernel_rfl) ?_;simp only[↓sP,sA,tyS,simprocAttr,cQ ((i:Int)+1) (by omega)];rw[if_neg (by simpa using hb)]at hnx;refine⟨⟨(i+1,_,_),hnx⟩,fF,?_⟩;show l.length-(i+1)<l.length-i;omega
  have F:=aI @Int.natCast_nonneg (aI @Int.ofNat_lt (aI hlt (aI (nM hlt) (aI h7_21 h7_27))));iterate 7 refine SF ?_
  refine T2 (hK _ _ _ ?_);clear hK K;refine CT rfl ?_;refine R0 ?_;refine aE (RT Tryz.results14 ?_);exact aH [] (.bool false) rfl (by rw[hst.stop hlt (.inr (by rw[aH4,h7_27];rfl))])
 refine bI (T3 ?_);clear hK K;refine AX (hK _ _ _ ?_);clear hK K;have hei:i=l.length:=by simp only[decide_eq_false_iff_not]at hb;omega
 subst hei;have hf:=hst.fin hl1 hl2;clear hb;refine aB fun K hK=>Rg ?_;iterate 3 refine S0 ?_
 refine aD 55 rfl (fun h12_55=>?_) (fun h12_55=>?_)
 ·
  have F:=h12_55;iterate 4 refine SF ?_
  refine T2 (hK _ _ _ ?_);clear hK K;refine aE (RT Tryz.results14 ?_);exact aH [] (.bool _) rfl (by rw[hf,h12_55,Bool.true_and])
 have F:=h12_55;iterate 4 refine SF ?_
 refine T2 (hK _ _ _ ?_);clear hK K;refine aE (RT Tryz.results14 ?_);exact aH [] (.bool false) rfl (by rw[hf,h12_55,Bool.false_and])
def iC (n:Nat):CV:= .int .i64 n
theorem aC7 (l:List Nat):CV.denilL (l.map iC)=l.map iC:=cT (fun _=>rfl) l
theorem bW1 (l:List Nd)(ht:IsTree l)(i:Nat)(hi:i<l.length):cG Tryz.prog 44 [.slc (l.map Nd.cv),.int .i64 i] (fun v=>v= .int .i64 (aft l i:Nat)):=by
 have hl:=ht.len;refine FW Tryz.func44 ?_;refine R0 ?_;refine aB fun K hK=>?_;refine R0 ?_;refine aN ?_;refine bS (α:={y:Nat×Nat//AftSt l i y.1 y.2∧y.1≤1+60*y.2}) (fun y=>(fin [(0,.c (.slc (l.map Nd.cv))),(1,.c (.int .i64 y.1.2)),(5,.c (.int .i64 y.1.1))],fob [])) 100 (fun y=>l.length-y.1.2) ⟨(1,i),⟨Nat.le_of_lt hi,rfl⟩,by omega⟩ (fF) ?_;rintro⟨⟨m,p⟩,hst,hm⟩;simp only at hst hm;have hp:=hst.1;refine aB fun K hK=>?_;refine R0 ?_;refine aG (b:=decide ((0:Int)<(m:Int))) rfl (fun hb=>?_) (fun hb=>?_)
 ·
  have hm1:0<m:=by simpa using hb
  have hpl:=hst.lt ht hi hm1;obtain⟨c1,c2,_,_⟩:=eN (ht.node _ (List.getElem_mem hpl));obtain⟨m',rfl⟩: ∃m',m=m'+1:=⟨m-1,by omega⟩;have hnx:=hst.next hpl;have hw1:IntKind.i64.wrap (((m'+1:Nat):Int)+(l[p].c-1))=((m'+l[p].c.toNat:Nat):Int):=by rw[cQ _ (by omega)];omega
  have hw2:IntKind.i64.wrap ((p:Int)+1)=((p+1:Nat):Int):=by rw[cQ _ (by omega)];rfl
  clear hb;refine aJ ?_;refine T0 (hK _ _ _ ?_);clear hK K;refine aB fun K hK=>?_;refine aN ?_;refine Rg ?_;iterate 9 refine S0 ?_ (e:=fun _ h_=>by simp only[sH,↓sP,sA,tyS,simprocAttr,Int.natCast_nonneg,Int.ofNat_lt,hpl,bR hpl,cQ (l[p].c-1) (by omega),hw1];exact AX h_)
  refine T2 (hK _ _ _ ?_);clear hK K;refine aK (by kernel_rfl) ?_;refine TQ hw2 ?_;refine⟨⟨(m'+l[p].c.toNat,p+1),hnx,by simp only;omega⟩,fF,?_⟩;show l.length-(p+1)<l.length-p;omega
 refine bI (T3 ?_);clear hK K;refine AX (hK _ _ _ ?_);clear hK K;refine R0 ?_;refine aE (RT Tryz.results44 ?_);have hm0:m=0:=by simpa using hb
 subst hm0;exact aH [] (.int .i64 p) rfl (by rw[hst.fin])
theorem aR6 (l:List Nd)(hn: ∀n∈l,n.q.t.length<2^63)(i:Int):cG Tryz.prog 16 [.slc (l.map Nd.cv),.int .i64 i] (fun v=>v= .slc ((tL l i).map iC)):=by
 refine FW Tryz.func16 ?_;refine R0 ?_;refine aB fun K hK=>?_;refine aB fun K hK=>Rg ?_;refine S0 ?_;refine HS rfl rfl fun K' hK'=>T5 ?_;refine C1 (vR l hn) ?_;rintro u rfl;refine AX (hK' _ _ ?_);clear hK' K';iterate 2 refine S0 ?_
 refine aD 8 rfl (fun h1_8=>?_) (fun h1_8=>?_)
 ·
  have F:=h1_8;iterate 4 refine SF ?_
  refine aD 12 rfl (fun h1_12=>?_) (fun h1_12=>?_)
  ·
   have F:=aI h1_8 h1_12;iterate 5 refine SF ?_
   refine T2 (hK _ _ _ ?_);clear hK K;refine CT rfl ?_;refine R0 ?_;refine aE (RT Tryz.results16 ?_);exact aH [] (.slc []) rfl (by rw[qH (.inr (.inl (by simpa using h1_12)))];rfl)
  have F:=aI h1_8 h1_12;iterate 5 refine SF ?_
  refine aD 18 rfl (fun h1_18=>?_) (fun h1_18=>?_)
  · simp only[h1_18];refine T2 (hK _ _ _ ?_);clear hK K;refine CT rfl ?_;refine R0 ?_;refine aE (RT Tryz.results16 ?_);exact aH [] (.slc []) rfl (by rw[qH (.inr (.inr (by simpa using h1_18)))];rfl)
  simp only[h1_18];refine T2 (hK _ _ _ ?_);clear hK K;refine CF rfl ?_;refine aJ ?_;refine T0 (hK _ _ _ ?_);clear hK K;obtain⟨j,rfl⟩: ∃j:Nat,i=j:=⟨i.toNat,by simp at h1_12;omega⟩;have hj:j<l.length:=by simp at h1_18;omega
  have ht:=lM h1_8;have hcv:=bK8 h1_8 hj;have hl:=ht.len;obtain⟨c1,c2,_,_⟩:=eN (ht.node _ (List.getElem_mem hj));have hw2:IntKind.i64.wrap ((j:Int)+1)=((j+1:Nat):Int):=by rw[cQ _ (by omega)];rfl
  clear h1_8 h1_12 h1_18;refine R0 ?_;refine aB fun K hK=>?_;have F:=hw2;refine RF ?_;refine aN ?_;refine kC 5 0 3 1 rfl rfl rfl rfl ?_;refine bS (α:={k:Nat//k≤l[j].c.toNat}) (fun k=>(fin [(0,.c (.slc (l.map Nd.cv))),(1,.c (.int .i64 j)),(5,.own 72 k.1),(6,.c (.int .i64 (eV l k.1 (j+1):Nat)))],fob [(72,.row 3 1 ((kT l k.1 (j+1)).map iC))])) 200 (fun k=>l[j].c.toNat-k.1) ⟨0,by omega⟩ (aL (by omega) (by simp[aY,fin_at,finA_at,upd_at,HV.men,HV.menL,HV.norm,HV.toC,HV.toCL,kT,eV]) (by simp[aZ,fob_at,upd_at,none0_at,bV,HO.men,HV.men,HV.menL,HV.norm,HV.toC,HV.toCL,kT,eV])) ?_;rintro⟨k,hk⟩;have hkl:=aB1 l k (j+1);refine aB fun K hK=>?_;refine aB fun K hK=>Rg ?_;have F:=aI @Int.natCast_nonneg (aI @Int.ofNat_lt (aI hj (aI (nM hj) hkl)));iterate 8 refine SF ?_
  refine T2 (hK _ _ _ ?_);clear hK K;refine aG (b:=decide ((k:Int)<l[j].c)) rfl (fun hb=>?_) (fun hb=>?_)
  ·
   have hkc:k<l[j].c.toNat:=by simp only[decide_eq_true_eq]at hb;omega
   have hkp:=nV ht hj hkc;have e:(kT l (k+1) (j+1)).map iC=(kT l k (j+1)).map iC++[CV.int .i64 (eV l k (j+1):Nat)]:=by rw[xK,List.map_append];rfl
   refine aJ ?_;refine T0 (hK _ _ _ ?_);clear hK K;refine aB fun K hK=>?_;refine aN ?_;refine Rg ?_;have F:=hkl;iterate 5 refine SF ?_
   refine T2 (hK _ _ _ ?_);clear hK K;refine Rg ?_;iterate 2 refine S0 ?_
   refine HS rfl rfl fun K' hK'=>T5 ?_;refine C2 (bW1 l ht _ hkp) ?_;rintro u rfl;refine AX (hK' _ _ ?_);clear hK' K';refine S0 ?_;refine T4 ?_;refine⟨⟨k+1,hkc⟩,aL (by omega) (by simp[aY,fin_at,finA_at,upd_at,HV.men,HV.menL,HV.norm,HV.toC,HV.toCL,e,hkl,gU]) (by simp[aZ,fob_at,upd_at,none0_at,bV,HO.men,HV.men,HV.menL,HV.norm,HV.toC,HV.toCL,e,hkl,gU]),?_⟩;show l[j].c.toNat-(k+1)<l[j].c.toNat-k;omega
  refine bI (T3 ?_);clear hK K;refine AX (hK _ _ _ ?_);clear hK K;refine R0 ?_;refine aE (RT Tryz.results16 ?_);have hkc:k=l[j].c.toNat:=by simp only[decide_eq_false_iff_not]at hb;omega
  subst hkc;exact aH [72] (.slc ((kT l l[j].c.toNat (j+1)).map iC)) (by simp[HV.close,fob_at,hkl,HV.norm,HV.toC,aC7,CV.denil]) (by rw[hcv])
 have F:=h1_8;iterate 9 refine SF ?_
 refine T2 (hK _ _ _ ?_);clear hK K;refine CT rfl ?_;refine R0 ?_;refine aE (RT Tryz.results16 ?_);exact aH [] (.slc []) rfl (by rw[qH (.inl h1_8)];rfl)
theorem aC8 (l:List Nd)(hn: ∀n∈l,n.q.t.length<2^63):cG Tryz.prog 18 [.slc (l.map Nd.cv)] (fun v=>v= .slc ((jL l).map iC)):=by
 refine FW Tryz.func18 ?_;refine R0 ?_;refine aB fun K hK=>?_;refine aB fun K hK=>Rg ?_;refine S0 ?_;refine HS rfl rfl fun K' hK'=>T5 ?_;refine C1 (vR l hn) ?_;rintro u rfl;refine AX (hK' _ _ ?_);clear hK' K';refine S0 ?_;refine T2 (hK _ _ _ ?_);clear hK K;refine aG (b:=!dV l) rfl (fun hb=>?_) (fun hb=>?_)
 · refine R0 ?_;refine aE (RT Tryz.results18 ?_);exact aH [] (.slc []) rfl (by rw[uT (by simpa using hb)];rfl)
 have h8:dV l=true:=by simpa using hb
 have ht:=lM h8;have hlv:=qI h8;have hl:=ht.len;clear hb;refine aJ ?_;refine T0 (hK _ _ _ ?_);clear hK K;refine R0 ?_;refine aB fun K hK=>?_;refine R0 ?_;refine aN ?_;refine kC 3 0 3 1 rfl rfl rfl rfl ?_;refine bS (α:={i:Nat//i≤l.length}) (fun i=>(fin [(3,.own 32 (gZ 0 (l.take i.1)).length),(9,.c (.slc (l.map Nd.cv))),(10,.c (.int .i64 l.length)),(11,.c (.int .i64 i.1))],fob [(32,.row 3 1 ((gZ 0 (l.take i.1)).map iC))])) 200 (fun i=>l.length-i.1) ⟨0,by omega⟩ (aL (by omega) (by simp[aY,fin_at,finA_at,upd_at,HV.men,HV.menL,HV.norm,HV.toC,HV.toCL,gZ]) (by simp[aZ,fob_at,upd_at,none0_at,bV,HO.men,HV.men,HV.menL,HV.norm,HV.toC,HV.toCL,gZ])) ?_;rintro⟨i,hi⟩;have hfl:(gZ 0 (l.take i)).length≤i:=by rw[lO];have:=cH5 (l.take i);simp at this;omega
 refine R0 ?_;refine aB fun K hK=>?_;refine aG (b:=decide ((i:Int)<l.length)) rfl (fun hb=>?_) (fun hb=>?_)
 ·
  have hlt:i<l.length:=by simpa using hb
  have e:=aX0 hlt;clear hb;refine aJ ?_;refine T0 (hK _ _ _ ?_);clear hK K;refine aB fun K hK=>?_;refine aN ?_;refine aB fun K hK=>Rg ?_;have F:=aI @Int.natCast_nonneg (aI @Int.ofNat_lt (aI hlt (nM hlt)));iterate 6 refine SF ?_
  refine T2 (hK _ _ _ ?_);clear hK K;refine R0 ?_;refine aG (b:=_) rfl (fun hb=>?_) (fun hb=>?_)
  ·
   rw[if_pos (by simpa using hb)]at e;refine Rg ?_;iterate 5 refine S0 ?_
   refine T2 (hK _ _ _ ?_);clear hK K;refine aK (by kernel_rfl) ?_;simp only[↓sP,sA,tyS,simprocAttr,cQ ((i:Int)+1) (by omega)];refine⟨⟨i+1,hlt⟩,aL (by omega) (by simp[aY,fin_at,finA_at,upd_at,HV.men,HV.menL,HV.norm,HV.toC,HV.toCL,e,iC]) (by simp[aZ,fob_at,upd_at,none0_at,bV,HO.men,HV.men,HV.menL,HV.norm,HV.toC,HV.toCL,e,iC]),?_⟩;show l.length-(i+1)<l.length-i;omega
  rw[if_neg (by simpa using hb)]at e;refine aJ ?_;refine T0 (hK _ _ _ ?_);clear hK K;refine aK (by kernel_rfl) ?_;simp only[↓sP,sA,tyS,simprocAttr,cQ ((i:Int)+1) (by omega)];refine⟨⟨i+1,hlt⟩,aL (by omega) (by simp[aY,fin_at,finA_at,upd_at,HV.men,HV.menL,HV.norm,HV.toC,HV.toCL,e]) (by simp[aZ,fob_at,upd_at,none0_at,bV,HO.men,HV.men,HV.menL,HV.norm,HV.toC,HV.toCL,e]),?_⟩;show l.length-(i+1)<l.length-i;omega
 refine bI (T3 ?_);clear hK K;refine AX (hK _ _ _ ?_);clear hK K;refine R0 ?_;refine aE (RT Tryz.results18 ?_);have hei:i=l.length:=by simp only[decide_eq_false_iff_not]at hb;omega
 subst hei;rw[List.take_length];exact aH [32] (.slc ((gZ 0 l).map iC)) (by simp[HV.close,fob_at,HV.norm,HV.toC,aC7,CV.denil]) (by rw[hlv])
def bC (b:Bool):CV:= .bool b
theorem oC {α:Type}{f:α→CV}{Q:α→Prop}: ∀(l:List CV),(∀x∈l,∃y,x=f y∧Q y)→ ∃m:List α,l=m.map f∧ ∀y∈m,Q y
 |[],_=>⟨[],rfl,by simp⟩
 |x::l,h=>by
  obtain⟨y,rfl,hy⟩:=h x (by simp);obtain⟨m,rfl,hm⟩:=oC l (fun x hx=>h x (by simp[hx]));exact⟨y::m,rfl,fun z hz=>by rcases List.mem_cons.1 hz with rfl|hz;exact hy;exact hm z hz⟩
theorem cE2 {c:CV}(h:HasTy Tryz.prog 23 c): ∃L:List Int,c= .slc (L.map (.int .i64))∧(∀n∈L,(Lit.int .i64 n).wf=true)∧L.length≤maxLen:=by
 obtain⟨l,rfl,hl,hn⟩:=h.of_slc Tryz.underlying23;obtain⟨m,rfl,hm⟩:=oC (f:=CV.int .i64) (Q:=fun n=>(Lit.int .i64 n).wf=true) l (fun x hx=>(hl x hx).of_int Tryz.underlying3);exact⟨m,rfl,hm,by simpa using hn⟩
theorem own :ownKnob Tryz.prog.godebug=none:=by kernel_rfl
theorem kids :Kids Tryz.prog (· <Tryz.prog.types.size):=kids_rows (by kernel_rfl) (by kernel_rfl)
theorem aY1 : ∀t e,t<Tryz.prog.types.size→Tryz.prog.underlying t=some (.slice e)→0<Tryz.prog.cellsOf e:=slices_full_of Tryz.prog (by kernel_rfl)
end Go.Proofs.YtlldglbooaefhaaGreatDoor
namespace Go.Pl
open Go Go.Hl
def isV (ls:List (List aF))(a:Nat)(w:aF)(k:Nat):Bool:=decide (a<ls.length)&&((ls.getD a []).length==k&&wd (ls.getD a []) 0==w)
variable {a:Nat}{ls:List (List aF)}
theorem aH6 (h: ¬a<ls.length)(w:aF)(k:Nat):isV ls a w k=false:=by simp[isV,h]
theorem jC (h:a<ls.length)(w:aF)(k:Nat):isV ls a w k=(ls[a].length==k&&wd ls[a] 0==w):=by simp[isV,h]
variable {k:Nat}
theorem gN {w:aF}(h:isV ls a w k=true): ∃hl:a<ls.length,ls[a].length=k∧wd ls[a] 0=w:=by
 by_cases hl:a<ls.length;all_goals simp_all[jC,Bool.and_eq_true,beq_iff_eq,aH6]
def gM (ls:List (List aF))(a:Nat)(w:aF):Option Int:=if isV ls a w 2 then bL (wd (ls.getD a []) 1)else none
def mX (ls:List (List aF))(a:Nat)(w:aF):Option (Int×Int):=if isV ls a w 3 then match bL (wd (ls.getD a []) 1),bL (wd (ls.getD a []) 2)with|some n,some m=>some (n,m)|_,_=>none else none
theorem aH7 {w:aF}(h:isV ls a w 2=true)(hl:a<ls.length):gM ls a w=bL (wd ls[a] 1):=by simp[gM,h,hl]
theorem cE3 {w:aF}(h:isV ls a w 2=false):gM ls a w=none:=by simp[gM,h]
theorem cE4 {w:aF}(h:isV ls a w 3=false):mX ls a w=none:=by simp[mX,h]
theorem bD9 {w:aF}(h:isV ls a w 3=true)(hl:a<ls.length):mX ls a w=match bL (wd ls[a] 1),bL (wd ls[a] 2)with|some n,some m=>some (n,m)|_,_=>none:=by simp[mX,h,hl]
theorem jS {w:aF}{n:Int}(h:gM ls a w=some n): ∃hl:a<ls.length,ls[a].length=2∧wd ls[a] 0=w∧bL (wd ls[a] 1)=some n:=by grind[gM,gN]
theorem bK9 {w:aF}{n m:Int}(h:mX ls a w=some (n,m)): ∃hl:a<ls.length,ls[a].length=3∧wd ls[a] 0=w∧bL (wd ls[a] 1)=some n∧bL (wd ls[a] 2)=some m:=by
 unfold mX at h;grind[gN]
variable {w:List aF}
theorem yV (h:w.length=2)(h0:wd w 0=bM):dD w=(bL (wd w 1)).map (⟨1,·,0,[]⟩):=by simp[dD,h,h0]
theorem aH8 (h:w.length=2)(h0:wd w 0=bJ):dD w=some ⟨2,0,0,wd w 1⟩:=by grind[dD,bJ,bM]
theorem yW (h:w.length=2)(h0:wd w 0=bO):dD w=(bL (wd w 1)).map (⟨3,·,0,[]⟩):=by grind[dD,bO,bM,bJ]
theorem aH9 (h:w.length=3)(h0:wd w 0=bT):dD w=match bL (wd w 1),bL (wd w 2)with|some n,some m=>some ⟨4,n,m,[]⟩|_,_=>none:=by
 simp only[dD,h,h0];grind
theorem aR7 (h:w.length=2)(h0:wd w 0=cC):dD w=(bL (wd w 1)).map (⟨5,·,0,[]⟩):=by grind[dD,cC,bM,bJ,bO]
theorem aY2 (h:w.length=2)(h0:wd w 0=cO):dD w=(bL (wd w 1)).map (⟨6,·,0,[]⟩):=by grind[dD,cO,bM,bJ,bO,cC]
theorem aY3 (h:w.length=2)(h0:wd w 0=cR):dD w=(bL (wd w 1)).map (⟨7,·,0,[]⟩):=by grind[dD,cR,bM,bJ,bO,cC,cO]
theorem aI0 (h:w.length=1)(h0:wd w 0=cA):dD w=some ⟨8,0,0,[]⟩:=by simp[dD,h,h0]
def kL (ls:List (List aF))(a:Nat):Option Rq:=if h:a<ls.length then dD ls[a]else none
theorem gO (h:a<ls.length):kL ls a=dD ls[a]:=by simp[kL,h]
theorem bL0 (h1:gM ls a bM=none)(h2:isV ls a bJ 2=false)(h3:gM ls a bO=none)(h4:mX ls a bT=none)(h5:gM ls a cC=none)(h6:gM ls a cO=none)
  (h7:gM ls a cR=none) (h8:isV ls a cA 1=false):kL ls a=none:=by
 unfold kL;split
 ·
  rename_i hl;have n1: ∀w,gM ls a w=none→ls[a].length=2∧wd ls[a] 0=w→bL (wd ls[a] 1)=none:=fun w h hc=>by grind[isV,jC,aH7]
  unfold dD;split
  · grind
  ·
   split
   · grind[jC]
   ·
    split
    · grind
    ·
     split
     ·
      rename_i hc;have:isV ls a bT 3=true:=by rw[jC hl];simp[hc]
      grind[bD9,absurd]
     ·
      split
      · grind
      grind[jC]
 · rfl
def kI (ls:List (List aF))(a:Nat):Option Nd:=if h:a<ls.length then dZ ls[a]else none
theorem bW2 (h:isV ls a eZ 1=true):kI ls a=some ⟨2,0,0,rq0⟩:=by grind[gN,kI,dZ]
theorem bW3 (h:isV ls a fA 1=true):kI ls a=some ⟨3,0,0,rq0⟩:=by grind[gN,kI,dZ,fA,eZ]
theorem cE5 {n:Int}(h:gM ls a bQ=some n):kI ls a=some ⟨4,n,0,rq0⟩:=by grind[jS,kI,dZ]
theorem bL1 (h1:isV ls a eZ 1=false)(h2:isV ls a fA 1=false)(h3:gM ls a bQ=none):kI ls a=none:=by
 unfold kI;split
 ·
  rename_i hl;unfold dZ;split
  · grind[jC]
  grind[jC,isV,bQ,aH7]
 · rfl
abbrev Kds :=Option (List Nd×Int)×List (List aF)
def qJ (ts:List Nd)(k:Int)(x:Kds):Kds:=(x.1.map fun p=>(ts++p.1,k+p.2),x.2)
def yX (n:Nd)(x:Kds):Option (List Nd)×List (List aF):=(x.1.map fun p=>{n with c:=p.2}::p.1,x.2)
theorem bW4 (ts us:List Nd)(k j:Int)(x:Kds):qJ ts k (qJ us j x)=qJ (ts++us) (k+j) x:=by
 obtain⟨o,r⟩:=x;cases o<;>simp[qJ,List.append_assoc,Int.add_assoc]
theorem bW5 (x:Kds):qJ [] 0 x=x:=by simp_all[qJ]
variable {q:Rq}{r:List (List aF)}{f:Nat}
theorem oD {w:List aF}(h:dD w=some q):rdN (f+1) (w::r)=(some [⟨1,0,0,q⟩],r):=by simp only[rdN,h]
theorem oE {w:List aF}(h:dD w=none)(h2:dZ w=none):rdN (f+1) (w::r)=(none,w::r):=by simp only[rdN,h,h2]
variable {n:Nd}
theorem pD {w:List aF}(h:dD w=none)(h2:dZ w=some n):rdN (f+1) (w::r)=yX n (rdK f r):=by
 simp only[rdN,h,h2]
 match rdK f r with
 |(none,r')=>rfl
 |(some (ts,c),r')=>rfl
theorem aI1 {l:List (List aF)}(h:eM (l.headD [])=true):rdK (f+1) l=(some ([],0),l.tail):=by simp only[rdK,h,if_true]
theorem aY4 {l:List (List aF)}(h:eM (l.headD [])=false)(h2:rdN f l=(none,r)):rdK (f+1) l=(none,r):=by simp_all[rdK,Bool.false_eq_true,if_false]
variable {t:List Nd}
theorem yB {l:List (List aF)}(h:eM (l.headD [])=false)(h2:rdN f l=(some t,r)):rdK (f+1) l=qJ t 1 (rdK f r):=by
 simp only[rdK,h,h2,Bool.false_eq_true,if_false];grind[rdK,qJ,Int.add_comm]
theorem aI2 : ∀f,(∀l,∃j,(rdN f l).2=l.drop j∧ ∀t,(rdN f l).1=some t→t.length+(rdN f l).2.length≤l.length)∧(∀l,∃j,(rdK f l).2=l.drop j∧ ∀p,(rdK f l).1=some p→p.1.length+(rdK f l).2.length≤l.length)
 |0=>⟨fun l=>⟨0,by simp[rdN],fun t h=>by simp[rdN]at h⟩,fun l=>⟨0,by simp[rdK],fun t h=>by simp[rdK]at h⟩⟩
 |f+1=>by
  obtain⟨ihN,ihK⟩:=aI2 f;refine⟨fun l=>?_,fun l=>?_⟩
  ·
   match l with
   |[]=>simp_all[rdN]
   |w::r=>
    cases h1:dD w with
    |some q=>rw[oD h1];exact⟨1,rfl,fun t h=>by grind⟩
    |none=>
     cases h2:dZ w with
     |none=>rw[oE h1 h2];exact⟨0,rfl,fun t h=>by cases h⟩
     |some n=>
      rw[pD h1 h2];obtain⟨j,hj,hl⟩:=ihK r;refine⟨j+1,hj,fun t h=>?_⟩;cases hk:(rdK f r).1 with
      |none=>simp[yX,hk]at h
      |some p=>
       grind[yX,rdK]
  ·
   cases he:eM (l.headD [])with
   |true=>
    rw[aI1 he];exact⟨1,by simp,fun p h=>by grind⟩
   |false=>
    obtain⟨j,hj,hl⟩:=ihN l
    match h2:rdN f l with
    |(none,r)=>
     rw[aY4 he h2];grind
    |(some t,r)=>
     rw[yB he h2];rw[h2]at hj hl;obtain⟨i,hi,hl2⟩:=ihK r;have hj':r=l.drop j:=hj;have hl':=hl t rfl;simp only at hl';refine⟨j+i,?_,fun p h=>?_⟩
     · show(rdK f r).2=_;simp_all
     ·
      cases hk:(rdK f r).1 with
      |none=>simp[qJ,hk]at h
      |some q=>
       grind[qJ,rdK]
theorem bE0 (f:Nat)(l:List (List aF)): ∃j,j≤l.length∧(rdN f l).2=l.drop j:=by
 obtain⟨j,hj,_⟩:=(aI2 f).1 l;rcases Nat.lt_or_ge l.length j with h|h
 · exact⟨l.length,Nat.le_refl _,by rw[hj,List.drop_eq_nil_of_le (by omega),List.drop_eq_nil_of_le (Nat.le_refl _)]⟩
 grind
theorem tR (ha:a≤ls.length):eM ((ls.drop a).headD [])=isV ls a wEnd 1:=by
 rcases Nat.lt_or_ge a ls.length with h|h
 · rw[jC h,List.drop_eq_getElem_cons h];rfl
 · rw[aH6 (by omega),List.drop_eq_nil_of_le h];rfl
structure KdSt (f:Nat)(ls:List (List aF))(a:Nat)(nd:Nd)(g:Nat)(ts:List Nd)(k p:Nat):Prop where
 eq:rdN f (ls.drop a)=yX nd (qJ ts k (rdK g (ls.drop p)))
 le:p≤ls.length
 fuel:2*(ls.length-p)+2≤g
 lt:g<f
 len:ts.length+(ls.length-p)+1≤ls.length-a
 kids:k≤ts.length
variable {nd:Nd}
theorem KdSt.init (ha:a<ls.length)(hf:2*(ls.length-a)+1≤f)(h1:dD ls[a]=none)(h2:dZ ls[a]=some nd):KdSt f ls a nd (f-1) [] 0 (a+1):=by
 obtain⟨g,rfl⟩: ∃g,f=g+1:=⟨f-1,by omega⟩;refine⟨?_,by omega,?_,by omega,by grind,by simp⟩;all_goals grind[List.drop_eq_getElem_cons,pD,yX,qJ,bW5,Nat.add_sub_cancel]
variable {p g:Nat}{ts:List Nd}
theorem KdSt.end_ {nd:Nd}{k:Nat}(h:KdSt f ls a nd g ts k p)(he:isV ls p wEnd 1=true):p<ls.length∧rdN f (ls.drop a)=(some ({nd with c:=(k:Int)}::ts),ls.drop (p+1)):=by
 obtain⟨hp,_,_⟩:=gN he;obtain⟨q,rfl⟩: ∃q,g=q+1:=⟨g-1,by have:=h.fuel;omega⟩;refine⟨hp,?_⟩;rw[h.eq,aI1 (by rw[tR h.le,he])];simp[qJ,yX]
theorem KdSt.no (h:KdSt f ls a nd g ts k p)(he:isV ls p wEnd 1=false)(hn:(rdN (g-1) (ls.drop p)).1=none):rdN f (ls.drop a)=(none,(rdN (g-1) (ls.drop p)).2):=by
 obtain⟨q,rfl⟩: ∃q,g=q+1:=⟨g-1,by have:=h.fuel;omega⟩;simp only[Nat.add_sub_cancel]at hn⊢;rw[h.eq,aY4 (by rw[tR h.le,he]) (r:=(rdN q (ls.drop p)).2) (Prod.ext hn rfl)];rfl
theorem KdSt.some_ (h:KdSt f ls a nd g ts k p)(he:isV ls p wEnd 1=false)(hs:(rdN (g-1) (ls.drop p)).1=some t):
  KdSt f ls a nd (g-1) (ts++t) (k+1) (ls.length-(rdN (g-1) (ls.drop p)).2.length):=by
 obtain⟨q,rfl⟩: ∃q,g=q+1:=⟨g-1,by have:=h.fuel;omega⟩;simp only[Nat.add_sub_cancel]at hs⊢;obtain⟨j,hj,hr⟩:=bE0 q (ls.drop p);have hlt:(rdN q (ls.drop p)).snd.length<(ls.drop p).length:=(aH1 q).1 (ls.drop p) t (rdN q (ls.drop p)).snd (Prod.ext hs rfl);obtain⟨_,_,hlen⟩:=(aI2 q).1 (ls.drop p);have hlen':=hlen t hs;have hle:=h.le;rw[hr]at hlt hlen';simp only[List.length_drop]at hj hlt hlen';have hpos:ls.length-(rdN q (ls.drop p)).2.length=p+j:=by rw[hr];simp only[List.length_drop];omega
 have hfu:=h.fuel;have hfl:=h.lt;have hll:=h.len;have hkk:=h.kids;have ht0:1≤t.length∨t=[]:=by cases t<;>simp
 rw[hpos];refine⟨?_,by omega,by omega,by omega,by grind,?_⟩
 · rw[h.eq,yB (by rw[tR h.le,he]) (r:=(rdN q (ls.drop p)).2) (Prod.ext hs rfl),bW4,hr,List.drop_drop];rfl
 ·
  simp only[List.length_append];rcases ht0 with h0|h0
  · omega
  ·
   exfalso;subst h0
   revert hs
   match q,ls.drop p with
   |0,l=>intro hs;cases hs
   |q+1,[]=>intro hs;cases hs
   |q+1,w::r=>
    intro hs;cases h1:dD w with
    |some x=>rw[oD h1]at hs;cases hs
    |none=>
     cases h2:dZ w with
     |none=>rw[oE h1 h2]at hs;cases hs
     |some x=>
      rw[pD h1 h2]at hs;cases hk:(rdK q r).1 with
      |none=>simp[yX,hk]at hs
      |some y=>simp[yX,hk]at hs
theorem cK8 (ha:a≤ls.length)(h:isV ls a wRule 5=false):rdR (ls.drop a)=(none,ls.drop a):=by
 rcases Nat.lt_or_ge a ls.length with hl|hl
 · rw[jC hl]at h;rw[List.drop_eq_getElem_cons hl];simp_all[rdR,if_neg]
 · rw[List.drop_eq_nil_of_le hl];rfl
theorem cE6 (hl:a<ls.length)(h1:ls[a].length=5)(h2:wd ls[a] 0=wRule)(hn:bL (wd ls[a] 4)=none):rdR (ls.drop a)=(none,ls.drop a):=by
 rw[List.drop_eq_getElem_cons hl];simp_all[rdR,if_pos]
theorem bW6 (hl:a<ls.length)(h1:ls[a].length=5)(h2:wd ls[a] 0=wRule){g:Int}(hn:bL (wd ls[a] 4)=some g):
  rdR (ls.drop a)=((rdT (ls.drop (a+1))).1.map fun t=>⟨wd ls[a] 1,wd ls[a] 2,wd ls[a] 3,g,t⟩,(rdT (ls.drop (a+1))).2):=by
 rw[List.drop_eq_getElem_cons hl];simp only[rdR];grind
theorem aI3 (ls:List (List aF)): ∃j,j≤ls.length∧(rdR ls).2=ls.drop j∧ ∀p,(rdR ls).1=some p→1≤j:=by
 match ls with
 |[]=>exact⟨0,by simp,rfl,fun p h=>by cases h⟩
 |w::r=>
  simp only[rdR];split
  ·
   cases bL (wd w 4)with
   |none=>exact⟨0,by simp,rfl,fun p h=>by cases h⟩
   |some g=>
    obtain⟨j,hj,h2⟩:=bE0 (2*r.length+2) r;simp only[rdT]
    match hm:rdN (2*r.length+2) r with
    |(none,r')=>rw[hm]at h2;exact⟨j+1,by grind,h2,fun p h=>by cases h⟩
    |(some t,r')=>rw[hm]at h2;exact⟨j+1,by grind,h2,fun p h=>by omega⟩
  · exact⟨0,by simp,rfl,fun p h=>by cases h⟩
abbrev Rls :=Option (List Pr)×List (List aF)
structure RsSt (ls:List (List aF))(X:Rls)(acc:List Pr)(p:Nat):Prop where
 eq:X=jM (ls.length-p+1) (ls.drop p) acc
 le:p≤ls.length
 len:acc.length≤p
theorem aC9 : ∀(f g:Nat) (ls:List (List aF)) (acc:List Pr),ls.length<f→f≤g→jM g ls acc=jM f ls acc
 |0,_,_,_,h,_=>by omega
 |f+1,g,ls,acc,h,hg=>by
  obtain⟨q,rfl⟩: ∃q,g=q+1:=⟨g-1,by omega⟩;simp only[jM];split
  · rfl
  ·
   obtain⟨j,hj,h2,h3⟩:=aI3 ls
   match hm:rdR ls with
   |(none,r)=>rfl
   |(some x,r)=>
    rw[hm]at h2 h3;have h4:=h3 x rfl;simp only at h2;exact aC9 f q r _ (by rw[h2,List.length_drop];omega) (by omega)
variable {acc:List Pr}{X:Rls}
theorem RsSt.done (h:RsSt ls X acc p)(hp: ¬p<ls.length):p=ls.length∧X=(some acc,[]):=by
 have h1:=h.le;refine⟨by omega,?_⟩;rw[h.eq,List.drop_eq_nil_of_le (by omega),jM,if_pos rfl]
theorem RsSt.no (h:RsSt ls X acc p)(hp:p<ls.length)(hn:(rdR (ls.drop p)).1=none):X=(none,(rdR (ls.drop p)).2):=by
 rw[h.eq,jM,if_neg (by simp_all)];grind
theorem RsSt.some_ (h:RsSt ls X acc p)(hp:p<ls.length){x:Pr}(hs:(rdR (ls.drop p)).1=some x):
  RsSt ls X (acc++[x]) (ls.length-(rdR (ls.drop p)).2.length)∧p<ls.length-(rdR (ls.drop p)).2.length:=by
 obtain⟨j,hj,h2,h3⟩:=aI3 (ls.drop p);have h4:=h3 x hs;rw[List.length_drop]at hj;have hlen:=h.len;have hpos:ls.length-(rdR (ls.drop p)).2.length=p+j:=by rw[h2];simp only[List.length_drop];omega
 rw[hpos];refine⟨⟨?_,by omega,by grind⟩,by omega⟩;rw[h.eq,jM,if_neg (by grind)];grind[rdR,List.drop_drop,aC9,List.length_drop]
theorem cK9 (h:isV ls 0 wPolicy 3=false):rdP ls=(none,ls):=by
 match ls with
 |[]=>rfl
 |w::r=>
  simp_all[jC,rdP,if_neg]
theorem cE7 (hl:0<ls.length)(h1:ls[0].length=3)(h2:wd ls[0] 0=wPolicy)(hn:bL (wd ls[0] 2)=none):rdP ls=(none,ls):=by
 match ls,hl with
 |w::r,_=>
  simp_all[List.getElem_cons_zero,rdP,if_pos]
theorem bW7 (hl:0<ls.length)(h1:ls[0].length=3)(h2:wd ls[0] 0=wPolicy){v:Int}(hn:bL (wd ls[0] 2)=some v):
  ∃X:Rls,rdP ls=(X.1.map fun l=>⟨wd ls[0] 1,v,l⟩,X.2)∧RsSt ls X [] 1:=by
 match ls,hl with
 |w::r,_=>
  simp only[List.getElem_cons_zero]at h1 h2 hn⊢;refine⟨jM (r.length+1) r [],?_,⟨by simp,by simp,by simp⟩⟩;simp only[rdP];grind
theorem cE8 (h:cJ n=true)(h1:n.k≠1)(h2:n.k≠2)(h3:n.k≠3):n.k=4:=by simp_all[cJ,if_neg]
theorem bW8 (h:fB q=true):(0≤q.n∧q.n≤1099511627776)∧(0≤q.m∧q.m≤1099511627776):=by
 unfold fB inB at h
 repeat' split at h
 all_goals first
  |cases h;done
  |(simp only[Bool.and_eq_true,decide_eq_true_eq,beq_iff_eq]at h;(try rw[iW]at h);omega)
theorem cE9 (h:cJ n=true)(h1:n.k=1):fB n.q=true:=by simp_all[cJ,if_pos,Bool.and_eq_true]
theorem cF0 (h:cJ n=true)(h1:n.k=4):1≤n.n∧n.n≤60:=by
 unfold cJ inB at h;grind
variable {i:Nat}{l:List Nd}
theorem aR8 (ht:IsTree l)(hi:i<l.length)(hk:l[i].k=1):aft l i=i+1:=by
 obtain⟨_,_,c3,_⟩:=eN (ht.node _ (List.getElem_mem hi));refine aW9 hi ?_;rw[List.drop_eq_getElem_cons hi];simp_all[skip,dH]
theorem yC (ht:IsTree l)(hi:i<l.length):eV l l[i].c.toNat (i+1)=aft l i:=by
 obtain⟨h1,h2,h3⟩:=iN ht hi l[i].c.toNat (Nat.le_refl _);simp_all[lF,Nat.sub_self,dH,congrArg,List.length,Option.some.inj,List.length_drop]
theorem tS {l:List Nd}(ht:IsTree l): ∀(m:Nat) (i:Nat) (hi:i<l.length),l.length-i≤m→(kH l i).length≤2*(aft l i-i)∧ ∀k,k≤l[i].c.toNat→l[i].k≠1→(eW l i k).length≤2*(eV l k (i+1)-(i+1))
 |0,i,hi,hm=>by omega
 |m+1,i,hi,hm=>by
  have hkids: ∀k,k≤l[i].c.toNat→l[i].k≠1→(eW l i k).length≤2*(eV l k (i+1)-(i+1)):=by
   intro k;induction k with
   |zero=>grind[mQ]
   |succ k ih=>
    intro hk hn;have h1:=ih (by omega) hn;have hlt:=nV ht hi (k:=k) (by omega);obtain⟨_,_,h3⟩:=iN ht hi k (by omega);have h4:=(tS ht m (eV l k (i+1)) hlt (by omega)).1;grind[lF,rW,List.length_append,gU]
  refine⟨?_,hkids⟩;by_cases hk:l[i].k=1
  · grind[xP,aR8]
  · have h1:=hkids _ (Nat.le_refl _) hk;obtain⟨_,_,h3⟩:=iN ht hi _ (Nat.le_refl l[i].c.toNat);grind[yC,uQ,List.length_cons,List.length_append,List.length_nil]
theorem aR9 (ht:IsTree l)(hi:i<l.length)(hk:k≤l[i].c.toNat)(hn:l[i].k≠1):(eW l i k).length≤2*(eV l k (i+1)-(i+1)):=(tS ht _ i hi (Nat.le_refl _)).2 k hk hn
theorem bW9 (ht:IsTree l)(hi:i<l.length):(kH l i).length≤2*(aft l i-i):=(tS ht _ i hi (Nat.le_refl _)).1
theorem aD0 : ∀(l:List Pr) (i:Nat),gV l=true→gV (l.take i)=true
 |[],i,h=>by grind
 |r::l,0,h=>rfl
 |r::l,i+1,h=>by
  simp only[gV,Bool.and_eq_true,Bool.not_eq_true']at h;simp only[List.take_succ_cons,gV,Bool.and_eq_true,Bool.not_eq_true'];refine⟨?_,aD0 l i h.2⟩;grind
def aY5 (l:List Pr)(r:Pr):Bool:=(l.map Pr.a).contains r.a||(!dU r.a||(!(fL r.b).isSome||(!(fL r.c).isSome||(!inB r.g 0 vB||!dV r.t))))
structure RlSt (l:List Pr)(i:Nat):Prop where
 le:i≤l.length
 all:(l.take i).all jE=true
 apart:gV (l.take i)=true
theorem RlSt.zero (l:List Pr):RlSt l 0:=⟨by omega,by simp,by simp[gV]⟩
theorem bE1 (l:List Pr)(r:Pr):aY5 l r=!(!(l.map Pr.a).contains r.a&&jE r):=by simp_all[aY5,jE,Pr.a,dU,fL,inB,vB,dV]
theorem RlSt.succ {l:List Pr}(h:RlSt l i)(hi:i<l.length)(hb:aY5 (l.take i) l[i]=false):RlSt l (i+1):=by
 rw[bE1]at hb;simp only[Bool.not_eq_false',Bool.and_eq_true]at hb;refine⟨hi,?_,?_⟩
 · rw[List.take_succ_eq_append_getElem hi,List.all_append,h.all,List.all_cons,hb.2];rfl
 · rw[List.take_succ_eq_append_getElem hi,nZ,h.apart,hb.1];rfl
theorem aI4 {l:List Pr}(hi:i<l.length)(hb:aY5 (l.take i) l[i]=true):(l.all jE&&gV l)=false:=by
 rw[Bool.eq_false_iff];intro h;simp only[Bool.and_eq_true]at h;have h1:=aD0 l (i+1) h.2;rw[List.take_succ_eq_append_getElem hi,nZ]at h1;simp_all[Bool.and_eq_true,List.all_eq_true,List.getElem_mem,bE1]
theorem aI5 {p:Po}(h:(p.r.all jE&&gV p.r)=false):eY p=false:=by
 simp only[eY,h,Bool.and_false]
def nmD (l:List Pr):MD:=l.foldl (fun D r=>kJ D r.a (.val (.bool true))) []
theorem bX0 (l:List Pr)(r:Pr):nmD (l++[r])=kJ (nmD l) r.a (.val (.bool true)):=by simp[nmD,List.foldl_append]
theorem cP8 (D:MD)(k j:aF)(h:k≠j)(m:MV):cW (kJ D k m) j=cW D j:=by
 induction D with
 |nil=>simp[kJ,cW,h]
 |cons x D ih=>
  grind[kJ,cW]
theorem bX1 (s:aF): ∀(l:List Pr) (D:MD),cW (l.foldl (fun D r=>kJ D r.a (.val (.bool true))) D) s=if(l.map Pr.a).contains s then some (.val (.bool true))else cW D s
 |[],D=>rfl
 |r::l,D=>by
  rw[List.foldl_cons,bX1 s l,List.map_cons,List.contains_cons];by_cases h:r.a=s;all_goals simp_all[cV,cP8,Ne.symm,Bool.false_or]
theorem bE2 (s:aF)(l:List Pr):cW (nmD l) s=if(l.map Pr.a).contains s then some (.val (.bool true))else none:=bX1 s l []
def vE (p:Po):Bool:=!dU p.n||(!inB p.v 1 1099511627776||decide ((16:Int)<p.r.length))
def oF (c:Bool)(r:Pr):Bool:=c||(!dU r.a||(!(fL r.b).isSome||(!(fL r.c).isSome||(!inB r.g 0 1099511627776||!dV r.t))))
theorem aS0 (l:List Pr)(r:Pr):oF ((l.map Pr.a).contains r.a) r=aY5 l r:=by simp only[oF,aY5,iW]
theorem aD1 {p:Po}(h:vE p=true):eY p=false:=by grind[vE,eY,iW,dU,inB,decide]
theorem aS1 {p:Po}(h:vE p=false)(h2:RlSt p.r p.r.length):eY p=true:=by
 unfold vE at h;rw[eY,iW];have h3:=h2.all;have h4:=h2.apart;grind
structure PoSz (p:Po):Prop where
 n:p.n.length<2^63
 r:p.r.length<2^40
 a: ∀r∈p.r,r.a.length<2^63
 t: ∀r∈p.r,∀n∈r.t,n.q.t.length<2^63
end Go.Pl
