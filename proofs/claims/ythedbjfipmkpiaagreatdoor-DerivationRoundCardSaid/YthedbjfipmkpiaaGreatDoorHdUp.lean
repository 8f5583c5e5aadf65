/- Part of a proof: walks of functions of the program, by contracts, and the rules they use. By an AI agent. -/
import Derived.Test.YthedbjfipmkpiaaGreatDoorPl11c
import Derived.Test.YthedbjfipmkpiaaGreatDoorHdSb
import Derived.Test.YthedbjfipmkpiaaGreatDoorHdU6
set_option linter.unusedSimpArgs false
set_option linter.unusedVariables false
set_option linter.defProp false
namespace Go.Proofs.YthedbjfipmkpiaaGreatDoor
open Go Go.Hl Go.Pl
set_option maxRecDepth 10000
set_option maxHeartbeats 16000000
theorem aZ9 (n:Int):cE Tryz.prog 49 [.int .i64 n] (fun v=>v= .bool (inN n)):=by
 refine FW Tryz.func49 ?_;refine R0 ?_;refine aC fun K hK=>Rg ?_;iterate 3 refine S0 ?_
 refine aG 4 rfl (fun h1_4=>?_) (fun h1_4=>?_)
 ·
  have F:=h1_4;iterate 4 refine SF ?_
  refine T2 (hK _ _ _ ?_);clear hK K;refine aH (RT Tryz.results49 ?_);refine aJ [] (.bool _) rfl ?_;simp[h1_4,inN,vS];all_goals first|rfl|simp_all
 have F:=h1_4;iterate 4 refine SF ?_
 refine T2 (hK _ _ _ ?_);clear hK K;refine aH (RT Tryz.results49 ?_);refine aJ [] (.bool _) rfl ?_;simp[h1_4,inN,vS];all_goals first|rfl|simp_all
theorem cG0 (s:aL)(hl:s.length<2^63):cE Tryz.prog 154 [.str s] (fun v=>v= .bool (eR s)):=by
 refine FW Tryz.func154 ?_;refine R0 ?_;refine aC fun K hK=>?_;refine aC fun K hK=>Rg ?_;iterate 4 refine S0 ?_
 refine aG 7 rfl (fun h1_7=>?_) (fun h1_7=>?_)
 ·
  have F:=h1_7;iterate 4 refine SF ?_
  refine T2 (hK _ _ _ ?_);clear hK K;refine CT rfl ?_;refine R0 ?_;refine aH (RT Tryz.results154 ?_);exact aJ [] (.bool false) rfl (by rw[aE0 (by simp at h1_7;omega)])
 have F:=h1_7;iterate 4 refine SF ?_
 refine T2 (hK _ _ _ ?_);clear hK K;refine aK (b:=_) rfl (fun hb=>?_) (fun hb=>?_)
 · refine R0 ?_;refine aH (RT Tryz.results154 ?_);exact aJ [] (.bool false) rfl (by rw[aE0 (by simp at hb;omega)])
 refine aM ?_;refine T0 (hK _ _ _ ?_);clear hK K;refine aC fun K hK=>?_;refine R0 ?_;refine aN ?_;have hlen:1≤s.length∧s.length≤64:=by simp at h1_7 hb;omega
 refine bH (α:={i:Nat//i≤s.length∧ ∀j (_:j<i) (h:j<s.length),okc j s[j]=true}) (fun i=>(fin [(0,.c (.str s)),(3,.c (.int .i64 i.1))],fob [])) 100 (fun i=>s.length-i.1) ⟨0,by omega,fun j h=>by omega⟩ (fF) ?_;clear hb;rintro⟨i,hi,h0⟩;refine aC fun K hK=>?_;refine aC fun K hK=>Rg ?_;iterate 4 refine SF ?_
 refine T2 (hK _ _ _ ?_);clear hK K;refine aK (b:=decide ((i:Int)<s.length)) rfl (fun hb=>?_) (fun hb=>?_)
 ·
  have hlt:i<s.length:=by simpa using hb
  have hgd:s.getD i 0=s[i]:=by simp[hlt]
  refine aM ?_;refine T0 (hK _ _ _ ?_);clear hK K;refine aC fun K hK=>?_;refine aN ?_;refine aC fun K hK=>Rg ?_;iterate 4 refine S0 ?_ (e:=fun _ h_=>by simp only[sH,↓sP,sA,tyS,simprocAttr,Int.natCast_nonneg,Int.ofNat_lt,hlt,hgd,h1_7];exact AX h_)
  refine T2 (hK _ _ _ ?_);clear hK K;refine aC fun K hK=>?_;refine aC fun K hK=>?_;have key: ∀(b:Bool) fr ob nx,b=okc i s[i]→Fits 0 fr ob (fin [(0,.c (.str s)),(3,.c (.int .i64 i)),(51,.c (.bool b))]) (fob []) 600→K fr ob nx:=by
   rintro b fr ob nx rfl hf;refine hK _ _ _ (bJ hf ?_);clear hf hK K;refine aK (b:=okc i s[i]) rfl (fun hb=>?_) (fun hb=>?_)
   · refine aZ (T3 ?_);clear hK K;refine AX (hK _ _ _ ?_);clear hK K;refine aE (by kernel_rfl) ?_;refine TQ (jE i) ?_;refine⟨⟨i+1,hlt,bL1 hlt hb h0⟩,fF,?_⟩;show s.length-(i+1)<s.length-i;omega
   refine aM ?_;refine T0 (hK _ _ _ ?_);clear hK K;refine R0 ?_;refine aH (RT Tryz.results154 ?_);exact aJ [] (.bool false) rfl (by rw[aE1 hlt hb])
  refine Rg ?_;iterate 3 refine SF ?_
  refine aG 23 rfl (fun h7_23=>?_) (fun h7_23=>?_)
  ·
   have F:=aI h1_7 h7_23;iterate 4 refine SF ?_
   refine aG 26 rfl (fun h7_26=>?_) (fun h7_26=>?_)
   ·
    have F:=aI h1_7 (aI h7_23 h7_26);iterate 23 refine SF ?_
    refine T4 ?_;exact key true _ _ _ (by simp only[okc,alZ,puZ,h1_7,h7_23,h7_26,Bool.and_true,Bool.and_false,Bool.true_and,Bool.false_and,Bool.or_true,Bool.true_or,Bool.false_or,Bool.or_false,Bool.and_self,Bool.or_self]) (fF)
   have F:=aI h1_7 (aI h7_23 h7_26);iterate 3 refine SF ?_
   refine aG 30 rfl (fun h7_30=>?_) (fun h7_30=>?_)
   ·
    have F:=aI h1_7 (aI h7_23 (aI h7_26 h7_30));iterate 5 refine SF ?_
    refine aG 33 rfl (fun h7_33=>?_) (fun h7_33=>?_)
    ·
     have F:=aI h1_7 (aI h7_23 (aI h7_26 (aI h7_30 h7_33)));iterate 15 refine SF ?_
     refine T4 ?_;exact key true _ _ _ (by simp only[okc,alZ,puZ,h1_7,h7_23,h7_26,h7_30,h7_33,Bool.and_true,Bool.and_false,Bool.true_and,Bool.false_and,Bool.or_true,Bool.true_or,Bool.false_or,Bool.or_false,Bool.and_self,Bool.or_self]) (fF)
    have F:=aI h1_7 (aI h7_23 (aI h7_26 (aI h7_30 h7_33)));iterate 3 refine SF ?_
    refine aG 38 rfl (fun h7_38=>?_) (fun h7_38=>?_)
    ·
     have F:=aI h1_7 (aI h7_23 (aI h7_26 (aI h7_30 (aI h7_33 h7_38))));iterate 3 refine SF ?_
     refine aG 41 rfl (fun h7_41=>?_) (fun h7_41=>?_)
     ·
      have F:=aI h1_7 (aI h7_23 (aI h7_26 (aI h7_30 (aI h7_33 (aI h7_38 h7_41)))));iterate 9 refine SF ?_
      refine T4 ?_;exact key true _ _ _ (by simp only[okc,alZ,puZ,h1_7,h7_23,h7_26,h7_30,h7_33,h7_38,h7_41,Bool.and_true,Bool.and_false,Bool.true_and,Bool.false_and,Bool.or_true,Bool.true_or,Bool.false_or,Bool.or_false,Bool.and_self,Bool.or_self]) (fF)
     have F:=aI h1_7 (aI h7_23 (aI h7_26 (aI h7_30 (aI h7_33 (aI h7_38 h7_41)))));iterate 4 refine SF ?_
     refine aG 44 rfl (fun h7_44=>?_) (fun h7_44=>?_)
     ·
      have F:=aI h1_7 (aI h7_23 (aI h7_26 (aI h7_30 (aI h7_33 (aI h7_38 (aI h7_41 h7_44))))));iterate 5 refine SF ?_
      refine T4 ?_;exact key true _ _ _ (by simp only[okc,alZ,puZ,h1_7,h7_23,h7_26,h7_30,h7_33,h7_38,h7_41,h7_44,Bool.and_true,Bool.and_false,Bool.true_and,Bool.false_and,Bool.or_true,Bool.true_or,Bool.false_or,Bool.or_false,Bool.and_self,Bool.or_self]) (fF)
     have F:=aI h1_7 (aI h7_23 (aI h7_26 (aI h7_30 (aI h7_33 (aI h7_38 (aI h7_41 h7_44))))));iterate 5 refine SF ?_
     refine aG 48 rfl (fun h7_48=>?_) (fun h7_48=>?_)
     · simp only[h7_48];refine T4 ?_;exact key true _ _ _ (by simp only[okc,alZ,puZ,h1_7,h7_23,h7_26,h7_30,h7_33,h7_38,h7_41,h7_44,h7_48,Bool.and_true,Bool.and_false,Bool.true_and,Bool.false_and,Bool.or_true,Bool.true_or,Bool.false_or,Bool.or_false,Bool.and_self,Bool.or_self]) (fF)
     simp only[h7_48];refine T4 ?_;exact key false _ _ _ (by simp only[okc,alZ,puZ,h1_7,h7_23,h7_26,h7_30,h7_33,h7_38,h7_41,h7_44,h7_48,Bool.and_true,Bool.and_false,Bool.true_and,Bool.false_and,Bool.or_true,Bool.true_or,Bool.false_or,Bool.or_false,Bool.and_self,Bool.or_self]) (fF)
    have F:=aI h1_7 (aI h7_23 (aI h7_26 (aI h7_30 (aI h7_33 h7_38))));iterate 12 refine SF ?_
    refine T4 ?_;exact key false _ _ _ (by simp only[okc,alZ,puZ,h1_7,h7_23,h7_26,h7_30,h7_33,h7_38,Bool.and_true,Bool.and_false,Bool.true_and,Bool.false_and,Bool.or_true,Bool.true_or,Bool.false_or,Bool.or_false,Bool.and_self,Bool.or_self]) (fF)
   have F:=aI h1_7 (aI h7_23 (aI h7_26 h7_30));iterate 8 refine SF ?_
   refine aG 38 rfl (fun h7_38=>?_) (fun h7_38=>?_)
   ·
    have F:=aI h1_7 (aI h7_23 (aI h7_26 (aI h7_30 h7_38)));iterate 3 refine SF ?_
    refine aG 41 rfl (fun h7_41=>?_) (fun h7_41=>?_)
    ·
     have F:=aI h1_7 (aI h7_23 (aI h7_26 (aI h7_30 (aI h7_38 h7_41))));iterate 9 refine SF ?_
     refine T4 ?_;exact key true _ _ _ (by simp only[okc,alZ,puZ,h1_7,h7_23,h7_26,h7_30,h7_38,h7_41,Bool.and_true,Bool.and_false,Bool.true_and,Bool.false_and,Bool.or_true,Bool.true_or,Bool.false_or,Bool.or_false,Bool.and_self,Bool.or_self]) (fF)
    have F:=aI h1_7 (aI h7_23 (aI h7_26 (aI h7_30 (aI h7_38 h7_41))));iterate 4 refine SF ?_
    refine aG 44 rfl (fun h7_44=>?_) (fun h7_44=>?_)
    ·
     have F:=aI h1_7 (aI h7_23 (aI h7_26 (aI h7_30 (aI h7_38 (aI h7_41 h7_44)))));iterate 5 refine SF ?_
     refine T4 ?_;exact key true _ _ _ (by simp only[okc,alZ,puZ,h1_7,h7_23,h7_26,h7_30,h7_38,h7_41,h7_44,Bool.and_true,Bool.and_false,Bool.true_and,Bool.false_and,Bool.or_true,Bool.true_or,Bool.false_or,Bool.or_false,Bool.and_self,Bool.or_self]) (fF)
    have F:=aI h1_7 (aI h7_23 (aI h7_26 (aI h7_30 (aI h7_38 (aI h7_41 h7_44)))));iterate 5 refine SF ?_
    refine aG 48 rfl (fun h7_48=>?_) (fun h7_48=>?_)
    · simp only[h7_48];refine T4 ?_;exact key true _ _ _ (by simp only[okc,alZ,puZ,h1_7,h7_23,h7_26,h7_30,h7_38,h7_41,h7_44,h7_48,Bool.and_true,Bool.and_false,Bool.true_and,Bool.false_and,Bool.or_true,Bool.true_or,Bool.false_or,Bool.or_false,Bool.and_self,Bool.or_self]) (fF)
    simp only[h7_48];refine T4 ?_;exact key false _ _ _ (by simp only[okc,alZ,puZ,h1_7,h7_23,h7_26,h7_30,h7_38,h7_41,h7_44,h7_48,Bool.and_true,Bool.and_false,Bool.true_and,Bool.false_and,Bool.or_true,Bool.true_or,Bool.false_or,Bool.or_false,Bool.and_self,Bool.or_self]) (fF)
   have F:=aI h1_7 (aI h7_23 (aI h7_26 (aI h7_30 h7_38)));iterate 12 refine SF ?_
   refine T4 ?_;exact key false _ _ _ (by simp only[okc,alZ,puZ,h1_7,h7_23,h7_26,h7_30,h7_38,Bool.and_true,Bool.and_false,Bool.true_and,Bool.false_and,Bool.or_true,Bool.true_or,Bool.false_or,Bool.or_false,Bool.and_self,Bool.or_self]) (fF)
  have F:=aI h1_7 h7_23;iterate 7 refine SF ?_
  refine aG 30 rfl (fun h7_30=>?_) (fun h7_30=>?_)
  ·
   have F:=aI h1_7 (aI h7_23 h7_30);iterate 5 refine SF ?_
   refine aG 33 rfl (fun h7_33=>?_) (fun h7_33=>?_)
   ·
    have F:=aI h1_7 (aI h7_23 (aI h7_30 h7_33));iterate 15 refine SF ?_
    refine T4 ?_;exact key true _ _ _ (by simp only[okc,alZ,puZ,h1_7,h7_23,h7_30,h7_33,Bool.and_true,Bool.and_false,Bool.true_and,Bool.false_and,Bool.or_true,Bool.true_or,Bool.false_or,Bool.or_false,Bool.and_self,Bool.or_self]) (fF)
   have F:=aI h1_7 (aI h7_23 (aI h7_30 h7_33));iterate 3 refine SF ?_
   refine aG 38 rfl (fun h7_38=>?_) (fun h7_38=>?_)
   ·
    have F:=aI h1_7 (aI h7_23 (aI h7_30 (aI h7_33 h7_38)));iterate 3 refine SF ?_
    refine aG 41 rfl (fun h7_41=>?_) (fun h7_41=>?_)
    ·
     have F:=aI h1_7 (aI h7_23 (aI h7_30 (aI h7_33 (aI h7_38 h7_41))));iterate 9 refine SF ?_
     refine T4 ?_;exact key true _ _ _ (by simp only[okc,alZ,puZ,h1_7,h7_23,h7_30,h7_33,h7_38,h7_41,Bool.and_true,Bool.and_false,Bool.true_and,Bool.false_and,Bool.or_true,Bool.true_or,Bool.false_or,Bool.or_false,Bool.and_self,Bool.or_self]) (fF)
    have F:=aI h1_7 (aI h7_23 (aI h7_30 (aI h7_33 (aI h7_38 h7_41))));iterate 4 refine SF ?_
    refine aG 44 rfl (fun h7_44=>?_) (fun h7_44=>?_)
    ·
     have F:=aI h1_7 (aI h7_23 (aI h7_30 (aI h7_33 (aI h7_38 (aI h7_41 h7_44)))));iterate 5 refine SF ?_
     refine T4 ?_;exact key true _ _ _ (by simp only[okc,alZ,puZ,h1_7,h7_23,h7_30,h7_33,h7_38,h7_41,h7_44,Bool.and_true,Bool.and_false,Bool.true_and,Bool.false_and,Bool.or_true,Bool.true_or,Bool.false_or,Bool.or_false,Bool.and_self,Bool.or_self]) (fF)
    have F:=aI h1_7 (aI h7_23 (aI h7_30 (aI h7_33 (aI h7_38 (aI h7_41 h7_44)))));iterate 5 refine SF ?_
    refine aG 48 rfl (fun h7_48=>?_) (fun h7_48=>?_)
    · simp only[h7_48];refine T4 ?_;exact key true _ _ _ (by simp only[okc,alZ,puZ,h1_7,h7_23,h7_30,h7_33,h7_38,h7_41,h7_44,h7_48,Bool.and_true,Bool.and_false,Bool.true_and,Bool.false_and,Bool.or_true,Bool.true_or,Bool.false_or,Bool.or_false,Bool.and_self,Bool.or_self]) (fF)
    simp only[h7_48];refine T4 ?_;exact key false _ _ _ (by simp only[okc,alZ,puZ,h1_7,h7_23,h7_30,h7_33,h7_38,h7_41,h7_44,h7_48,Bool.and_true,Bool.and_false,Bool.true_and,Bool.false_and,Bool.or_true,Bool.true_or,Bool.false_or,Bool.or_false,Bool.and_self,Bool.or_self]) (fF)
   have F:=aI h1_7 (aI h7_23 (aI h7_30 (aI h7_33 h7_38)));iterate 12 refine SF ?_
   refine T4 ?_;exact key false _ _ _ (by simp only[okc,alZ,puZ,h1_7,h7_23,h7_30,h7_33,h7_38,Bool.and_true,Bool.and_false,Bool.true_and,Bool.false_and,Bool.or_true,Bool.true_or,Bool.false_or,Bool.or_false,Bool.and_self,Bool.or_self]) (fF)
  have F:=aI h1_7 (aI h7_23 h7_30);iterate 8 refine SF ?_
  refine aG 38 rfl (fun h7_38=>?_) (fun h7_38=>?_)
  ·
   have F:=aI h1_7 (aI h7_23 (aI h7_30 h7_38));iterate 3 refine SF ?_
   refine aG 41 rfl (fun h7_41=>?_) (fun h7_41=>?_)
   ·
    have F:=aI h1_7 (aI h7_23 (aI h7_30 (aI h7_38 h7_41)));iterate 9 refine SF ?_
    refine T4 ?_;exact key true _ _ _ (by simp only[okc,alZ,puZ,h1_7,h7_23,h7_30,h7_38,h7_41,Bool.and_true,Bool.and_false,Bool.true_and,Bool.false_and,Bool.or_true,Bool.true_or,Bool.false_or,Bool.or_false,Bool.and_self,Bool.or_self]) (fF)
   have F:=aI h1_7 (aI h7_23 (aI h7_30 (aI h7_38 h7_41)));iterate 4 refine SF ?_
   refine aG 44 rfl (fun h7_44=>?_) (fun h7_44=>?_)
   ·
    have F:=aI h1_7 (aI h7_23 (aI h7_30 (aI h7_38 (aI h7_41 h7_44))));iterate 5 refine SF ?_
    refine T4 ?_;exact key true _ _ _ (by simp only[okc,alZ,puZ,h1_7,h7_23,h7_30,h7_38,h7_41,h7_44,Bool.and_true,Bool.and_false,Bool.true_and,Bool.false_and,Bool.or_true,Bool.true_or,Bool.false_or,Bool.or_false,Bool.and_self,Bool.or_self]) (fF)
   have F:=aI h1_7 (aI h7_23 (aI h7_30 (aI h7_38 (aI h7_41 h7_44))));iterate 5 refine SF ?_
   refine aG 48 rfl (fun h7_48=>?_) (fun h7_48=>?_)
   · simp only[h7_48];refine T4 ?_;exact key true _ _ _ (by simp only[okc,alZ,puZ,h1_7,h7_23,h7_30,h7_38,h7_41,h7_44,h7_48,Bool.and_true,Bool.and_false,Bool.true_and,Bool.false_and,Bool.or_true,Bool.true_or,Bool.false_or,Bool.or_false,Bool.and_self,Bool.or_self]) (fF)
   simp only[h7_48];refine T4 ?_;exact key false _ _ _ (by simp only[okc,alZ,puZ,h1_7,h7_23,h7_30,h7_38,h7_41,h7_44,h7_48,Bool.and_true,Bool.and_false,Bool.true_and,Bool.false_and,Bool.or_true,Bool.true_or,Bool.false_or,Bool.or_false,Bool.and_self,Bool.or_self]) (fF)
  have F:=aI h1_7 (aI h7_23 (aI h7_30 h7_38));iterate 12 refine SF ?_
  refine T4 ?_;exact key false _ _ _ (by simp only[okc,alZ,puZ,h1_7,h7_23,h7_30,h7_38,Bool.and_true,Bool.and_false,Bool.true_and,Bool.false_and,Bool.or_true,Bool.true_or,Bool.false_or,Bool.or_false,Bool.and_self,Bool.or_self]) (fF)
 refine aZ (T3 ?_);clear hK K;refine AX (hK _ _ _ ?_);clear hK K;refine R0 ?_;refine aH (RT Tryz.results154 ?_);have hei:i=s.length:=by simp at hb;omega
 exact aJ [] (.bool true) rfl (by rw[lW.2 ⟨hlen,fun j h=>h0 j (by omega) h⟩])
theorem bX8 (s:aL)(hl:s.length<2^63):cE Tryz.prog 159 [.str s] (fun v=>v= .bool (eR s)):=by
 refine FW Tryz.func159 ?_;refine R0 ?_;refine aC fun K hK=>?_;refine aC fun K hK=>?_;have key: ∀(b:Bool) fr ob nx,b=gH s→Fits 0 fr ob (fin [(0,.c (.str s)),(26,.c (.bool b))]) (fob []) 600→K fr ob nx:=by
  rintro b fr ob nx rfl hf;refine hK _ _ _ (bJ hf ?_);clear hf hK K;refine aK (b:=gH s) rfl (fun hb=>?_) (fun hb=>?_)
  · refine R0 ?_;refine aH (RT Tryz.results159 ?_);exact aJ [] (.bool false) rfl (by rw[aZ0 hb])
  refine aM ?_;refine T0 (hK _ _ _ ?_);clear hK K;refine aC fun K hK=>?_;refine R0 ?_;refine aN ?_;have hbad:=hb;refine bH (α:={i:Nat//i≤s.length∧ ∀j (_:j<i) (h:j<s.length),(alZ s[j]||puZ s[j])=true}) (fun i=>(fin [(0,.c (.str s)),(3,.c (.int .i64 i.1))],fob [])) 100 (fun i=>s.length-i.1) ⟨0,by omega,fun j h=>by omega⟩ (fF) ?_;clear hb;rintro⟨i,hi,h0⟩;refine aC fun K hK=>?_;refine aC fun K hK=>Rg ?_;iterate 4 refine S0 ?_
  refine T2 (hK _ _ _ ?_);clear hK K;refine aK (b:=decide ((i:Int)<s.length)) rfl (fun hb=>?_) (fun hb=>?_)
  ·
   have hlt:i<s.length:=by simpa using hb
   have hgd:s.getD i 0=s[i]:=by simp[hlt]
   refine aM ?_;refine T0 (hK _ _ _ ?_);clear hK K;refine aC fun K hK=>?_;refine aN ?_;refine aC fun K hK=>Rg ?_;iterate 4 refine S0 ?_ (e:=fun _ h_=>by simp only[sH,↓sP,sA,tyS,simprocAttr,Int.natCast_nonneg,Int.ofNat_lt,hlt,hgd];exact AX h_)
   refine T2 (hK _ _ _ ?_);clear hK K;refine aC fun K hK=>?_;have key: ∀(b:Bool) fr ob nx,b=(!(alZ s[i]||puZ s[i]))→Fits 0 fr ob (fin [(0,.c (.str s)),(3,.c (.int .i64 i)),(62,.c (.bool b))]) (fob []) 600→K fr ob nx:=by
    rintro b fr ob nx rfl hf;refine hK _ _ _ (bJ hf ?_);clear hf hK K;refine aK (b:=!(alZ s[i]||puZ s[i])) rfl (fun hb=>?_) (fun hb=>?_)
    · refine R0 ?_;refine aH (RT Tryz.results159 ?_);exact aJ [] (.bool false) rfl (by rw[aZ1 hlt (by simpa using hb)])
    refine aM ?_;refine T0 (hK _ _ _ ?_);clear hK K;refine aE (by kernel_rfl) ?_;refine TQ (jE i) ?_;refine⟨⟨i+1,hlt,fun j hj h'=>?_⟩,fF,?_⟩
    ·
     rcases Nat.lt_or_ge j i with h1|h1
     · exact h0 j h1 h'
     have:j=i:=by omega
     subst this;rw[Bool.not_eq_false']at hb;exact hb
    show s.length-(i+1)<s.length-i;omega
   refine Rg ?_;iterate 3 refine S0 ?_
   refine aG 37 rfl (fun h7_37=>?_) (fun h7_37=>?_)
   ·
    have F:=h7_37;iterate 4 refine SF ?_
    refine aG 40 rfl (fun h7_40=>?_) (fun h7_40=>?_)
    ·
     have F:=aI h7_37 h7_40;iterate 20 refine SF ?_
     refine T4 ?_;exact key false _ _ _ (by simp only[alZ,puZ,h7_37,h7_40,Bool.and_true,Bool.and_false,Bool.true_and,Bool.false_and,Bool.or_true,Bool.true_or,Bool.false_or,Bool.or_false,Bool.and_self,Bool.or_self,Bool.not_true,Bool.not_false]) (fF)
    have F:=aI h7_37 h7_40;iterate 3 refine SF ?_
    refine aG 44 rfl (fun h7_44=>?_) (fun h7_44=>?_)
    ·
     have F:=aI h7_37 (aI h7_40 h7_44);iterate 5 refine SF ?_
     refine aG 47 rfl (fun h7_47=>?_) (fun h7_47=>?_)
     ·
      have F:=aI h7_37 (aI h7_40 (aI h7_44 h7_47));iterate 12 refine SF ?_
      refine T4 ?_;exact key false _ _ _ (by simp only[alZ,puZ,h7_37,h7_40,h7_44,h7_47,Bool.and_true,Bool.and_false,Bool.true_and,Bool.false_and,Bool.or_true,Bool.true_or,Bool.false_or,Bool.or_false,Bool.and_self,Bool.or_self,Bool.not_true,Bool.not_false]) (fF)
     have F:=aI h7_37 (aI h7_40 (aI h7_44 h7_47));iterate 4 refine SF ?_
     refine aG 52 rfl (fun h7_52=>?_) (fun h7_52=>?_)
     ·
      have F:=aI h7_37 (aI h7_40 (aI h7_44 (aI h7_47 h7_52)));iterate 8 refine SF ?_
      refine T4 ?_;exact key false _ _ _ (by simp only[alZ,puZ,h7_37,h7_40,h7_44,h7_47,h7_52,Bool.and_true,Bool.and_false,Bool.true_and,Bool.false_and,Bool.or_true,Bool.true_or,Bool.false_or,Bool.or_false,Bool.and_self,Bool.or_self,Bool.not_true,Bool.not_false]) (fF)
     have F:=aI h7_37 (aI h7_40 (aI h7_44 (aI h7_47 h7_52)));iterate 4 refine SF ?_
     refine aG 56 rfl (fun h7_56=>?_) (fun h7_56=>?_)
     ·
      have F:=aI h7_37 (aI h7_40 (aI h7_44 (aI h7_47 (aI h7_52 h7_56))));iterate 4 refine SF ?_
      refine T4 ?_;exact key false _ _ _ (by simp only[alZ,puZ,h7_37,h7_40,h7_44,h7_47,h7_52,h7_56,Bool.and_true,Bool.and_false,Bool.true_and,Bool.false_and,Bool.or_true,Bool.true_or,Bool.false_or,Bool.or_false,Bool.and_self,Bool.or_self,Bool.not_true,Bool.not_false]) (fF)
     have F:=aI h7_37 (aI h7_40 (aI h7_44 (aI h7_47 (aI h7_52 h7_56))));iterate 4 refine SF ?_
     refine aG 60 rfl (fun h7_60=>?_) (fun h7_60=>?_)
     · simp only[h7_60];refine T4 ?_;exact key false _ _ _ (by simp only[alZ,puZ,h7_37,h7_40,h7_44,h7_47,h7_52,h7_56,h7_60,Bool.and_true,Bool.and_false,Bool.true_and,Bool.false_and,Bool.or_true,Bool.true_or,Bool.false_or,Bool.or_false,Bool.and_self,Bool.or_self,Bool.not_true,Bool.not_false]) (fF)
     simp only[h7_60];refine T4 ?_;exact key true _ _ _ (by simp only[alZ,puZ,h7_37,h7_40,h7_44,h7_47,h7_52,h7_56,h7_60,Bool.and_true,Bool.and_false,Bool.true_and,Bool.false_and,Bool.or_true,Bool.true_or,Bool.false_or,Bool.or_false,Bool.and_self,Bool.or_self,Bool.not_true,Bool.not_false]) (fF)
    have F:=aI h7_37 (aI h7_40 h7_44);iterate 9 refine SF ?_
    refine aG 52 rfl (fun h7_52=>?_) (fun h7_52=>?_)
    ·
     have F:=aI h7_37 (aI h7_40 (aI h7_44 h7_52));iterate 8 refine SF ?_
     refine T4 ?_;exact key false _ _ _ (by simp only[alZ,puZ,h7_37,h7_40,h7_44,h7_52,Bool.and_true,Bool.and_false,Bool.true_and,Bool.false_and,Bool.or_true,Bool.true_or,Bool.false_or,Bool.or_false,Bool.and_self,Bool.or_self,Bool.not_true,Bool.not_false]) (fF)
    have F:=aI h7_37 (aI h7_40 (aI h7_44 h7_52));iterate 4 refine SF ?_
    refine aG 56 rfl (fun h7_56=>?_) (fun h7_56=>?_)
    ·
     have F:=aI h7_37 (aI h7_40 (aI h7_44 (aI h7_52 h7_56)));iterate 4 refine SF ?_
     refine T4 ?_;exact key false _ _ _ (by simp only[alZ,puZ,h7_37,h7_40,h7_44,h7_52,h7_56,Bool.and_true,Bool.and_false,Bool.true_and,Bool.false_and,Bool.or_true,Bool.true_or,Bool.false_or,Bool.or_false,Bool.and_self,Bool.or_self,Bool.not_true,Bool.not_false]) (fF)
    have F:=aI h7_37 (aI h7_40 (aI h7_44 (aI h7_52 h7_56)));iterate 4 refine SF ?_
    refine aG 60 rfl (fun h7_60=>?_) (fun h7_60=>?_)
    · simp only[h7_60];refine T4 ?_;exact key false _ _ _ (by simp only[alZ,puZ,h7_37,h7_40,h7_44,h7_52,h7_56,h7_60,Bool.and_true,Bool.and_false,Bool.true_and,Bool.false_and,Bool.or_true,Bool.true_or,Bool.false_or,Bool.or_false,Bool.and_self,Bool.or_self,Bool.not_true,Bool.not_false]) (fF)
    simp only[h7_60];refine T4 ?_;exact key true _ _ _ (by simp only[alZ,puZ,h7_37,h7_40,h7_44,h7_52,h7_56,h7_60,Bool.and_true,Bool.and_false,Bool.true_and,Bool.false_and,Bool.or_true,Bool.true_or,Bool.false_or,Bool.or_false,Bool.and_self,Bool.or_self,Bool.not_true,Bool.not_false]) (fF)
   have F:=h7_37;iterate 7 refine SF ?_
   refine aG 44 rfl (fun h7_44=>?_) (fun h7_44=>?_)
   ·
    have F:=aI h7_37 h7_44;iterate 5 refine SF ?_
    refine aG 47 rfl (fun h7_47=>?_) (fun h7_47=>?_)
    ·
     have F:=aI h7_37 (aI h7_44 h7_47);iterate 12 refine SF ?_
     refine T4 ?_;exact key false _ _ _ (by simp only[alZ,puZ,h7_37,h7_44,h7_47,Bool.and_true,Bool.and_false,Bool.true_and,Bool.false_and,Bool.or_true,Bool.true_or,Bool.false_or,Bool.or_false,Bool.and_self,Bool.or_self,Bool.not_true,Bool.not_false]) (fF)
    have F:=aI h7_37 (aI h7_44 h7_47);iterate 4 refine SF ?_
    refine aG 52 rfl (fun h7_52=>?_) (fun h7_52=>?_)
    ·
     have F:=aI h7_37 (aI h7_44 (aI h7_47 h7_52));iterate 8 refine SF ?_
     refine T4 ?_;exact key false _ _ _ (by simp only[alZ,puZ,h7_37,h7_44,h7_47,h7_52,Bool.and_true,Bool.and_false,Bool.true_and,Bool.false_and,Bool.or_true,Bool.true_or,Bool.false_or,Bool.or_false,Bool.and_self,Bool.or_self,Bool.not_true,Bool.not_false]) (fF)
    have F:=aI h7_37 (aI h7_44 (aI h7_47 h7_52));iterate 4 refine SF ?_
    refine aG 56 rfl (fun h7_56=>?_) (fun h7_56=>?_)
    ·
     have F:=aI h7_37 (aI h7_44 (aI h7_47 (aI h7_52 h7_56)));iterate 4 refine SF ?_
     refine T4 ?_;exact key false _ _ _ (by simp only[alZ,puZ,h7_37,h7_44,h7_47,h7_52,h7_56,Bool.and_true,Bool.and_false,Bool.true_and,Bool.false_and,Bool.or_true,Bool.true_or,Bool.false_or,Bool.or_false,Bool.and_self,Bool.or_self,Bool.not_true,Bool.not_false]) (fF)
    have F:=aI h7_37 (aI h7_44 (aI h7_47 (aI h7_52 h7_56)));iterate 4 refine SF ?_
    refine aG 60 rfl (fun h7_60=>?_) (fun h7_60=>?_)
    · simp only[h7_60];refine T4 ?_;exact key false _ _ _ (by simp only[alZ,puZ,h7_37,h7_44,h7_47,h7_52,h7_56,h7_60,Bool.and_true,Bool.and_false,Bool.true_and,Bool.false_and,Bool.or_true,Bool.true_or,Bool.false_or,Bool.or_false,Bool.and_self,Bool.or_self,Bool.not_true,Bool.not_false]) (fF)
    simp only[h7_60];refine T4 ?_;exact key true _ _ _ (by simp only[alZ,puZ,h7_37,h7_44,h7_47,h7_52,h7_56,h7_60,Bool.and_true,Bool.and_false,Bool.true_and,Bool.false_and,Bool.or_true,Bool.true_or,Bool.false_or,Bool.or_false,Bool.and_self,Bool.or_self,Bool.not_true,Bool.not_false]) (fF)
   have F:=aI h7_37 h7_44;iterate 9 refine SF ?_
   refine aG 52 rfl (fun h7_52=>?_) (fun h7_52=>?_)
   ·
    have F:=aI h7_37 (aI h7_44 h7_52);iterate 8 refine SF ?_
    refine T4 ?_;exact key false _ _ _ (by simp only[alZ,puZ,h7_37,h7_44,h7_52,Bool.and_true,Bool.and_false,Bool.true_and,Bool.false_and,Bool.or_true,Bool.true_or,Bool.false_or,Bool.or_false,Bool.and_self,Bool.or_self,Bool.not_true,Bool.not_false]) (fF)
   have F:=aI h7_37 (aI h7_44 h7_52);iterate 4 refine SF ?_
   refine aG 56 rfl (fun h7_56=>?_) (fun h7_56=>?_)
   ·
    have F:=aI h7_37 (aI h7_44 (aI h7_52 h7_56));iterate 4 refine SF ?_
    refine T4 ?_;exact key false _ _ _ (by simp only[alZ,puZ,h7_37,h7_44,h7_52,h7_56,Bool.and_true,Bool.and_false,Bool.true_and,Bool.false_and,Bool.or_true,Bool.true_or,Bool.false_or,Bool.or_false,Bool.and_self,Bool.or_self,Bool.not_true,Bool.not_false]) (fF)
   have F:=aI h7_37 (aI h7_44 (aI h7_52 h7_56));iterate 4 refine SF ?_
   refine aG 60 rfl (fun h7_60=>?_) (fun h7_60=>?_)
   · simp only[h7_60];refine T4 ?_;exact key false _ _ _ (by simp only[alZ,puZ,h7_37,h7_44,h7_52,h7_56,h7_60,Bool.and_true,Bool.and_false,Bool.true_and,Bool.false_and,Bool.or_true,Bool.true_or,Bool.false_or,Bool.or_false,Bool.and_self,Bool.or_self,Bool.not_true,Bool.not_false]) (fF)
   simp only[h7_60];refine T4 ?_;exact key true _ _ _ (by simp only[alZ,puZ,h7_37,h7_44,h7_52,h7_56,h7_60,Bool.and_true,Bool.and_false,Bool.true_and,Bool.false_and,Bool.or_true,Bool.true_or,Bool.false_or,Bool.or_false,Bool.and_self,Bool.or_self,Bool.not_true,Bool.not_false]) (fF)
  refine aZ (T3 ?_);clear hK K;refine AX (hK _ _ _ ?_);clear hK K;refine R0 ?_;refine aH (RT Tryz.results159 ?_);have hei:i=s.length:=by simp at hb;omega
  exact aJ [] (.bool true) rfl (by rw[bL2 hbad fun j h=>h0 j (by omega) h])
 refine Rg ?_;have F:=@mQ;iterate 3 refine SF ?_
 refine aG 6 rfl (fun h1_6=>?_) (fun h1_6=>?_)
 ·
  have F:=aI @mQ h1_6;iterate 19 refine SF ?_
  refine T4 ?_;exact key true _ _ _ (by simp only[gH,gb,h1_6,Bool.and_true,Bool.and_false,Bool.true_and,Bool.false_and,Bool.or_true,Bool.true_or,Bool.false_or,Bool.or_false,Bool.and_self,Bool.or_self]) (fF)
 have F:=aI @mQ h1_6;iterate 5 refine SF ?_
 refine aG 10 rfl (fun h1_10=>?_) (fun h1_10=>?_)
 ·
  have F:=aI @mQ (aI h1_6 h1_10);iterate 14 refine SF ?_
  refine T4 ?_;exact key true _ _ _ (by simp only[gH,gb,h1_6,h1_10,Bool.and_true,Bool.and_false,Bool.true_and,Bool.false_and,Bool.or_true,Bool.true_or,Bool.false_or,Bool.or_false,Bool.and_self,Bool.or_self]) (fF)
 have F:=aI @mQ (aI h1_6 h1_10);iterate 5 refine SF ?_
 refine aG 15 rfl (fun h1_15=>?_) (fun h1_15=>?_)
 ·
  have F:=aI @mQ (aI h1_6 (aI h1_10 h1_15));iterate 9 refine SF ?_
  refine T4 ?_;exact key true _ _ _ (by simp only[gH,gb,h1_6,h1_10,h1_15,Bool.and_true,Bool.and_false,Bool.true_and,Bool.false_and,Bool.or_true,Bool.true_or,Bool.false_or,Bool.or_false,Bool.and_self,Bool.or_self]) (fF)
 have F:=aI @mQ (aI h1_6 (aI h1_10 h1_15));iterate 5 refine SF ?_
 refine aG 20 rfl (fun h1_20=>?_) (fun h1_20=>?_)
 ·
  have F:=aI @mQ (aI h1_6 (aI h1_10 (aI h1_15 h1_20)));iterate 4 refine SF ?_
  refine T4 ?_;exact key true _ _ _ (by simp only[gH,gb,h1_6,h1_10,h1_15,h1_20,Bool.and_true,Bool.and_false,Bool.true_and,Bool.false_and,Bool.or_true,Bool.true_or,Bool.false_or,Bool.or_false,Bool.and_self,Bool.or_self]) (fF)
 have F:=aI @mQ (aI h1_6 (aI h1_10 (aI h1_15 h1_20)));iterate 4 refine SF ?_
 refine aG 25 rfl (fun h1_25=>?_) (fun h1_25=>?_)
 · simp only[h1_25];refine T4 ?_;exact key true _ _ _ (by simp only[gH,gb,h1_6,h1_10,h1_15,h1_20,h1_25,Bool.and_true,Bool.and_false,Bool.true_and,Bool.false_and,Bool.or_true,Bool.true_or,Bool.false_or,Bool.or_false,Bool.and_self,Bool.or_self]) (fF)
 simp only[h1_25];refine T4 ?_;exact key false _ _ _ (by simp only[gH,gb,h1_6,h1_10,h1_15,h1_20,h1_25,Bool.and_true,Bool.and_false,Bool.true_and,Bool.false_and,Bool.or_true,Bool.true_or,Bool.false_or,Bool.or_false,Bool.and_self,Bool.or_self]) (fF)
theorem sF (c:UInt8):cE Tryz.prog 111 [.int .u8 c.toNat] (fun v=>v= .bool (eJ c)):=by
 refine FW Tryz.func111 ?_;refine R0 ?_;refine aC fun K hK=>Rg ?_;iterate 3 refine S0 ?_
 refine aG 4 rfl (fun h1_4=>?_) (fun h1_4=>?_)
 ·
  have F:=h1_4;iterate 4 refine SF ?_
  refine aG 7 rfl (fun h1_7=>?_) (fun h1_7=>?_)
  ·
   have F:=aI h1_4 h1_7;iterate 4 refine SF ?_
   refine T2 (hK _ _ _ ?_);clear hK K;refine aH (RT Tryz.results111 ?_);refine aJ [] (.bool _) rfl ?_;simp[h1_4,h1_7,eJ];all_goals first|rfl|simp_all|omega
  have F:=aI h1_4 h1_7;iterate 4 refine SF ?_
  refine T2 (hK _ _ _ ?_);clear hK K;refine aH (RT Tryz.results111 ?_);refine aJ [] (.bool _) rfl ?_;simp[h1_4,h1_7,eJ];all_goals first|rfl|simp_all|omega
 have F:=h1_4;iterate 8 refine SF ?_
 refine T2 (hK _ _ _ ?_);clear hK K;refine aH (RT Tryz.results111 ?_);refine aJ [] (.bool _) rfl ?_;simp[h1_4,eJ];all_goals first|rfl|simp_all|omega
theorem bE5 (w:aL)(hl:w.length<2^40):cE Tryz.prog 84 [.str w] (fun v=>v= .int .i64 (sizeW w:Nat)):=by
 refine FW Tryz.func84 ?_;refine R0 ?_;refine R0 ?_;refine aC fun K hK=>?_;refine R0 ?_;refine aN ?_;refine bH (α:={i:Nat//i≤w.length}) (fun i=>(fin [(0,.c (.str w)),(3,.c (.int .i64 (dL (w.take i.1)).length)),(4,.c (.int .i64 i.1))],fob [])) 100 (fun i=>w.length-i.1) ⟨0,by omega⟩ (fF) ?_;rintro⟨i,hi⟩;have hle:=pP w i;have hle3:=xT w;refine aC fun K hK=>?_;refine aC fun K hK=>Rg ?_;iterate 4 refine S0 ?_
 refine T2 (hK _ _ _ ?_);clear hK K;refine aK (b:=decide ((i:Int)<w.length)) rfl (fun hb=>?_) (fun hb=>?_)
 ·
  have hlt:i<w.length:=by simpa using hb
  have hgd:w.getD i 0=w[i]:=by simp[hlt]
  have hs:=xU hlt;refine aM ?_;refine T0 (hK _ _ _ ?_);clear hK K;refine aC fun K hK=>?_;refine aN ?_;have F:=IntWalk.i64_in _ (show-9223372036854775808≤((dL (w.take i)).length:Int)+1∧((dL (w.take i)).length:Int)+1≤9223372036854775807 by omega);refine RF ?_;refine aC fun K hK=>Rg ?_;iterate 3 refine S0 ?_ (e:=fun _ h_=>by simp only[sH,↓sP,sA,tyS,simprocAttr,Int.natCast_nonneg,Int.ofNat_lt,hlt,hgd];exact AX h_)
  refine HS rfl rfl fun K' hK'=>?_;simp only[sH,↓sP,sA,tyS,simprocAttr,Int.natCast_nonneg,Int.ofNat_lt,hlt,hgd];refine C1 (sF w[i]) ?_;rintro u rfl;refine AX (hK' _ _ ?_);clear hK' K';refine S0 ?_ (e:=fun _ h_=>by simp only[sH,↓sP,sA,tyS,simprocAttr,Int.natCast_nonneg,Int.ofNat_lt,hlt,hgd];exact AX h_);refine T2 (hK _ _ _ ?_);clear hK K;refine aK (b:=!eJ w[i]) rfl (fun hb=>?_) (fun hb=>?_)
  ·
   refine aE (by kernel_rfl) ?_;refine TQ (IntWalk.i64_in _ (show-9223372036854775808≤((dL (w.take i)).length:Int)+1+2∧((dL (w.take i)).length:Int)+1+2≤9223372036854775807 by omega)) ?_;refine AX (hK _ _ _ ?_);clear hK K;refine aE (by kernel_rfl) ?_;refine TQ (jE i) ?_;have hp:eJ w[i]=false:=by simpa using hb
   have he:((dL (w.take i)).length:Int)+1+2=((dL (w.take (i+1))).length:Int):=by
    rw[hs,List.length_append,nA,if_neg (by rw[hp];simp)];simp;omega
   simp only[he];refine⟨⟨i+1,hlt⟩,fF,?_⟩;show w.length-(i+1)<w.length-i;omega
  refine aM ?_;refine T0 (hK _ _ _ ?_);clear hK K;refine aE (by kernel_rfl) ?_;refine TQ (jE i) ?_;have hp:eJ w[i]=true:=by simpa using hb
  have he:((dL (w.take i)).length:Int)+1=((dL (w.take (i+1))).length:Int):=by
   rw[hs,List.length_append,nA,if_pos hp];simp
  simp only[he];refine⟨⟨i+1,hlt⟩,fF,?_⟩;show w.length-(i+1)<w.length-i;omega
 refine aZ (T3 ?_);clear hK K;refine AX (hK _ _ _ ?_);clear hK K;have F:=@cW1;refine RF ?_;refine aH (RT Tryz.results84 ?_);have hei:i=w.length:=by simp at hb;omega
 subst hei;exact aJ [] (.int .i64 (sizeW w:Nat)) (by rw[List.take_length];rfl) rfl
theorem bE6 (w:aL)(hl:w.length<2^40):cE Tryz.prog 85 [.str w] (fun v=>v= .str (mO w)):=by
 refine FW Tryz.func85 ?_;refine R0 ?_;refine aC fun K hK=>?_;refine R0 ?_;refine aK (b:=w==[]) rfl (fun hb=>?_) (fun hb=>?_)
 · refine R0 ?_;refine aH (RT Tryz.results85 ?_);exact aJ [] (.str [126]) rfl (by rw[mO,if_pos (by simpa using hb)])
 refine aM ?_;refine T0 (hK _ _ _ ?_);clear hK K;have hne:w≠[]:=by simpa using hb
 have hz:(sizeW w:Int)≤140737488355328:=by have:=dV w;omega
 clear hb;refine aC fun K hK=>Rg ?_;have F:=aI @Int.natCast_nonneg (aI hz @Int.mul_one);refine SF ?_;refine HS rfl rfl fun K' hK'=>T6 ?_;refine C1 (bE5 w hl) ?_;rintro u rfl;refine AX (hK' _ _ ?_);clear hK' K';iterate 2 refine SF ?_
 refine T2 (hK _ _ _ ?_);clear hK K;refine aC fun K hK=>?_;refine R0 ?_;refine aN ?_;refine bH (α:={i:Nat//i≤w.length}) (fun i=>(fin [(0,.c (.str w)),(3,.own 20 (dL (w.take i.1)).length),(4,.c (.int .i64 i.1))],fob [(20,.row 5 1 ((dL (w.take i.1)).map eY))])) 100 (fun i=>w.length-i.1) ⟨0,by omega⟩ (fF) ?_;rintro⟨i,hi⟩;have hle:=pP w i;have hle3:=xT w;refine aC fun K hK=>?_;refine aC fun K hK=>Rg ?_;iterate 4 refine S0 ?_
 refine T2 (hK _ _ _ ?_);clear hK K;refine aK (b:=decide ((i:Int)<w.length)) rfl (fun hb=>?_) (fun hb=>?_)
 ·
  have hlt:i<w.length:=by simpa using hb
  have hgd:w.getD i 0=w[i]:=by simp[hlt]
  have hs:=xU hlt;refine aM ?_;refine T0 (hK _ _ _ ?_);clear hK K;refine aC fun K hK=>?_;refine aN ?_;refine aC fun K hK=>Rg ?_;iterate 3 refine S0 ?_ (e:=fun _ h_=>by simp only[sH,↓sP,sA,tyS,simprocAttr,Int.natCast_nonneg,Int.ofNat_lt,hlt,hgd];exact AX h_)
  refine HS rfl rfl fun K' hK'=>?_;simp only[sH,↓sP,sA,tyS,simprocAttr,Int.natCast_nonneg,Int.ofNat_lt,hlt,hgd];refine C1 (sF w[i]) ?_;rintro u rfl;refine AX (hK' _ _ ?_);clear hK' K';refine T2 (hK _ _ _ ?_);clear hK K;refine aK (b:=eJ w[i]) rfl (fun hb=>?_) (fun hb=>?_)
  ·
   refine Rg ?_;iterate 7 refine S0 ?_ (e:=fun _ h_=>by simp only[sH,↓sP,sA,tyS,simprocAttr,Int.natCast_nonneg,Int.ofNat_lt,hlt,hgd,List.length_append,List.length_map];exact AX h_)
   refine T2 (hK _ _ _ ?_);clear hK K;refine aE (by kernel_rfl) ?_;refine TQ (jE i) ?_;refine⟨⟨i+1,hlt⟩,aO (by omega) ?_ ?_,?_⟩
   · rw[hs,nA,if_pos hb];simp[aX,upd_at,fin_at,HV.men]
   · rw[hs,nA,if_pos hb,List.map_append];exact⟨rfl,by omega,trivial,trivial⟩
   show w.length-(i+1)<w.length-i;omega
  have h16:((w[i].toNat/16:Nat):Int)<16:=by have:=w[i].toNat_lt;omega
  have h15:((w[i].toNat%16:Nat):Int)<16:=by omega
  refine DW [(0,[],[]),(1,[],[]),(2,[],[]),(3,[],[]),(4,[],[]),(5,[],[]),(6,[],[]),(7,[],[]),(8,[],[]),(9,[],[]),(10,[],[]),(11,[],[]),(12,[],[]),(13,[],[])] [0,0,0,6,14,30,0,0,192,448,960,2046,4095,8191] ?_;iterate 14 refine W0 ?_ (e:=fun _ h_=>by simp only[sH,↓sP,sA,tyS,simprocAttr,Int.natCast_nonneg,Int.ofNat_lt,hlt,hgd,List.length_append,List.length_map,cW2,cS5,h16,h15];exact AX h_)
  refine T2 (hK _ _ _ ?_);clear hK K;refine aE (by kernel_rfl) ?_;refine TQ (jE i) ?_;refine⟨⟨i+1,hlt⟩,aO (by omega) ?_ ?_,?_⟩
  · rw[hs,nA,if_neg (by rw[hb];simp)];simp[aX,upd_at,fin_at,HV.men]
  · rw[hs,nA,if_neg (by rw[hb];simp),List.map_append];exact⟨rfl,by omega,trivial,trivial⟩
  show w.length-(i+1)<w.length-i;omega
 refine aZ (T3 ?_);clear hK K;refine AX (hK _ _ _ ?_);clear hK K;refine fL [20] (bJ (fr2:=fin [(3,.c (.slc ((dL (w.take i)).map eY)))]) (ob2:=fob []) (nx2:=200) (aO (by omega) (by simp[aX,fS,fin_at,finA_at,upd_at,fob_at,HV.close,HV.closeL,CV.denil,CV.denilL,cP,HV.men,HV.menL,HV.norm,HV.toC,HV.toCL]) (by simp[aY,iH,fob_at,upd_at,none0_at,bO,HO.close,HV.close,HV.closeL,HO.men,HV.men,HV.menL,HV.norm,HV.toC,HV.toCL])) ?_);have F:=@bytesC_map;refine RF ?_;refine aH (RT Tryz.results85 ?_);have hei:i=w.length:=by simp at hb;omega
 subst hei;exact aJ [] (.str (dL w)) (by rw[List.take_length];rfl) (by rw[mO,if_neg hne])
theorem aR3 (l:List aL)(hl:l.length<2^40):cE Tryz.prog 83 [.slc (l.map .str)] (fun v=>v= .int .i64 (tT l)):=by
 refine FW Tryz.func83 ?_;refine R0 ?_;refine aC fun K hK=>?_;refine aN ?_;refine aC fun K hK=>Rg ?_;iterate 4 refine S0 ?_
 refine T2 (hK _ _ _ ?_);clear hK K;refine aK (b:=(l.length:Int)==0) rfl (fun hb=>?_) (fun hb=>?_)
 · refine R0 ?_;refine aH (RT Tryz.results83 ?_);exact aJ [] (.int .i64 1) rfl (by rw[tT,if_pos (by simp at hb;simp[hb])])
 have hn0:l.length≠0:=by simp at hb;simp[hb]
 clear hb;refine aC fun K hK=>Rg ?_;iterate 4 refine S0 ?_
 refine T2 (hK _ _ _ ?_);clear hK K;refine aK (b:=decide ((120:Int)<l.length)) rfl (fun hb=>?_) (fun hb=>?_)
 · refine R0 ?_;refine aH (RT Tryz.results83 ?_);exact aJ [] (.int .i64 3) rfl (by rw[tT,if_neg hn0,if_pos (by simp at hb;omega)])
 refine aM ?_;refine T0 (hK _ _ _ ?_);clear hK K;refine aC fun K hK=>?_;have hn1:l.length≤120:=by simp at hb;omega
 clear hb;refine R0 ?_;refine aN ?_;refine bH (α:={i:Nat//i≤l.length∧ ∀x∈l.take i,decide (32768<x.length)=false}) (fun i=>(fin [(13,.c (.slc (l.map .str))),(14,.c (.int .i64 l.length)),(15,.c (.int .i64 i.1))],fob [])) 100 (fun i=>l.length-i.1) ⟨0,by omega,by simp⟩ (fF) ?_;rintro⟨i,hi,h0⟩;refine R0 ?_;refine aC fun K hK=>?_;refine aK (b:=decide ((i:Int)<l.length)) rfl (fun hb=>?_) (fun hb=>?_)
 ·
  have hlt:i<l.length:=by simpa using hb
  clear hb;refine aM ?_;refine T0 (hK _ _ _ ?_);clear hK K;refine aC fun K hK=>?_;refine aN ?_;have F:=aI @Int.natCast_nonneg (aI @Int.ofNat_lt (aI hlt (nM hlt)));refine RF ?_;refine R0 ?_;refine aK (b:=decide ((32768:Int)<l[i].length)) rfl (fun hb=>?_) (fun hb=>?_)
  · refine R0 ?_;refine aH (RT Tryz.results83 ?_);exact aJ [] (.int .i64 3) rfl (by rw[tT,if_neg hn0,if_neg (by omega),if_pos];simp only[List.any_eq_true,decide_eq_true_eq];exact⟨_,List.getElem_mem hlt,by simp at hb;omega⟩)
  refine aM ?_;refine T0 (hK _ _ _ ?_);clear hK K;refine aE (by kernel_rfl) ?_;refine TQ (jE i) ?_;have hb2:decide (32768<l[i].length)=false:=by simp at hb⊢;omega
  refine⟨⟨i+1,hlt,aD9 (p:=fun x=>decide (32768<x.length)) hlt hb2 h0⟩,fF,?_⟩;show l.length-(i+1)<l.length-i;omega
 refine aZ (T3 ?_);clear hK K;refine AX (hK _ _ _ ?_);clear hK K;refine R0 ?_;refine aH (RT Tryz.results83 ?_);have hei:i=l.length:=by simp at hb;omega
 subst hei;rw[List.take_length]at h0;exact aJ [] (.int .i64 0) rfl (by rw[tT,if_neg hn0,if_neg (by omega),if_neg];simp only[List.any_eq_true,not_exists,not_and];intro x hx;simp[h0 x hx])
theorem cO5 (ls:List (List aL))(h0:ls.length<2^40)(h1: ∀l∈ls,l.length<2^40):iJ Tryz.prog 48 [.slc (ls.map fun l=> .slc (l.map .str))] (fun u v=>u= .slc ((rV ls).map eY)∧v= .int .i64 (nY ls)):=by
 refine FW Tryz.func48 ?_;refine R0 ?_;refine aC fun K hK=>?_;refine R0 ?_;refine aK (b:=decide ((1000:Int)<ls.length)) rfl (fun hb=>?_) (fun hb=>?_)
 · refine R0 ?_;refine aH (RT Tryz.results48 ?_);have hE:=bK2 (ls:=ls) (by simp at hb;omega);refine bD [] (.slc []) (.int .i64 3) ?_ ⟨by rw[xW (by rw[hE];decide)];rfl,by rw[hE]⟩;simp[HV.close,HV.closeL,CV.denil,CV.denilL,HV.norm,HV.toC,HV.toCL]
 refine aM ?_;refine T0 (hK _ _ _ ?_);clear hK K;refine aC fun K hK=>?_;have hn:ls.length≤1000:=by simp at hb;omega
 clear hb;refine R0 ?_;refine aN ?_;refine bH (α:={i:Nat//i≤ls.length∧ ∀x∈ls.take i,okL x=true}) (fun i=>(fin [(0,.c (.slc (ls.map fun l=> .slc (l.map .str)))),(20,.c (.slc (ls.map fun l=> .slc (l.map .str)))),(21,.c (.int .i64 ls.length)),(22,.c (.int .i64 i.1))],fob [])) 100 (fun i=>ls.length-i.1) ⟨0,by omega,by simp⟩ (fF) ?_;rintro⟨i,hi,hk⟩;refine R0 ?_;refine aC fun K hK=>?_;refine aK (b:=decide ((i:Int)<ls.length)) rfl (fun hb=>?_) (fun hb=>?_)
 ·
  have hlt:i<ls.length:=by simpa using hb
  clear hb;have hl1:=h1 ls[i] (List.getElem_mem hlt);refine aM ?_;refine T0 (hK _ _ _ ?_);clear hK K;refine aC fun K hK=>?_;refine aN ?_;have F:=aI @Int.natCast_nonneg (aI @Int.ofNat_lt (aI hlt (nM hlt)));refine RF ?_;refine aC fun K hK=>Rg ?_;refine S0 ?_;refine HS rfl rfl fun K' hK'=>T5 ?_;refine C1 (aR3 ls[i] hl1) ?_;rintro u rfl;refine AX (hK' _ _ ?_);clear hK' K';refine S0 ?_;refine T2 (hK _ _ _ ?_);clear hK K;refine R0 ?_;refine aK (b:=tT ls[i] !=0) rfl (fun hb=>?_) (fun hb=>?_)
  · refine R0 ?_;refine aH (RT Tryz.results48 ?_);have hE:=bU1 hn hlt hk (by simpa[okL]using hb);refine bD [] (.slc []) (.int .i64 (tT ls[i])) ?_ ⟨by rw[xW (by rw[hE];simpa using hb)];rfl,by rw[hE]⟩;simp[HV.close,HV.closeL,CV.denil,CV.denilL,HV.norm,HV.toC,HV.toCL]
  refine aM ?_;refine T0 (hK _ _ _ ?_);clear hK K;refine aE (by kernel_rfl) ?_;refine TQ (jE i) ?_;refine⟨⟨i+1,hlt,?_⟩,fF,?_⟩
  ·
   intro x hx;rw[List.take_succ_eq_append_getElem hlt,List.mem_append,List.mem_singleton]at hx;rcases hx with hx|rfl
   · exact hk x hx
   simpa[okL]using hb
  show ls.length-(i+1)<ls.length-i;omega
 have hei:i=ls.length:=by simp at hb;omega
 subst hei;clear hb;rw[List.take_length]at hk;have hne: ∀l∈ls,l≠[]:=fun l hl=>((jS l).1 (hk l hl)).1;have hsd:=cE7 hk;have hdl:=rT hne;have hE:=bD4 hn hk;have hst: ∀j,sumD (ls.take j)≤sumD ls:=fun j=>aJ1 ls j;have hdt: ∀j,(jR (ls.take j)).length≤sumD ls:=fun j=>by rw[rT fun l hl=>hne l (List.mem_of_mem_take hl)];exact hst j
 refine aZ (T3 ?_);clear hK K;refine AX (hK _ _ _ ?_);clear hK K;refine R0 ?_;refine aC fun K hK=>?_;refine R0 ?_;refine aN ?_;refine bH (α:={i:Nat//i≤ls.length}) (fun i=>(fin [(0,.c (.slc (ls.map fun l=> .slc (l.map .str)))),(7,.c (.int .i64 (sumD (ls.take i.1):Nat))),(32,.c (.slc (ls.map fun l=> .slc (l.map .str)))),(33,.c (.int .i64 ls.length)),(34,.c (.int .i64 i.1))],fob [])) 200 (fun i=>ls.length-i.1) ⟨0,by omega⟩ (fF) ?_;rintro⟨i,hi⟩;refine R0 ?_;refine aC fun K hK=>?_;refine aK (b:=decide ((i:Int)<ls.length)) rfl (fun hb=>?_) (fun hb=>?_)
 ·
  have hlt:i<ls.length:=by simpa using hb
  clear hb;have hst1:=bK1 hlt;have hst2:=hst (i+1);obtain⟨l,hl⟩: ∃l,l=ls[i]:=⟨_,rfl⟩;obtain⟨hl0,hl1,hl2⟩:=(jS l).1 (hk l (by rw[hl];exact List.getElem_mem hlt));have hln:nth (ls.map fun l=>CV.slc (l.map .str)) i= .slc (l.map .str):=by rw[bK hlt,hl]
  rw[←hl]at hst1;refine aM ?_;refine T0 (hK _ _ _ ?_);clear hK K;refine aC fun K hK=>?_;refine aN ?_;have F:=aI @Int.natCast_nonneg (aI @Int.ofNat_lt (aI hlt hln));refine RF ?_;refine R0 ?_;refine aN ?_;refine bH (α:={i:Nat//i≤l.length}) (fun k=>(fin [(0,.c (.slc (ls.map fun l=> .slc (l.map .str)))),(7,.c (.int .i64 (sumD (ls.take i)+gS (l.take k.1):Nat))),(32,.c (.slc (ls.map fun l=> .slc (l.map .str)))),(33,.c (.int .i64 ls.length)),(34,.c (.int .i64 i)),(38,.c (.slc (l.map .str))),(39,.c (.int .i64 l.length)),(40,.c (.int .i64 k.1))],fob [])) 300 (fun k=>l.length-k.1) ⟨0,by omega⟩ (fF) ?_;rintro⟨k,hk'⟩;refine R0 ?_;refine aC fun K hK=>?_;refine aK (b:=decide ((k:Int)<l.length)) rfl (fun hb=>?_) (fun hb=>?_)
  ·
   have hlk:k<l.length:=by simpa using hb
   clear hb;have hlt1:=bK0 hlk;have hlt2:=rU l (k+1);have hw2:=hl2 l[k] (List.getElem_mem hlk);refine aM ?_;refine T0 (hK _ _ _ ?_);clear hK K;refine aC fun K hK=>?_;refine aN ?_;have F:=aI @Int.natCast_nonneg (aI @Int.ofNat_lt (aI hlk (nM hlk)));refine RF ?_;refine Rg ?_;have F:=aI (IntWalk.i64_in _ (show-9223372036854775808≤((sizeW l[k]:Nat):Int)+1∧((sizeW l[k]:Nat):Int)+1≤9223372036854775807 by omega)) (IntWalk.i64_in _ (show-9223372036854775808≤((sumD (ls.take i)+gS (l.take k):Nat):Int)+(((sizeW l[k]:Nat):Int)+1)∧((sumD (ls.take i)+gS (l.take k):Nat):Int)+(((sizeW l[k]:Nat):Int)+1)≤9223372036854775807 by omega));iterate 2 refine SF ?_
   refine HS rfl rfl fun K' hK'=>T6 ?_;refine C1 (bE5 l[k] (by omega)) ?_;rintro u rfl;refine AX (hK' _ _ ?_);clear hK' K';iterate 3 refine SF ?_
   refine T2 (hK _ _ _ ?_);clear hK K;refine aE (by kernel_rfl) ?_;refine TQ (jE k) ?_;have he:((sumD (ls.take i)+gS (l.take k):Nat):Int)+(((sizeW l[k]:Nat):Int)+1)=((sumD (ls.take i)+gS (l.take (k+1)):Nat):Int):=by omega
   simp only[he];refine⟨⟨k+1,hlk⟩,fF,?_⟩;show l.length-(k+1)<l.length-k;omega
  have hek:k=l.length:=by simp at hb;omega
  subst hek;clear hb;refine aZ (T3 ?_);clear hK K;refine AX (hK _ _ _ ?_);clear hK K;refine aE (by kernel_rfl) ?_;refine TQ (jE i) ?_;have he:((sumD (ls.take i)+gS (l.take l.length):Nat):Int)=((sumD (ls.take (i+1)):Nat):Int):=by rw[List.take_length];omega
  simp only[he];refine⟨⟨i+1,hlt⟩,fF,?_⟩;show ls.length-(i+1)<ls.length-i;omega
 have hei:i=ls.length:=by simp at hb;omega
 subst hei;clear hb;refine aZ (T3 ?_);clear hK K;refine AX (hK _ _ _ ?_);clear hK K;refine aC fun K hK=>?_;have F:=@List.take_length.{0};refine RF ?_;refine aK (b:=decide ((262144:Int)<(sumD ls:Nat))) rfl (fun hb=>?_) (fun hb=>?_)
 · refine R0 ?_;refine aH (RT Tryz.results48 ?_);rw[if_pos (by rw[hdl];simp at hb;omega)]at hE;refine bD [] (.slc []) (.int .i64 3) ?_ ⟨by rw[xW (by rw[hE];decide)];rfl,by rw[hE]⟩;simp[HV.close,HV.closeL,CV.denil,CV.denilL,HV.norm,HV.toC,HV.toCL]
 refine aM ?_;refine T0 (hK _ _ _ ?_);clear hK K;have hle:sumD ls≤262144:=by simp at hb;omega
 have hz:((sumD ls:Nat):Int)≤140737488355328:=by omega
 clear hb;rw[if_neg (by rw[hdl];omega)]at hE;have hO:=bD5 hE;have F:=aI @Int.natCast_nonneg (aI hz (aI @Int.mul_one @List.take_length.{0}));refine RF ?_;refine aC fun K hK=>?_;refine R0 ?_;refine aN ?_;refine bH (α:={i:Nat//i≤ls.length}) (fun i=>(fin [(12,.own 216 (jR (ls.take i.1)).length),(55,.c (.slc (ls.map fun l=> .slc (l.map .str)))),(56,.c (.int .i64 ls.length)),(57,.c (.int .i64 i.1))],fob [(216,.row 5 1 ((jR (ls.take i.1)).map eY))])) 400 (fun i=>ls.length-i.1) ⟨0,by omega⟩ (fF) ?_;rintro⟨i,hi⟩;refine R0 ?_;refine aC fun K hK=>?_;refine aK (b:=decide ((i:Int)<ls.length)) rfl (fun hb=>?_) (fun hb=>?_)
 ·
  have hlt:i<ls.length:=by simpa using hb
  clear hb;have hdt1:=bJ9 hlt;have hdt0:=hdt i;obtain⟨l,hl⟩: ∃l,l=ls[i]:=⟨_,rfl⟩;have hok:=hk l (by rw[hl];exact List.getElem_mem hlt);have hsl:=bD3 hok;obtain⟨hl0,hl1,hl2⟩:=(jS l).1 hok;have hln:nth (ls.map fun l=>CV.slc (l.map .str)) i= .slc (l.map .str):=by rw[bK hlt,hl]
  rw[←hl]at hdt1;refine aM ?_;refine T0 (hK _ _ _ ?_);clear hK K;refine aC fun K hK=>?_;refine aN ?_;have F:=aI @Int.natCast_nonneg (aI @Int.ofNat_lt (aI hlt hln));refine RF ?_;refine aC fun K hK=>?_;refine R0 ?_;refine aN ?_;refine bH (α:={i:Nat//i≤l.length}) (fun k=>(fin [(12,.own 216 (jR (ls.take i)++jQ (l.take k.1)).length),(55,.c (.slc (ls.map fun l=> .slc (l.map .str)))),(56,.c (.int .i64 ls.length)),(57,.c (.int .i64 i)),(61,.c (.slc (l.map .str))),(62,.c (.int .i64 l.length)),(63,.c (.int .i64 k.1))],fob [(216,.row 5 1 ((jR (ls.take i)++jQ (l.take k.1)).map eY))])) 500 (fun k=>l.length-k.1) ⟨0,by omega⟩ (fF) ?_;rintro⟨k,hk'⟩;have hsw:=cE6 (l.take k);have hst2:=rU l k;refine R0 ?_;refine aC fun K hK=>?_;refine aK (b:=decide ((k:Int)<l.length)) rfl (fun hb=>?_) (fun hb=>?_)
  ·
   have hlk:k<l.length:=by simpa using hb
   clear hb;have hw2:=hl2 l[k] (List.getElem_mem hlk);have hel:=xV l[k];have hsz:=dV l[k];have hsp:=bJ6 l[k];have hpe:0<(mO l[k]).length:=by omega
   have htk:=bJ8 hlk;have hbe:(jR (ls.take i)).length+(jQ (l.take k)).length+(mO l[k]).length≤140737488355328:=by omega
   have hbe1:(jR (ls.take i)).length+(jQ (l.take k)).length+1+(mO l[k]).length≤140737488355328:=by omega
   refine aM ?_;refine T0 (hK _ _ _ ?_);clear hK K;refine aC fun K hK=>?_;refine aN ?_;refine aC fun K hK=>Rg ?_;have F:=aI @Int.natCast_nonneg (aI @Int.ofNat_lt (aI hlk (nM hlk)));iterate 5 refine SF ?_
   refine T2 (hK _ _ _ ?_);clear hK K;refine aC fun K hK=>?_;refine R0 ?_;refine aK (b:=decide ((0:Int)<k)) rfl (fun hb=>?_) (fun hb=>?_)
   ·
    refine Rg ?_;have F:=aI @List.length_append.{0} @List.length_map.{0,0};iterate 4 refine SF ?_
    refine T2 (hK _ _ _ ?_);clear hK K;refine Rg ?_;have F:=aI @List.length_append.{0} (aI @List.length_map.{0,0} (aI hpe (aI hbe hbe1)));iterate 2 refine SF ?_
    refine HS rfl rfl fun K' hK'=>T6 ?_;refine C1 (bE6 l[k] (by omega)) ?_;rintro u rfl;refine AX (hK' _ _ ?_);clear hK' K';iterate 2 refine SF ?_
    refine T2 (hK _ _ _ ?_);clear hK K;refine aE (by kernel_rfl) ?_;refine TQ (jE k) ?_;have hk0:k≠0:=by simp at hb;omega
    refine⟨⟨k+1,hlk⟩,aO (by omega) ?_ ?_,?_⟩
    · rw[htk,if_neg hk0];simp[aX,upd_at,fin_at,HV.men];omega
    · rw[htk,if_neg hk0];simp only[List.map_append,←List.append_assoc];exact⟨rfl,by omega,trivial,trivial⟩
    show l.length-(k+1)<l.length-k;omega
   refine aM ?_;refine T0 (hK _ _ _ ?_);clear hK K;refine Rg ?_;have F:=aI @List.length_append.{0} (aI @List.length_map.{0,0} (aI hpe (aI hbe hbe1)));iterate 2 refine SF ?_
   refine HS rfl rfl fun K' hK'=>T6 ?_;refine C1 (bE6 l[k] (by omega)) ?_;rintro u rfl;refine AX (hK' _ _ ?_);clear hK' K';iterate 2 refine SF ?_
   refine T2 (hK _ _ _ ?_);clear hK K;refine aE (by kernel_rfl) ?_;refine TQ (jE k) ?_;have hk0:k=0:=by simp at hb;omega
   refine⟨⟨k+1,hlk⟩,aO (by omega) ?_ ?_,?_⟩
   · rw[htk,if_pos hk0];simp[aX,upd_at,fin_at,HV.men];omega
   · rw[htk,if_pos hk0,List.nil_append];simp only[List.map_append,←List.append_assoc];exact⟨rfl,by omega,trivial,trivial⟩
   show l.length-(k+1)<l.length-k;omega
  have hek:k=l.length:=by simp at hb;omega
  subst hek;clear hb;rw[List.take_length]at*;refine aZ (T3 ?_);clear hK K;refine AX (hK _ _ _ ?_);clear hK K;refine Rg ?_;have F:=aI @List.length_append.{0} @List.length_map.{0,0};iterate 4 refine SF ?_
  refine T2 (hK _ _ _ ?_);clear hK K;refine aE (by kernel_rfl) ?_;refine TQ (jE i) ?_;refine⟨⟨i+1,hlt⟩,aO (by omega) ?_ ?_,?_⟩
  · rw[hdt1,aQ1];simp[aX,upd_at,fin_at,HV.men];omega
  · rw[hdt1,aQ1];simp only[List.map_append,←List.append_assoc];exact⟨rfl,by omega,trivial,trivial⟩
  show ls.length-(i+1)<ls.length-i;omega
 refine aZ (T3 ?_);clear hK K;refine AX (hK _ _ _ ?_);clear hK K;refine R0 ?_;refine aH (RT Tryz.results48 ?_);have hei:i=ls.length:=by simp at hb;omega
 subst hei;refine bD [216] (.slc ((jR ls).map eY)) (.int .i64 0) ?_ ⟨by rw[hO],by rw[hE]⟩;rw[List.take_length];simp[HV.close,fob_at,upd_at,HV.norm,HV.toC,HV.closeL,HV.toCL,List.take_of_length_le,CV.denil,cP]
def wlK :List (Int×List UInt8):=[(1,sD),(2,aZ7),(3,bM4),(4,bX2),(5,bX3)]
theorem cG1 (k:Int):(lkG wlK k).getD []=wordK k∧(lkG wlK k).isSome=inB k 1 5:=by
 by_cases h:1≤k∧k≤5
 ·
  obtain rfl|rfl|rfl|rfl|rfl:k=1∨k=2∨k=3∨k=4∨k=5:=by omega
  all_goals decide
 have h1: ∀z:Int,1≤z→z≤5→(z==k)=false:=fun z z1 z2=>beq_eq_false_iff_ne.2 (by omega);have e:lkG wlK k=none:=by
  simp only[lkG,wlK,List.find?_cons,List.find?_nil,h1 1 (by omega) (by omega),h1 2 (by omega) (by omega),h1 3 (by omega) (by omega),h1 4 (by omega) (by omega),h1 5 (by omega) (by omega),Option.map_none]
 rw[e];refine⟨?_,?_⟩
 · unfold wordK;rw[if_neg (by omega),if_neg (by omega),if_neg (by omega),if_neg (by omega),if_neg (by omega)];rfl
 have:inB k 1 5=false:=by
  unfold inB;simp;omega
 rw[this];rfl
theorem bX9 :lst []=fob []:=by funext i;simp[lst,fob,dF]
theorem cG2 :bQ8 Tryz.prog 130:=⟨3,9,Tryz.underlying130,Tryz.underlying3,fun w=>by rw[Tryz.zeroValue9]⟩
theorem bY0 (n:Nat)(ob:Ob)(x:Array MapEntry)(c:Nat):jD (sub [] n) ob 0 [.raw x c]=upd ob n (some (.raw x c)):=rfl
theorem bE7 (n:Nat):HV.ren (sub [] n) (.mapr 0)= .mapr n:=rfl
theorem aR4 :HGe Tryz.prog 82 [] [] (fun r os'=>r= .mapr 0∧os'=[.raw (gX wlK) 5]):=by
 refine bI (args:=[]) Tryz.func82 rfl (by kernel_rfl) (eZ rfl (by simp[dS]) (by simp[HV.menL])) (Nat.le_of_ble_eq_true rfl) ?_;show Hw _ _ 0 _ _ _ (lst _) 0;rw[bX9];refine aC fun K hK=>aE (by kernel_rfl) ?_;simp (maxSteps:=4000000) only[↓sP,sA,tyS,simprocAttr];repeat refine AI ?_
 refine hK _ _ _ ?_;clear hK K;refine aC fun K hK=>bD2 ?_;refine aY5 (by kernel_rfl) rfl rfl rfl rfl ?_;refine lU (l:=[]) (z:=1) (s:=sD) (by kernel_rfl) rfl rfl rfl rfl Tryz.underlying130 Tryz.underlying3 rfl rfl rfl rfl rfl ?_;refine lU (l:=[(1,sD)]) (z:=2) (s:=aZ7) (by kernel_rfl) rfl rfl rfl rfl Tryz.underlying130 Tryz.underlying3 rfl rfl rfl rfl rfl ?_;refine lU (l:=[(1,sD),(2,aZ7)]) (z:=3) (s:=bM4) (by kernel_rfl) rfl rfl rfl rfl Tryz.underlying130 Tryz.underlying3 rfl rfl rfl rfl rfl ?_;refine lU (l:=[(1,sD),(2,aZ7),(3,bM4)]) (z:=4) (s:=bX2) (by kernel_rfl) rfl rfl rfl rfl Tryz.underlying130 Tryz.underlying3 rfl rfl rfl rfl rfl ?_;refine lU (l:=[(1,sD),(2,aZ7),(3,bM4),(4,bX2)]) (z:=5) (s:=bX3) (by kernel_rfl) rfl rfl rfl rfl Tryz.underlying130 Tryz.underlying3 rfl rfl rfl rfl rfl ?_;iterate 2
  (refine aP9 (g:=none) (by kernel_rfl) rfl rfl fun K' hK'=>?_;simp only[sH,↓sP,sA,tyS,simprocAttr];(repeat refine AI ?_);refine hK' _ _ ?_;clear hK' K')
 refine xR rfl (hK _ _ _ ?_);clear hK K;refine aH ?_;simp (maxSteps:=4000000) only[bS,Tryz.results82,bP,bR,bN,↓sP,sA,tyS,simprocAttr];exact gU [] [4] (.mapr 0) [.raw (gX wlK) 5] rfl (by simp[HV.men]) ⟨⟨by simp[HO.men],by simp,_,rfl,rfl⟩,trivial⟩ rfl (by simp) (by simp) (by simp) ⟨rfl,rfl⟩
theorem aJ5 (n:Int)(hn: -9223372036854775808≤n∧n≤9223372036854775807):rP Tryz.prog 44 tabs [.int .i64 n] (fun u v=>u= .str (gD n)∧v= .bool (iY n)):=by
 refine bI (args:=[.c (.int .i64 n)]) Tryz.func44 rfl (by kernel_rfl) (gF tabs [.int .i64 n]) (Nat.le_of_ble_eq_true rfl) ?_;unfold gC;refine aC fun K hK=>aE (by kernel_rfl) ?_;simp (maxSteps:=4000000) only[↓sP,sA,tyS,simprocAttr];repeat refine AI ?_
 refine hK _ _ _ ?_;clear hK K;refine aC fun K hK=>aE (by kernel_rfl) ?_;simp only[sR,simprocAttr];refine aF (g:=none) rfl rfl fun K' hK'=>?_;simp (maxSteps:=4000000) only[sH,↓sP,sA,tyS,simprocAttr];repeat refine AI ?_
 refine hK' _ _ ?_;clear hK' K';refine aF (g:=none) rfl rfl fun K' hK'=>?_;simp (maxSteps:=4000000) only[sH,↓sP,sA,tyS,simprocAttr];refine mN (args:=[_]) 0 (bX5 n hn) rfl (by simp) ⟨rfl,rfl,rfl,rfl⟩ ?_;rintro u rfl;repeat refine AI ?_
 refine hK' _ _ ?_;clear hK' K';iterate 3
  (refine aF (g:=none) rfl rfl fun K' hK'=>?_;simp only[sH,↓sP,sA,tyS,simprocAttr];(repeat refine AI ?_);refine hK' _ _ ?_;clear hK' K')
 refine aG 7 rfl (fun h1_7=>?_) (fun h1_7=>?_)
 ·
  iterate 2
   (refine aF (g:=some (8,true)) rfl rfl fun K' hK'=>?_;simp only[sH,↓sP,sA,tyS,simprocAttr,h1_7];(repeat refine AI ?_);refine hK' _ _ ?_;clear hK' K')
  iterate 3
   (refine aF (g:=none) rfl rfl fun K' hK'=>?_;simp only[sH,↓sP,sA,tyS,simprocAttr,h1_7];(repeat refine AI ?_);refine hK' _ _ ?_;clear hK' K')
  simp only[sE,↓reduceIte,simprocAttr];repeat refine AI ?_
  refine hK _ _ _ ?_;clear hK K;refine aH ?_;simp (maxSteps:=4000000) only[bS,Tryz.results44,bP,bR,bN,↓sP,sA,tyS,simprocAttr];refine fE [] (.str (gD n)) (.bool _) rfl rfl (by simp) ⟨rfl,?_⟩;simp only[iY,inB,h1_7,Bool.true_and,Bool.false_and];all_goals first|rfl|(rw[show decide (0≤n)=true from by assumption];rfl)|(rw[show decide (0≤n)=false from by assumption];rfl)
 iterate 2
  (refine aF (g:=some (8,true)) rfl rfl fun K' hK'=>?_;simp only[sH,↓sP,sA,tyS,simprocAttr,h1_7];(repeat refine AI ?_);refine hK' _ _ ?_;clear hK' K')
 iterate 3
  (refine aF (g:=none) rfl rfl fun K' hK'=>?_;simp only[sH,↓sP,sA,tyS,simprocAttr,h1_7];(repeat refine AI ?_);refine hK' _ _ ?_;clear hK' K')
 simp only[sE,↓reduceIte,simprocAttr];repeat refine AI ?_
 refine hK _ _ _ ?_;clear hK K;refine aH ?_;simp (maxSteps:=4000000) only[bS,Tryz.results44,bP,bR,bN,↓sP,sA,tyS,simprocAttr];refine fE [] (.str (gD n)) (.bool _) rfl rfl (by simp) ⟨rfl,?_⟩;simp only[iY,inB,h1_7,Bool.true_and,Bool.false_and];all_goals first|rfl|(rw[show decide (0≤n)=true from by assumption];rfl)|(rw[show decide (0≤n)=false from by assumption];rfl)
end Go.Proofs.YthedbjfipmkpiaaGreatDoor
