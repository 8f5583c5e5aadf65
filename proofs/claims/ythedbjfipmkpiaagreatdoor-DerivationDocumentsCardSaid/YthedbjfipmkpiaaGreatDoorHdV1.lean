/- Part of a proof: walks of functions of the program, by contracts, and the rules they use. By an AI agent. -/
import Derived.Test.YthedbjfipmkpiaaGreatDoorHdSq
import Derived.Test.YthedbjfipmkpiaaGreatDoorHdSb
import Derived.Test.YthedbjfipmkpiaaGreatDoorHdU5
import Derived.Test.YthedbjfipmkpiaaGreatDoorPl03
import Derived.Test.YthedbjfipmkpiaaGreatDoorHdU6
set_option linter.unusedSimpArgs false
set_option linter.unusedVariables false
set_option linter.defProp false
namespace Go.Proofs.YthedbjfipmkpiaaGreatDoor
open Go Go.Hl Go.Pl
set_option maxRecDepth 10000
set_option maxHeartbeats 2000000
theorem cA6 (s:aH)(hl:s.length<2^63):dB Tryz.prog 154 [.str s] (fun v=>v= .bool (fV s)):=by
 refine bD Tryz.func154 rfl (by kernel_rfl) (bH _) (Nat.le_of_ble_eq_true rfl) ?_;refine R0 ?_;refine aE fun K hK=>?_;refine aE fun K hK=>Rg ?_;iterate 4 refine S0 ?_
 refine aL 7 rfl (fun h1_7=>?_) (fun h1_7=>?_)
 ·
  iterate 4 refine S0 ?_ (e:=fun _ h_=>by simp only[sH,↓sP,sA,tyS,simprocAttr,h1_7];exact AX h_)
  refine T2 (hK _ _ _ ?_);clear hK K;refine aG (b:=true) rfl (fun hb=>?_) (fun hb=>?_)
  · refine R0 ?_;refine aJ ?_;simp only[aT,Tryz.results154,aR,aS,aQ,↓sP,sA,tyS,simprocAttr];exact aW [] (.bool false) rfl (by rw[zV (by simp at h1_7;omega)])
  cases hb
 iterate 4 refine S0 ?_ (e:=fun _ h_=>by simp only[sH,↓sP,sA,tyS,simprocAttr,h1_7];exact AX h_)
 refine T2 (hK _ _ _ ?_);clear hK K;refine aG (b:=_) rfl (fun hb=>?_) (fun hb=>?_)
 · refine R0 ?_;refine aJ ?_;simp only[aT,Tryz.results154,aR,aS,aQ,↓sP,sA,tyS,simprocAttr];exact aW [] (.bool false) rfl (by rw[zV (by simp at hb;omega)])
 refine aK ?_;refine T0 (hK _ _ _ ?_);clear hK K;refine aE fun K hK=>?_;refine R0 ?_;refine aP ?_;have hlen:1≤s.length∧s.length≤64:=by simp at h1_7 hb;omega
 refine bR (α:={i:Nat//i≤s.length∧ ∀j (_:j<i) (h:j<s.length),okc j s[j]=true}) (fun i=>(fin [(0,.c (.str s)),(3,.c (.int .i64 i.1))],fob [])) 100 (fun i=>s.length-i.1) ⟨0,by omega,fun j h=>by omega⟩ (fF) ?_;clear hb;rintro⟨i,hi,h0⟩;refine aE fun K hK=>?_;refine aE fun K hK=>Rg ?_;iterate 4 refine S0 ?_ (e:=fun _ h_=>by simp only[sH,↓sP,sA,tyS,simprocAttr,h1_7];exact AX h_)
 refine T2 (hK _ _ _ ?_);clear hK K;refine aG (b:=decide ((i:Int)<s.length)) rfl (fun hb=>?_) (fun hb=>?_)
 ·
  have hlt:i<s.length:=by simpa using hb
  have hgd:s.getD i 0=s[i]:=by simp[hlt]
  refine aK ?_;refine T0 (hK _ _ _ ?_);clear hK K;refine aE fun K hK=>?_;refine aP ?_;refine aE fun K hK=>Rg ?_;iterate 4 refine S0 ?_ (e:=fun _ h_=>by simp only[sH,↓sP,sA,tyS,simprocAttr,Int.natCast_nonneg,Int.ofNat_lt,hlt,hgd,h1_7];exact AX h_)
  refine T2 (hK _ _ _ ?_);clear hK K;refine aE fun K hK=>?_;refine aE fun K hK=>?_;have key: ∀(b:Bool) fr ob nx,b=okc i s[i]→Fits 0 fr ob (fin [(0,.c (.str s)),(3,.c (.int .i64 i)),(51,.c (.bool b))]) (fob []) 600→K fr ob nx:=by
   rintro b fr ob nx rfl hf;refine hK _ _ _ (bX hf ?_);clear hf hK K;refine aG (b:=okc i s[i]) rfl (fun hb=>?_) (fun hb=>?_)
   · refine bK ?_;simp only[↓sP,sA,tyS,simprocAttr];clear hK K;refine AX (hK _ _ _ ?_);clear hK K;refine aD (by kernel_rfl) ?_;simp only[↓sP,sA,tyS,simprocAttr,pN i];refine⟨⟨i+1,hlt,bG3 hlt hb h0⟩,fF,?_⟩;show s.length-(i+1)<s.length-i;omega
   refine aK ?_;refine T0 (hK _ _ _ ?_);clear hK K;refine R0 ?_;refine aJ ?_;simp only[aT,Tryz.results154,aR,aS,aQ,↓sP,sA,tyS,simprocAttr];exact aW [] (.bool false) rfl (by rw[bG2 hlt hb])
  refine aD (by kernel_rfl) ?_;simp only[sR,simprocAttr];iterate 3 refine S0 ?_ (e:=fun _ h_=>by simp only[sH,↓sP,sA,tyS,simprocAttr,h1_7];exact AX h_)
  refine aL 23 rfl (fun h7_23=>?_) (fun h7_23=>?_)
  ·
   iterate 4 refine S0 ?_ (e:=fun _ h_=>by simp only[sH,↓sP,sA,tyS,simprocAttr,h1_7,h7_23];exact AX h_)
   refine aL 26 rfl (fun h7_26=>?_) (fun h7_26=>?_)
   ·
    iterate 23 refine S0 ?_ (e:=fun _ h_=>by simp only[sH,↓sP,sA,tyS,simprocAttr,h1_7,h7_23,h7_26];exact AX h_)
    simp only[sE,↓reduceIte,simprocAttr];exact key true _ _ _ (by simp only[okc,alZ,puZ,h1_7,h7_23,h7_26,Bool.and_true,Bool.and_false,Bool.true_and,Bool.false_and,Bool.or_true,Bool.true_or,Bool.false_or,Bool.or_false,Bool.and_self,Bool.or_self]) (fF)
   iterate 3 refine S0 ?_ (e:=fun _ h_=>by simp only[sH,↓sP,sA,tyS,simprocAttr,h1_7,h7_23,h7_26];exact AX h_)
   refine aL 30 rfl (fun h7_30=>?_) (fun h7_30=>?_)
   ·
    iterate 5 refine S0 ?_ (e:=fun _ h_=>by simp only[sH,↓sP,sA,tyS,simprocAttr,h1_7,h7_23,h7_26,h7_30];exact AX h_)
    refine aL 33 rfl (fun h7_33=>?_) (fun h7_33=>?_)
    ·
     iterate 15 refine S0 ?_ (e:=fun _ h_=>by simp only[sH,↓sP,sA,tyS,simprocAttr,h1_7,h7_23,h7_26,h7_30,h7_33];exact AX h_)
     simp only[sE,↓reduceIte,simprocAttr];exact key true _ _ _ (by simp only[okc,alZ,puZ,h1_7,h7_23,h7_26,h7_30,h7_33,Bool.and_true,Bool.and_false,Bool.true_and,Bool.false_and,Bool.or_true,Bool.true_or,Bool.false_or,Bool.or_false,Bool.and_self,Bool.or_self]) (fF)
    iterate 3 refine S0 ?_ (e:=fun _ h_=>by simp only[sH,↓sP,sA,tyS,simprocAttr,h1_7,h7_23,h7_26,h7_30,h7_33];exact AX h_)
    refine aL 38 rfl (fun h7_38=>?_) (fun h7_38=>?_)
    ·
     iterate 3 refine S0 ?_ (e:=fun _ h_=>by simp only[sH,↓sP,sA,tyS,simprocAttr,h1_7,h7_23,h7_26,h7_30,h7_33,h7_38];exact AX h_)
     refine aL 41 rfl (fun h7_41=>?_) (fun h7_41=>?_)
     ·
      iterate 9 refine S0 ?_ (e:=fun _ h_=>by simp only[sH,↓sP,sA,tyS,simprocAttr,h1_7,h7_23,h7_26,h7_30,h7_33,h7_38,h7_41];exact AX h_)
      simp only[sE,↓reduceIte,simprocAttr];exact key true _ _ _ (by simp only[okc,alZ,puZ,h1_7,h7_23,h7_26,h7_30,h7_33,h7_38,h7_41,Bool.and_true,Bool.and_false,Bool.true_and,Bool.false_and,Bool.or_true,Bool.true_or,Bool.false_or,Bool.or_false,Bool.and_self,Bool.or_self]) (fF)
     iterate 4 refine S0 ?_ (e:=fun _ h_=>by simp only[sH,↓sP,sA,tyS,simprocAttr,h1_7,h7_23,h7_26,h7_30,h7_33,h7_38,h7_41];exact AX h_)
     refine aL 44 rfl (fun h7_44=>?_) (fun h7_44=>?_)
     ·
      iterate 5 refine S0 ?_ (e:=fun _ h_=>by simp only[sH,↓sP,sA,tyS,simprocAttr,h1_7,h7_23,h7_26,h7_30,h7_33,h7_38,h7_41,h7_44];exact AX h_)
      simp only[sE,↓reduceIte,simprocAttr];exact key true _ _ _ (by simp only[okc,alZ,puZ,h1_7,h7_23,h7_26,h7_30,h7_33,h7_38,h7_41,h7_44,Bool.and_true,Bool.and_false,Bool.true_and,Bool.false_and,Bool.or_true,Bool.true_or,Bool.false_or,Bool.or_false,Bool.and_self,Bool.or_self]) (fF)
     iterate 5 refine S0 ?_ (e:=fun _ h_=>by simp only[sH,↓sP,sA,tyS,simprocAttr,h1_7,h7_23,h7_26,h7_30,h7_33,h7_38,h7_41,h7_44];exact AX h_)
     refine aL 48 rfl (fun h7_48=>?_) (fun h7_48=>?_)
     · simp only[h7_48];simp only[sE,↓reduceIte,simprocAttr];exact key true _ _ _ (by simp only[okc,alZ,puZ,h1_7,h7_23,h7_26,h7_30,h7_33,h7_38,h7_41,h7_44,h7_48,Bool.and_true,Bool.and_false,Bool.true_and,Bool.false_and,Bool.or_true,Bool.true_or,Bool.false_or,Bool.or_false,Bool.and_self,Bool.or_self]) (fF)
     simp only[h7_48];simp only[sE,↓reduceIte,simprocAttr];exact key false _ _ _ (by simp only[okc,alZ,puZ,h1_7,h7_23,h7_26,h7_30,h7_33,h7_38,h7_41,h7_44,h7_48,Bool.and_true,Bool.and_false,Bool.true_and,Bool.false_and,Bool.or_true,Bool.true_or,Bool.false_or,Bool.or_false,Bool.and_self,Bool.or_self]) (fF)
    iterate 12 refine S0 ?_ (e:=fun _ h_=>by simp only[sH,↓sP,sA,tyS,simprocAttr,h1_7,h7_23,h7_26,h7_30,h7_33,h7_38];exact AX h_)
    simp only[sE,↓reduceIte,simprocAttr];exact key false _ _ _ (by simp only[okc,alZ,puZ,h1_7,h7_23,h7_26,h7_30,h7_33,h7_38,Bool.and_true,Bool.and_false,Bool.true_and,Bool.false_and,Bool.or_true,Bool.true_or,Bool.false_or,Bool.or_false,Bool.and_self,Bool.or_self]) (fF)
   iterate 8 refine S0 ?_ (e:=fun _ h_=>by simp only[sH,↓sP,sA,tyS,simprocAttr,h1_7,h7_23,h7_26,h7_30];exact AX h_)
   refine aL 38 rfl (fun h7_38=>?_) (fun h7_38=>?_)
   ·
    iterate 3 refine S0 ?_ (e:=fun _ h_=>by simp only[sH,↓sP,sA,tyS,simprocAttr,h1_7,h7_23,h7_26,h7_30,h7_38];exact AX h_)
    refine aL 41 rfl (fun h7_41=>?_) (fun h7_41=>?_)
    ·
     iterate 9 refine S0 ?_ (e:=fun _ h_=>by simp only[sH,↓sP,sA,tyS,simprocAttr,h1_7,h7_23,h7_26,h7_30,h7_38,h7_41];exact AX h_)
     simp only[sE,↓reduceIte,simprocAttr];exact key true _ _ _ (by simp only[okc,alZ,puZ,h1_7,h7_23,h7_26,h7_30,h7_38,h7_41,Bool.and_true,Bool.and_false,Bool.true_and,Bool.false_and,Bool.or_true,Bool.true_or,Bool.false_or,Bool.or_false,Bool.and_self,Bool.or_self]) (fF)
    iterate 4 refine S0 ?_ (e:=fun _ h_=>by simp only[sH,↓sP,sA,tyS,simprocAttr,h1_7,h7_23,h7_26,h7_30,h7_38,h7_41];exact AX h_)
    refine aL 44 rfl (fun h7_44=>?_) (fun h7_44=>?_)
    ·
     iterate 5 refine S0 ?_ (e:=fun _ h_=>by simp only[sH,↓sP,sA,tyS,simprocAttr,h1_7,h7_23,h7_26,h7_30,h7_38,h7_41,h7_44];exact AX h_)
     simp only[sE,↓reduceIte,simprocAttr];exact key true _ _ _ (by simp only[okc,alZ,puZ,h1_7,h7_23,h7_26,h7_30,h7_38,h7_41,h7_44,Bool.and_true,Bool.and_false,Bool.true_and,Bool.false_and,Bool.or_true,Bool.true_or,Bool.false_or,Bool.or_false,Bool.and_self,Bool.or_self]) (fF)
    iterate 5 refine S0 ?_ (e:=fun _ h_=>by simp only[sH,↓sP,sA,tyS,simprocAttr,h1_7,h7_23,h7_26,h7_30,h7_38,h7_41,h7_44];exact AX h_)
    refine aL 48 rfl (fun h7_48=>?_) (fun h7_48=>?_)
    · simp only[h7_48];simp only[sE,↓reduceIte,simprocAttr];exact key true _ _ _ (by simp only[okc,alZ,puZ,h1_7,h7_23,h7_26,h7_30,h7_38,h7_41,h7_44,h7_48,Bool.and_true,Bool.and_false,Bool.true_and,Bool.false_and,Bool.or_true,Bool.true_or,Bool.false_or,Bool.or_false,Bool.and_self,Bool.or_self]) (fF)
    simp only[h7_48];simp only[sE,↓reduceIte,simprocAttr];exact key false _ _ _ (by simp only[okc,alZ,puZ,h1_7,h7_23,h7_26,h7_30,h7_38,h7_41,h7_44,h7_48,Bool.and_true,Bool.and_false,Bool.true_and,Bool.false_and,Bool.or_true,Bool.true_or,Bool.false_or,Bool.or_false,Bool.and_self,Bool.or_self]) (fF)
   iterate 12 refine S0 ?_ (e:=fun _ h_=>by simp only[sH,↓sP,sA,tyS,simprocAttr,h1_7,h7_23,h7_26,h7_30,h7_38];exact AX h_)
   simp only[sE,↓reduceIte,simprocAttr];exact key false _ _ _ (by simp only[okc,alZ,puZ,h1_7,h7_23,h7_26,h7_30,h7_38,Bool.and_true,Bool.and_false,Bool.true_and,Bool.false_and,Bool.or_true,Bool.true_or,Bool.false_or,Bool.or_false,Bool.and_self,Bool.or_self]) (fF)
  iterate 7 refine S0 ?_ (e:=fun _ h_=>by simp only[sH,↓sP,sA,tyS,simprocAttr,h1_7,h7_23];exact AX h_)
  refine aL 30 rfl (fun h7_30=>?_) (fun h7_30=>?_)
  ·
   iterate 5 refine S0 ?_ (e:=fun _ h_=>by simp only[sH,↓sP,sA,tyS,simprocAttr,h1_7,h7_23,h7_30];exact AX h_)
   refine aL 33 rfl (fun h7_33=>?_) (fun h7_33=>?_)
   ·
    iterate 15 refine S0 ?_ (e:=fun _ h_=>by simp only[sH,↓sP,sA,tyS,simprocAttr,h1_7,h7_23,h7_30,h7_33];exact AX h_)
    simp only[sE,↓reduceIte,simprocAttr];exact key true _ _ _ (by simp only[okc,alZ,puZ,h1_7,h7_23,h7_30,h7_33,Bool.and_true,Bool.and_false,Bool.true_and,Bool.false_and,Bool.or_true,Bool.true_or,Bool.false_or,Bool.or_false,Bool.and_self,Bool.or_self]) (fF)
   iterate 3 refine S0 ?_ (e:=fun _ h_=>by simp only[sH,↓sP,sA,tyS,simprocAttr,h1_7,h7_23,h7_30,h7_33];exact AX h_)
   refine aL 38 rfl (fun h7_38=>?_) (fun h7_38=>?_)
   ·
    iterate 3 refine S0 ?_ (e:=fun _ h_=>by simp only[sH,↓sP,sA,tyS,simprocAttr,h1_7,h7_23,h7_30,h7_33,h7_38];exact AX h_)
    refine aL 41 rfl (fun h7_41=>?_) (fun h7_41=>?_)
    ·
     iterate 9 refine S0 ?_ (e:=fun _ h_=>by simp only[sH,↓sP,sA,tyS,simprocAttr,h1_7,h7_23,h7_30,h7_33,h7_38,h7_41];exact AX h_)
     simp only[sE,↓reduceIte,simprocAttr];exact key true _ _ _ (by simp only[okc,alZ,puZ,h1_7,h7_23,h7_30,h7_33,h7_38,h7_41,Bool.and_true,Bool.and_false,Bool.true_and,Bool.false_and,Bool.or_true,Bool.true_or,Bool.false_or,Bool.or_false,Bool.and_self,Bool.or_self]) (fF)
    iterate 4 refine S0 ?_ (e:=fun _ h_=>by simp only[sH,↓sP,sA,tyS,simprocAttr,h1_7,h7_23,h7_30,h7_33,h7_38,h7_41];exact AX h_)
    refine aL 44 rfl (fun h7_44=>?_) (fun h7_44=>?_)
    ·
     iterate 5 refine S0 ?_ (e:=fun _ h_=>by simp only[sH,↓sP,sA,tyS,simprocAttr,h1_7,h7_23,h7_30,h7_33,h7_38,h7_41,h7_44];exact AX h_)
     simp only[sE,↓reduceIte,simprocAttr];exact key true _ _ _ (by simp only[okc,alZ,puZ,h1_7,h7_23,h7_30,h7_33,h7_38,h7_41,h7_44,Bool.and_true,Bool.and_false,Bool.true_and,Bool.false_and,Bool.or_true,Bool.true_or,Bool.false_or,Bool.or_false,Bool.and_self,Bool.or_self]) (fF)
    iterate 5 refine S0 ?_ (e:=fun _ h_=>by simp only[sH,↓sP,sA,tyS,simprocAttr,h1_7,h7_23,h7_30,h7_33,h7_38,h7_41,h7_44];exact AX h_)
    refine aL 48 rfl (fun h7_48=>?_) (fun h7_48=>?_)
    · simp only[h7_48];simp only[sE,↓reduceIte,simprocAttr];exact key true _ _ _ (by simp only[okc,alZ,puZ,h1_7,h7_23,h7_30,h7_33,h7_38,h7_41,h7_44,h7_48,Bool.and_true,Bool.and_false,Bool.true_and,Bool.false_and,Bool.or_true,Bool.true_or,Bool.false_or,Bool.or_false,Bool.and_self,Bool.or_self]) (fF)
    simp only[h7_48];simp only[sE,↓reduceIte,simprocAttr];exact key false _ _ _ (by simp only[okc,alZ,puZ,h1_7,h7_23,h7_30,h7_33,h7_38,h7_41,h7_44,h7_48,Bool.and_true,Bool.and_false,Bool.true_and,Bool.false_and,Bool.or_true,Bool.true_or,Bool.false_or,Bool.or_false,Bool.and_self,Bool.or_self]) (fF)
   iterate 12 refine S0 ?_ (e:=fun _ h_=>by simp only[sH,↓sP,sA,tyS,simprocAttr,h1_7,h7_23,h7_30,h7_33,h7_38];exact AX h_)
   simp only[sE,↓reduceIte,simprocAttr];exact key false _ _ _ (by simp only[okc,alZ,puZ,h1_7,h7_23,h7_30,h7_33,h7_38,Bool.and_true,Bool.and_false,Bool.true_and,Bool.false_and,Bool.or_true,Bool.true_or,Bool.false_or,Bool.or_false,Bool.and_self,Bool.or_self]) (fF)
  iterate 8 refine S0 ?_ (e:=fun _ h_=>by simp only[sH,↓sP,sA,tyS,simprocAttr,h1_7,h7_23,h7_30];exact AX h_)
  refine aL 38 rfl (fun h7_38=>?_) (fun h7_38=>?_)
  ·
   iterate 3 refine S0 ?_ (e:=fun _ h_=>by simp only[sH,↓sP,sA,tyS,simprocAttr,h1_7,h7_23,h7_30,h7_38];exact AX h_)
   refine aL 41 rfl (fun h7_41=>?_) (fun h7_41=>?_)
   ·
    iterate 9 refine S0 ?_ (e:=fun _ h_=>by simp only[sH,↓sP,sA,tyS,simprocAttr,h1_7,h7_23,h7_30,h7_38,h7_41];exact AX h_)
    simp only[sE,↓reduceIte,simprocAttr];exact key true _ _ _ (by simp only[okc,alZ,puZ,h1_7,h7_23,h7_30,h7_38,h7_41,Bool.and_true,Bool.and_false,Bool.true_and,Bool.false_and,Bool.or_true,Bool.true_or,Bool.false_or,Bool.or_false,Bool.and_self,Bool.or_self]) (fF)
   iterate 4 refine S0 ?_ (e:=fun _ h_=>by simp only[sH,↓sP,sA,tyS,simprocAttr,h1_7,h7_23,h7_30,h7_38,h7_41];exact AX h_)
   refine aL 44 rfl (fun h7_44=>?_) (fun h7_44=>?_)
   ·
    iterate 5 refine S0 ?_ (e:=fun _ h_=>by simp only[sH,↓sP,sA,tyS,simprocAttr,h1_7,h7_23,h7_30,h7_38,h7_41,h7_44];exact AX h_)
    simp only[sE,↓reduceIte,simprocAttr];exact key true _ _ _ (by simp only[okc,alZ,puZ,h1_7,h7_23,h7_30,h7_38,h7_41,h7_44,Bool.and_true,Bool.and_false,Bool.true_and,Bool.false_and,Bool.or_true,Bool.true_or,Bool.false_or,Bool.or_false,Bool.and_self,Bool.or_self]) (fF)
   iterate 5 refine S0 ?_ (e:=fun _ h_=>by simp only[sH,↓sP,sA,tyS,simprocAttr,h1_7,h7_23,h7_30,h7_38,h7_41,h7_44];exact AX h_)
   refine aL 48 rfl (fun h7_48=>?_) (fun h7_48=>?_)
   · simp only[h7_48];simp only[sE,↓reduceIte,simprocAttr];exact key true _ _ _ (by simp only[okc,alZ,puZ,h1_7,h7_23,h7_30,h7_38,h7_41,h7_44,h7_48,Bool.and_true,Bool.and_false,Bool.true_and,Bool.false_and,Bool.or_true,Bool.true_or,Bool.false_or,Bool.or_false,Bool.and_self,Bool.or_self]) (fF)
   simp only[h7_48];simp only[sE,↓reduceIte,simprocAttr];exact key false _ _ _ (by simp only[okc,alZ,puZ,h1_7,h7_23,h7_30,h7_38,h7_41,h7_44,h7_48,Bool.and_true,Bool.and_false,Bool.true_and,Bool.false_and,Bool.or_true,Bool.true_or,Bool.false_or,Bool.or_false,Bool.and_self,Bool.or_self]) (fF)
  iterate 12 refine S0 ?_ (e:=fun _ h_=>by simp only[sH,↓sP,sA,tyS,simprocAttr,h1_7,h7_23,h7_30,h7_38];exact AX h_)
  simp only[sE,↓reduceIte,simprocAttr];exact key false _ _ _ (by simp only[okc,alZ,puZ,h1_7,h7_23,h7_30,h7_38,Bool.and_true,Bool.and_false,Bool.true_and,Bool.false_and,Bool.or_true,Bool.true_or,Bool.false_or,Bool.or_false,Bool.and_self,Bool.or_self]) (fF)
 refine bK ?_;simp only[↓sP,sA,tyS,simprocAttr];clear hK K;refine AX (hK _ _ _ ?_);clear hK K;refine R0 ?_;refine aJ ?_;simp only[aT,Tryz.results154,aR,aS,aQ,↓sP,sA,tyS,simprocAttr];have hei:i=s.length:=by simp at hb;omega
 exact aW [] (.bool true) rfl (by rw[sS.2 ⟨hlen,fun j h=>h0 j (by omega) h⟩])
theorem rC (c:UInt8):dB Tryz.prog 111 [.int .u8 c.toNat] (fun v=>v= .bool (dV c)):=by
 refine bD Tryz.func111 rfl (by kernel_rfl) (bH _) (Nat.le_of_ble_eq_true rfl) ?_;refine R0 ?_;refine aE fun K hK=>Rg ?_;iterate 3 refine S0 ?_
 refine aL 4 rfl (fun h1_4=>?_) (fun h1_4=>?_)
 ·
  iterate 4 refine S0 ?_ (e:=fun _ h_=>by simp only[sH,↓sP,sA,tyS,simprocAttr,h1_4];exact AX h_)
  refine aL 7 rfl (fun h1_7=>?_) (fun h1_7=>?_)
  ·
   iterate 4 refine S0 ?_ (e:=fun _ h_=>by simp only[sH,↓sP,sA,tyS,simprocAttr,h1_4,h1_7];exact AX h_)
   refine T2 (hK _ _ _ ?_);clear hK K;refine aJ ?_;simp only[aT,Tryz.results111,aR,aS,aQ,↓sP,sA,tyS,simprocAttr];refine aW [] (.bool _) rfl ?_;simp[h1_4,h1_7,dV];all_goals first|rfl|simp_all|omega
  iterate 4 refine S0 ?_ (e:=fun _ h_=>by simp only[sH,↓sP,sA,tyS,simprocAttr,h1_4,h1_7];exact AX h_)
  refine T2 (hK _ _ _ ?_);clear hK K;refine aJ ?_;simp only[aT,Tryz.results111,aR,aS,aQ,↓sP,sA,tyS,simprocAttr];refine aW [] (.bool _) rfl ?_;simp[h1_4,h1_7,dV];all_goals first|rfl|simp_all|omega
 iterate 8 refine S0 ?_ (e:=fun _ h_=>by simp only[sH,↓sP,sA,tyS,simprocAttr,h1_4];exact AX h_)
 refine T2 (hK _ _ _ ?_);clear hK K;refine aJ ?_;simp only[aT,Tryz.results111,aR,aS,aQ,↓sP,sA,tyS,simprocAttr];refine aW [] (.bool _) rfl ?_;simp[h1_4,dV];all_goals first|rfl|simp_all|omega
theorem aZ7 (w:aH)(hl:w.length<2^40):dB Tryz.prog 84 [.str w] (fun v=>v= .int .i64 (sizeW w:Nat)):=by
 refine bD Tryz.func84 rfl (by kernel_rfl) (bH _) (Nat.le_of_ble_eq_true rfl) ?_;refine R0 ?_;refine R0 ?_;refine aE fun K hK=>?_;refine R0 ?_;refine aP ?_;refine bR (α:={i:Nat//i≤w.length}) (fun i=>(fin [(0,.c (.str w)),(3,.c (.int .i64 (dF (w.take i.1)).length)),(4,.c (.int .i64 i.1))],fob [])) 100 (fun i=>w.length-i.1) ⟨0,by omega⟩ (fF) ?_;rintro⟨i,hi⟩;have hle:=oN w i;have hle3:=wG w;refine aE fun K hK=>?_;refine aE fun K hK=>Rg ?_;iterate 4 refine S0 ?_
 refine T2 (hK _ _ _ ?_);clear hK K;refine aG (b:=decide ((i:Int)<w.length)) rfl (fun hb=>?_) (fun hb=>?_)
 ·
  have hlt:i<w.length:=by simpa using hb
  have hgd:w.getD i 0=w[i]:=by simp[hlt]
  have hs:=wH hlt;refine aK ?_;refine T0 (hK _ _ _ ?_);clear hK K;refine aE fun K hK=>?_;refine aP ?_;refine R0 ?_ (e:=fun _ h_=>by simp only[↓sP,sA,tyS,simprocAttr,IntWalk.i64_in _ (show-9223372036854775808≤((dF (w.take i)).length:Int)+1∧((dF (w.take i)).length:Int)+1≤9223372036854775807 by omega)];exact AX h_);refine aE fun K hK=>Rg ?_;iterate 3 refine S0 ?_ (e:=fun _ h_=>by simp only[sH,↓sP,sA,tyS,simprocAttr,Int.natCast_nonneg,Int.ofNat_lt,hlt,hgd];exact AX h_)
  refine aC (g:=none) rfl rfl fun K' hK'=>?_;simp only[sH,↓sP,sA,tyS,simprocAttr,Int.natCast_nonneg,Int.ofNat_lt,hlt,hgd];refine aX (args:=[_]) (rC w[i]) ⟨rfl,rfl,rfl,rfl⟩ ?_;rintro u rfl;refine AX (hK' _ _ ?_);clear hK' K';refine S0 ?_ (e:=fun _ h_=>by simp only[sH,↓sP,sA,tyS,simprocAttr,Int.natCast_nonneg,Int.ofNat_lt,hlt,hgd];exact AX h_);refine T2 (hK _ _ _ ?_);clear hK K;refine aG (b:=!dV w[i]) rfl (fun hb=>?_) (fun hb=>?_)
  ·
   refine aD (by kernel_rfl) ?_;simp only[↓sP,sA,tyS,simprocAttr,IntWalk.i64_in _ (show-9223372036854775808≤((dF (w.take i)).length:Int)+1+2∧((dF (w.take i)).length:Int)+1+2≤9223372036854775807 by omega)];refine AX (hK _ _ _ ?_);clear hK K;refine aD (by kernel_rfl) ?_;simp only[↓sP,sA,tyS,simprocAttr,pN i];have hp:dV w[i]=false:=by simpa using hb
   have he:((dF (w.take i)).length:Int)+1+2=((dF (w.take (i+1))).length:Int):=by
    rw[hs,List.length_append,mE,if_neg (by rw[hp];simp)];simp;omega
   simp only[he];refine⟨⟨i+1,hlt⟩,fF,?_⟩;show w.length-(i+1)<w.length-i;omega
  refine aK ?_;refine T0 (hK _ _ _ ?_);clear hK K;refine aD (by kernel_rfl) ?_;simp only[↓sP,sA,tyS,simprocAttr,pN i];have hp:dV w[i]=true:=by simpa using hb
  have he:((dF (w.take i)).length:Int)+1=((dF (w.take (i+1))).length:Int):=by
   rw[hs,List.length_append,mE,if_pos hp];simp
  simp only[he];refine⟨⟨i+1,hlt⟩,fF,?_⟩;show w.length-(i+1)<w.length-i;omega
 refine bK ?_;simp only[↓sP,sA,tyS,simprocAttr];clear hK K;refine AX (hK _ _ _ ?_);clear hK K;refine R0 ?_ (e:=fun _ h_=>by simp only[↓sP,sA,tyS,simprocAttr,cQ0];exact AX h_);refine aJ ?_;simp only[aT,Tryz.results84,aR,aS,aQ,↓sP,sA,tyS,simprocAttr];have hei:i=w.length:=by simp at hb;omega
 subst hei;exact aW [] (.int .i64 (sizeW w:Nat)) (by rw[List.take_length];rfl) rfl
theorem aZ8 (w:aH)(hl:w.length<2^40):dB Tryz.prog 85 [.str w] (fun v=>v= .str (lS w)):=by
 refine bD Tryz.func85 rfl (by kernel_rfl) (bH _) (Nat.le_of_ble_eq_true rfl) ?_;refine R0 ?_;refine aE fun K hK=>?_;refine R0 ?_;refine aG (b:=w==[]) rfl (fun hb=>?_) (fun hb=>?_)
 · refine R0 ?_;refine aJ ?_;simp only[aT,Tryz.results85,aR,aS,aQ,↓sP,sA,tyS,simprocAttr];exact aW [] (.str [126]) rfl (by rw[lS,if_pos (by simpa using hb)])
 refine aK ?_;refine T0 (hK _ _ _ ?_);clear hK K;have hne:w≠[]:=by simpa using hb
 have hz:(sizeW w:Int)≤140737488355328:=by have:=eL w;omega
 clear hb;refine aE fun K hK=>Rg ?_;refine S0 ?_ (e:=fun _ h_=>by simp only[sH,↓sP,sA,tyS,simprocAttr,Int.natCast_nonneg,hz,Int.mul_one];exact AX h_);refine aC (g:=none) rfl rfl fun K' hK'=>?_;simp only[sH,↓sP,sA,tyS,simprocAttr,Int.natCast_nonneg,hz,Int.mul_one];refine aX (args:=[_]) (aZ7 w hl) ⟨rfl,rfl,rfl,rfl⟩ ?_;rintro u rfl;refine AX (hK' _ _ ?_);clear hK' K';iterate 2 refine S0 ?_ (e:=fun _ h_=>by simp only[sH,↓sP,sA,tyS,simprocAttr,Int.natCast_nonneg,hz,Int.mul_one];exact AX h_)
 refine T2 (hK _ _ _ ?_);clear hK K;refine aE fun K hK=>?_;refine R0 ?_;refine aP ?_;refine bR (α:={i:Nat//i≤w.length}) (fun i=>(fin [(0,.c (.str w)),(3,.own 20 (dF (w.take i.1)).length),(4,.c (.int .i64 i.1))],fob [(20,.row 5 1 ((dF (w.take i.1)).map eI))])) 100 (fun i=>w.length-i.1) ⟨0,by omega⟩ (fF) ?_;rintro⟨i,hi⟩;have hle:=oN w i;have hle3:=wG w;refine aE fun K hK=>?_;refine aE fun K hK=>Rg ?_;iterate 4 refine S0 ?_
 refine T2 (hK _ _ _ ?_);clear hK K;refine aG (b:=decide ((i:Int)<w.length)) rfl (fun hb=>?_) (fun hb=>?_)
 ·
  have hlt:i<w.length:=by simpa using hb
  have hgd:w.getD i 0=w[i]:=by simp[hlt]
  have hs:=wH hlt;refine aK ?_;refine T0 (hK _ _ _ ?_);clear hK K;refine aE fun K hK=>?_;refine aP ?_;refine aE fun K hK=>Rg ?_;iterate 3 refine S0 ?_ (e:=fun _ h_=>by simp only[sH,↓sP,sA,tyS,simprocAttr,Int.natCast_nonneg,Int.ofNat_lt,hlt,hgd];exact AX h_)
  refine aC (g:=none) rfl rfl fun K' hK'=>?_;simp only[sH,↓sP,sA,tyS,simprocAttr,Int.natCast_nonneg,Int.ofNat_lt,hlt,hgd];refine aX (args:=[_]) (rC w[i]) ⟨rfl,rfl,rfl,rfl⟩ ?_;rintro u rfl;refine AX (hK' _ _ ?_);clear hK' K';refine T2 (hK _ _ _ ?_);clear hK K;refine aG (b:=dV w[i]) rfl (fun hb=>?_) (fun hb=>?_)
  ·
   refine aD (by kernel_rfl) ?_;simp only[sR,simprocAttr];iterate 7 refine S0 ?_ (e:=fun _ h_=>by simp only[sH,↓sP,sA,tyS,simprocAttr,Int.natCast_nonneg,Int.ofNat_lt,hlt,hgd,List.length_append,List.length_map];exact AX h_)
   refine T2 (hK _ _ _ ?_);clear hK K;refine aD (by kernel_rfl) ?_;simp only[↓sP,sA,tyS,simprocAttr,pN i];refine⟨⟨i+1,hlt⟩,aI (by omega) ?_ ?_,?_⟩
   · rw[hs,mE,if_pos hb];simp[aY,upd_at,fin_at,HV.men]
   · rw[hs,mE,if_pos hb,List.map_append];exact⟨rfl,by omega,trivial,trivial⟩
   show w.length-(i+1)<w.length-i;omega
  have h16:((w[i].toNat/16:Nat):Int)<16:=by have:=w[i].toNat_lt;omega
  have h15:((w[i].toNat%16:Nat):Int)<16:=by omega
  refine dJ mixed [(0,[],[]),(1,[],[]),(2,[],[]),(3,[],[]),(4,[],[]),(5,[],[]),(6,[],[]),(7,[],[]),(8,[],[]),(9,[],[]),(10,[],[]),(11,[],[]),(12,[],[]),(13,[],[])] [0,0,0,6,14,30,0,0,192,448,960,2046,4095,8191] (by kernel_rfl) (by kernel_rfl) (by kernel_rfl) (by kernel_rfl) rfl (by kernel_rfl) ?_;iterate 14 refine W0 ?_ (e:=fun _ h_=>by simp only[sH,↓sP,sA,tyS,simprocAttr,Int.natCast_nonneg,Int.ofNat_lt,hlt,hgd,List.length_append,List.length_map,cQ1,cM6,h16,h15];exact AX h_)
  refine T2 (hK _ _ _ ?_);clear hK K;refine aD (by kernel_rfl) ?_;simp only[↓sP,sA,tyS,simprocAttr,pN i];refine⟨⟨i+1,hlt⟩,aI (by omega) ?_ ?_,?_⟩
  · rw[hs,mE,if_neg (by rw[hb];simp)];simp[aY,upd_at,fin_at,HV.men]
  · rw[hs,mE,if_neg (by rw[hb];simp),List.map_append];exact⟨rfl,by omega,trivial,trivial⟩
  show w.length-(i+1)<w.length-i;omega
 refine bK ?_;simp only[↓sP,sA,tyS,simprocAttr];clear hK K;refine AX (hK _ _ _ ?_);clear hK K;refine eJ [20] (bX (fr2:=fin [(3,.c (.slc ((dF (w.take i)).map eI)))]) (ob2:=fob []) (nx2:=200) (aI (by omega) (by simp[aY,eF,fin_at,finA_at,upd_at,fob_at,HV.close,HV.closeL,CV.denil,CV.denilL,cM,HV.men,HV.menL,HV.norm,HV.toC,HV.toCL]) (by simp[bB,fK,fob_at,upd_at,none0_at,bN,HO.close,HV.close,HV.closeL,HO.men,HV.men,HV.menL,HV.norm,HV.toC,HV.toCL])) ?_);refine R0 ?_ (e:=fun _ h_=>by simp only[↓sP,sA,tyS,simprocAttr,bytesC_map];exact AX h_);refine aJ ?_;simp only[aT,Tryz.results85,aR,aS,aQ,↓sP,sA,tyS,simprocAttr];have hei:i=w.length:=by simp at hb;omega
 subst hei;exact aW [] (.str (dF w)) (by rw[List.take_length];rfl) (by rw[lS,if_neg hne])
theorem aN5 (l:List aH)(hl:l.length<2^40):dB Tryz.prog 83 [.slc (l.map .str)] (fun v=>v= .int .i64 (sL l)):=by
 refine bD Tryz.func83 rfl (by kernel_rfl) (bH _) (Nat.le_of_ble_eq_true rfl) ?_;refine R0 ?_;refine aE fun K hK=>?_;refine aP ?_;refine aE fun K hK=>Rg ?_;iterate 4 refine S0 ?_
 refine T2 (hK _ _ _ ?_);clear hK K;refine aG (b:=(l.length:Int)==0) rfl (fun hb=>?_) (fun hb=>?_)
 · refine R0 ?_;refine aJ ?_;simp only[aT,Tryz.results83,aR,aS,aQ,↓sP,sA,tyS,simprocAttr];exact aW [] (.int .i64 1) rfl (by rw[sL,if_pos (by simp at hb;simp[hb])])
 have hn0:l.length≠0:=by simp at hb;simp[hb]
 clear hb;refine aE fun K hK=>Rg ?_;iterate 4 refine S0 ?_
 refine T2 (hK _ _ _ ?_);clear hK K;refine aG (b:=decide ((120:Int)<l.length)) rfl (fun hb=>?_) (fun hb=>?_)
 · refine R0 ?_;refine aJ ?_;simp only[aT,Tryz.results83,aR,aS,aQ,↓sP,sA,tyS,simprocAttr];exact aW [] (.int .i64 3) rfl (by rw[sL,if_neg hn0,if_pos (by simp at hb;omega)])
 refine aK ?_;refine T0 (hK _ _ _ ?_);clear hK K;refine aE fun K hK=>?_;have hn1:l.length≤120:=by simp at hb;omega
 clear hb;refine R0 ?_;refine aP ?_;refine bR (α:={i:Nat//i≤l.length∧ ∀x∈l.take i,decide (32768<x.length)=false}) (fun i=>(fin [(13,.c (.slc (l.map .str))),(14,.c (.int .i64 l.length)),(15,.c (.int .i64 i.1))],fob [])) 100 (fun i=>l.length-i.1) ⟨0,by omega,by simp⟩ (fF) ?_;rintro⟨i,hi,h0⟩;refine R0 ?_;refine aE fun K hK=>?_;refine aG (b:=decide ((i:Int)<l.length)) rfl (fun hb=>?_) (fun hb=>?_)
 ·
  have hlt:i<l.length:=by simpa using hb
  clear hb;refine aK ?_;refine T0 (hK _ _ _ ?_);clear hK K;refine aE fun K hK=>?_;refine aP ?_;refine R0 ?_ (e:=fun _ h_=>by simp only[↓sP,sA,tyS,simprocAttr,Int.natCast_nonneg,Int.ofNat_lt,hlt,bA hlt];exact AX h_);refine R0 ?_;refine aG (b:=decide ((32768:Int)<l[i].length)) rfl (fun hb=>?_) (fun hb=>?_)
  · refine R0 ?_;refine aJ ?_;simp only[aT,Tryz.results83,aR,aS,aQ,↓sP,sA,tyS,simprocAttr];exact aW [] (.int .i64 3) rfl (by rw[sL,if_neg hn0,if_neg (by omega),if_pos];simp only[List.any_eq_true,decide_eq_true_eq];exact⟨_,List.getElem_mem hlt,by simp at hb;omega⟩)
  refine aK ?_;refine T0 (hK _ _ _ ?_);clear hK K;refine aD (by kernel_rfl) ?_;simp only[↓sP,sA,tyS,simprocAttr,pN i];have hb2:decide (32768<l[i].length)=false:=by simp at hb⊢;omega
  refine⟨⟨i+1,hlt,zU (p:=fun x=>decide (32768<x.length)) hlt hb2 h0⟩,fF,?_⟩;show l.length-(i+1)<l.length-i;omega
 refine bK ?_;simp only[↓sP,sA,tyS,simprocAttr];clear hK K;refine AX (hK _ _ _ ?_);clear hK K;refine R0 ?_;refine aJ ?_;simp only[aT,Tryz.results83,aR,aS,aQ,↓sP,sA,tyS,simprocAttr];have hei:i=l.length:=by simp at hb;omega
 subst hei;rw[List.take_length]at h0;exact aW [] (.int .i64 0) rfl (by rw[sL,if_neg hn0,if_neg (by omega),if_neg];simp only[List.any_eq_true,not_exists,not_and];intro x hx;simp[h0 x hx])
theorem cI7 (ls:List (List aH))(h0:ls.length<2^40)(h1: ∀l∈ls,l.length<2^40):jN Tryz.prog 48 [.slc (ls.map fun l=> .slc (l.map .str))] (fun u v=>u= .slc ((uJ ls).map eI)∧v= .int .i64 (pH ls)):=by
 refine bD Tryz.func48 rfl (by kernel_rfl) (bH _) (Nat.le_of_ble_eq_true rfl) ?_;refine R0 ?_;refine aE fun K hK=>?_;refine R0 ?_;refine aG (b:=decide ((1000:Int)<ls.length)) rfl (fun hb=>?_) (fun hb=>?_)
 · refine R0 ?_;refine aJ ?_;simp only[aT,Tryz.results48,aR,aS,aQ,↓sP,sA,tyS,simprocAttr];have hE:=bF3 (ls:=ls) (by simp at hb;omega);refine bL [] (.slc []) (.int .i64 3) ?_ ⟨by rw[wK (by rw[hE];decide)];rfl,by rw[hE]⟩;simp[HV.close,HV.closeL,CV.denil,CV.denilL,HV.norm,HV.toC,HV.toCL]
 refine aK ?_;refine T0 (hK _ _ _ ?_);clear hK K;refine aE fun K hK=>?_;have hn:ls.length≤1000:=by simp at hb;omega
 clear hb;refine R0 ?_;refine aP ?_;refine bR (α:={i:Nat//i≤ls.length∧ ∀x∈ls.take i,okL x=true}) (fun i=>(fin [(0,.c (.slc (ls.map fun l=> .slc (l.map .str)))),(20,.c (.slc (ls.map fun l=> .slc (l.map .str)))),(21,.c (.int .i64 ls.length)),(22,.c (.int .i64 i.1))],fob [])) 100 (fun i=>ls.length-i.1) ⟨0,by omega,by simp⟩ (fF) ?_;rintro⟨i,hi,hk⟩;refine R0 ?_;refine aE fun K hK=>?_;refine aG (b:=decide ((i:Int)<ls.length)) rfl (fun hb=>?_) (fun hb=>?_)
 ·
  have hlt:i<ls.length:=by simpa using hb
  clear hb;have hl1:=h1 ls[i] (List.getElem_mem hlt);refine aK ?_;refine T0 (hK _ _ _ ?_);clear hK K;refine aE fun K hK=>?_;refine aP ?_;refine R0 ?_ (e:=fun _ h_=>by simp only[↓sP,sA,tyS,simprocAttr,Int.natCast_nonneg,Int.ofNat_lt,hlt,bA hlt];exact AX h_);refine aE fun K hK=>Rg ?_;refine S0 ?_;refine aC (g:=none) rfl rfl fun K' hK'=>?_;simp only[sH,↓sP,sA,tyS,simprocAttr];refine aX (args:=[_]) (aN5 ls[i] hl1) ⟨rfl,rfl,rfl,rfl⟩ ?_;rintro u rfl;refine AX (hK' _ _ ?_);clear hK' K';refine S0 ?_;refine T2 (hK _ _ _ ?_);clear hK K;refine R0 ?_;refine aG (b:=sL ls[i] !=0) rfl (fun hb=>?_) (fun hb=>?_)
  · refine R0 ?_;refine aJ ?_;simp only[aT,Tryz.results48,aR,aS,aQ,↓sP,sA,tyS,simprocAttr];have hE:=bO8 hn hlt hk (by simpa[okL]using hb);refine bL [] (.slc []) (.int .i64 (sL ls[i])) ?_ ⟨by rw[wK (by rw[hE];simpa using hb)];rfl,by rw[hE]⟩;simp[HV.close,HV.closeL,CV.denil,CV.denilL,HV.norm,HV.toC,HV.toCL]
  refine aK ?_;refine T0 (hK _ _ _ ?_);clear hK K;refine aD (by kernel_rfl) ?_;simp only[↓sP,sA,tyS,simprocAttr,pN i];refine⟨⟨i+1,hlt,?_⟩,fF,?_⟩
  ·
   intro x hx;rw[List.take_succ_eq_append_getElem hlt,List.mem_append,List.mem_singleton]at hx;rcases hx with hx|rfl
   · exact hk x hx
   simpa[okL]using hb
  show ls.length-(i+1)<ls.length-i;omega
 have hei:i=ls.length:=by simp at hb;omega
 subst hei;clear hb;rw[List.take_length]at hk;have hne: ∀l∈ls,l≠[]:=fun l hl=>((kH l).1 (hk l hl)).1;have hsd:=bZ1 hk;have hdl:=wJ hne;have hE:=bZ2 hn hk;have hst: ∀j,sumD (ls.take j)≤sumD ls:=fun j=>aE8 ls j;have hdt: ∀j,(iZ (ls.take j)).length≤sumD ls:=fun j=>by rw[wJ fun l hl=>hne l (List.mem_of_mem_take hl)];exact hst j
 refine bK ?_;simp only[↓sP,sA,tyS,simprocAttr];clear hK K;refine AX (hK _ _ _ ?_);clear hK K;refine R0 ?_;refine aE fun K hK=>?_;refine R0 ?_;refine aP ?_;refine bR (α:={i:Nat//i≤ls.length}) (fun i=>(fin [(0,.c (.slc (ls.map fun l=> .slc (l.map .str)))),(7,.c (.int .i64 (sumD (ls.take i.1):Nat))),(32,.c (.slc (ls.map fun l=> .slc (l.map .str)))),(33,.c (.int .i64 ls.length)),(34,.c (.int .i64 i.1))],fob [])) 200 (fun i=>ls.length-i.1) ⟨0,by omega⟩ (fF) ?_;rintro⟨i,hi⟩;refine R0 ?_;refine aE fun K hK=>?_;refine aG (b:=decide ((i:Int)<ls.length)) rfl (fun hb=>?_) (fun hb=>?_)
 ·
  have hlt:i<ls.length:=by simpa using hb
  clear hb;have hst1:=bF2 hlt;have hst2:=hst (i+1);obtain⟨l,hl⟩: ∃l,l=ls[i]:=⟨_,rfl⟩;obtain⟨hl0,hl1,hl2⟩:=(kH l).1 (hk l (by rw[hl];exact List.getElem_mem hlt));have hln:nth (ls.map fun l=>CV.slc (l.map .str)) i= .slc (l.map .str):=by rw[bA hlt,hl]
  rw[←hl]at hst1;refine aK ?_;refine T0 (hK _ _ _ ?_);clear hK K;refine aE fun K hK=>?_;refine aP ?_;refine R0 ?_ (e:=fun _ h_=>by simp only[↓sP,sA,tyS,simprocAttr,Int.natCast_nonneg,Int.ofNat_lt,hlt,hln];exact AX h_);refine R0 ?_;refine aP ?_;refine bR (α:={i:Nat//i≤l.length}) (fun k=>(fin [(0,.c (.slc (ls.map fun l=> .slc (l.map .str)))),(7,.c (.int .i64 (sumD (ls.take i)+fY (l.take k.1):Nat))),(32,.c (.slc (ls.map fun l=> .slc (l.map .str)))),(33,.c (.int .i64 ls.length)),(34,.c (.int .i64 i)),(38,.c (.slc (l.map .str))),(39,.c (.int .i64 l.length)),(40,.c (.int .i64 k.1))],fob [])) 300 (fun k=>l.length-k.1) ⟨0,by omega⟩ (fF) ?_;rintro⟨k,hk'⟩;refine R0 ?_;refine aE fun K hK=>?_;refine aG (b:=decide ((k:Int)<l.length)) rfl (fun hb=>?_) (fun hb=>?_)
  ·
   have hlk:k<l.length:=by simpa using hb
   clear hb;have hlt1:=bF1 hlk;have hlt2:=qQ l (k+1);have hw2:=hl2 l[k] (List.getElem_mem hlk);refine aK ?_;refine T0 (hK _ _ _ ?_);clear hK K;refine aE fun K hK=>?_;refine aP ?_;refine R0 ?_ (e:=fun _ h_=>by simp only[↓sP,sA,tyS,simprocAttr,Int.natCast_nonneg,Int.ofNat_lt,hlk,bA hlk];exact AX h_);refine aD (by kernel_rfl) ?_;simp only[sR,simprocAttr];iterate 2 refine S0 ?_ (e:=fun _ h_=>by simp only[sH,↓sP,sA,tyS,simprocAttr,IntWalk.i64_in _ (show-9223372036854775808≤((sizeW l[k]:Nat):Int)+1∧((sizeW l[k]:Nat):Int)+1≤9223372036854775807 by omega),IntWalk.i64_in _ (show-9223372036854775808≤((sumD (ls.take i)+fY (l.take k):Nat):Int)+(((sizeW l[k]:Nat):Int)+1)∧((sumD (ls.take i)+fY (l.take k):Nat):Int)+(((sizeW l[k]:Nat):Int)+1)≤9223372036854775807 by omega)];exact AX h_)
   refine aC (g:=none) rfl rfl fun K' hK'=>?_;simp only[sH,↓sP,sA,tyS,simprocAttr,IntWalk.i64_in _ (show-9223372036854775808≤((sizeW l[k]:Nat):Int)+1∧((sizeW l[k]:Nat):Int)+1≤9223372036854775807 by omega),IntWalk.i64_in _ (show-9223372036854775808≤((sumD (ls.take i)+fY (l.take k):Nat):Int)+(((sizeW l[k]:Nat):Int)+1)∧((sumD (ls.take i)+fY (l.take k):Nat):Int)+(((sizeW l[k]:Nat):Int)+1)≤9223372036854775807 by omega)];refine aX (args:=[_]) (aZ7 l[k] (by omega)) ⟨rfl,rfl,rfl,rfl⟩ ?_;rintro u rfl;refine AX (hK' _ _ ?_);clear hK' K';iterate 3 refine S0 ?_ (e:=fun _ h_=>by simp only[sH,↓sP,sA,tyS,simprocAttr,IntWalk.i64_in _ (show-9223372036854775808≤((sizeW l[k]:Nat):Int)+1∧((sizeW l[k]:Nat):Int)+1≤9223372036854775807 by omega),IntWalk.i64_in _ (show-9223372036854775808≤((sumD (ls.take i)+fY (l.take k):Nat):Int)+(((sizeW l[k]:Nat):Int)+1)∧((sumD (ls.take i)+fY (l.take k):Nat):Int)+(((sizeW l[k]:Nat):Int)+1)≤9223372036854775807 by omega)];exact AX h_)
   refine T2 (hK _ _ _ ?_);clear hK K;refine aD (by kernel_rfl) ?_;simp only[↓sP,sA,tyS,simprocAttr,pN k];have he:((sumD (ls.take i)+fY (l.take k):Nat):Int)+(((sizeW l[k]:Nat):Int)+1)=((sumD (ls.take i)+fY (l.take (k+1)):Nat):Int):=by omega
   simp only[he];refine⟨⟨k+1,hlk⟩,fF,?_⟩;show l.length-(k+1)<l.length-k;omega
  have hek:k=l.length:=by simp at hb;omega
  subst hek;clear hb;refine bK ?_;simp only[↓sP,sA,tyS,simprocAttr];clear hK K;refine AX (hK _ _ _ ?_);clear hK K;refine aD (by kernel_rfl) ?_;simp only[↓sP,sA,tyS,simprocAttr,pN i];have he:((sumD (ls.take i)+fY (l.take l.length):Nat):Int)=((sumD (ls.take (i+1)):Nat):Int):=by rw[List.take_length];omega
  simp only[he];refine⟨⟨i+1,hlt⟩,fF,?_⟩;show ls.length-(i+1)<ls.length-i;omega
 have hei:i=ls.length:=by simp at hb;omega
 subst hei;clear hb;refine bK ?_;simp only[↓sP,sA,tyS,simprocAttr];clear hK K;refine AX (hK _ _ _ ?_);clear hK K;refine aE fun K hK=>?_;refine R0 ?_ (e:=fun _ h_=>by simp only[↓sP,sA,tyS,simprocAttr,List.take_length];exact AX h_);refine aG (b:=decide ((262144:Int)<(sumD ls:Nat))) rfl (fun hb=>?_) (fun hb=>?_)
 · refine R0 ?_;refine aJ ?_;simp only[aT,Tryz.results48,aR,aS,aQ,↓sP,sA,tyS,simprocAttr];rw[if_pos (by rw[hdl];simp at hb;omega)]at hE;refine bL [] (.slc []) (.int .i64 3) ?_ ⟨by rw[wK (by rw[hE];decide)];rfl,by rw[hE]⟩;simp[HV.close,HV.closeL,CV.denil,CV.denilL,HV.norm,HV.toC,HV.toCL]
 refine aK ?_;refine T0 (hK _ _ _ ?_);clear hK K;have hle:sumD ls≤262144:=by simp at hb;omega
 have hz:((sumD ls:Nat):Int)≤140737488355328:=by omega
 clear hb;rw[if_neg (by rw[hdl];omega)]at hE;have hO:=aY4 hE;refine R0 ?_ (e:=fun _ h_=>by simp only[↓sP,sA,tyS,simprocAttr,Int.natCast_nonneg,hz,Int.mul_one,List.take_length];exact AX h_);refine aE fun K hK=>?_;refine R0 ?_;refine aP ?_;refine bR (α:={i:Nat//i≤ls.length}) (fun i=>(fin [(12,.own 216 (iZ (ls.take i.1)).length),(55,.c (.slc (ls.map fun l=> .slc (l.map .str)))),(56,.c (.int .i64 ls.length)),(57,.c (.int .i64 i.1))],fob [(216,.row 5 1 ((iZ (ls.take i.1)).map eI))])) 400 (fun i=>ls.length-i.1) ⟨0,by omega⟩ (fF) ?_;rintro⟨i,hi⟩;refine R0 ?_;refine aE fun K hK=>?_;refine aG (b:=decide ((i:Int)<ls.length)) rfl (fun hb=>?_) (fun hb=>?_)
 ·
  have hlt:i<ls.length:=by simpa using hb
  clear hb;have hdt1:=bF0 hlt;have hdt0:=hdt i;obtain⟨l,hl⟩: ∃l,l=ls[i]:=⟨_,rfl⟩;have hok:=hk l (by rw[hl];exact List.getElem_mem hlt);have hsl:=aY3 hok;obtain⟨hl0,hl1,hl2⟩:=(kH l).1 hok;have hln:nth (ls.map fun l=>CV.slc (l.map .str)) i= .slc (l.map .str):=by rw[bA hlt,hl]
  rw[←hl]at hdt1;refine aK ?_;refine T0 (hK _ _ _ ?_);clear hK K;refine aE fun K hK=>?_;refine aP ?_;refine R0 ?_ (e:=fun _ h_=>by simp only[↓sP,sA,tyS,simprocAttr,Int.natCast_nonneg,Int.ofNat_lt,hlt,hln];exact AX h_);refine aE fun K hK=>?_;refine R0 ?_;refine aP ?_;refine bR (α:={i:Nat//i≤l.length}) (fun k=>(fin [(12,.own 216 (iZ (ls.take i)++iY (l.take k.1)).length),(55,.c (.slc (ls.map fun l=> .slc (l.map .str)))),(56,.c (.int .i64 ls.length)),(57,.c (.int .i64 i)),(61,.c (.slc (l.map .str))),(62,.c (.int .i64 l.length)),(63,.c (.int .i64 k.1))],fob [(216,.row 5 1 ((iZ (ls.take i)++iY (l.take k.1)).map eI))])) 500 (fun k=>l.length-k.1) ⟨0,by omega⟩ (fF) ?_;rintro⟨k,hk'⟩;have hsw:=bZ0 (l.take k);have hst2:=qQ l k;refine R0 ?_;refine aE fun K hK=>?_;refine aG (b:=decide ((k:Int)<l.length)) rfl (fun hb=>?_) (fun hb=>?_)
  ·
   have hlk:k<l.length:=by simpa using hb
   clear hb;have hw2:=hl2 l[k] (List.getElem_mem hlk);have hel:=wI l[k];have hsz:=eL l[k];have hsp:=bE7 l[k];have hpe:0<(lS l[k]).length:=by omega
   have htk:=bE9 hlk;have hbe:(iZ (ls.take i)).length+(iY (l.take k)).length+(lS l[k]).length≤140737488355328:=by omega
   have hbe1:(iZ (ls.take i)).length+(iY (l.take k)).length+1+(lS l[k]).length≤140737488355328:=by omega
   refine aK ?_;refine T0 (hK _ _ _ ?_);clear hK K;refine aE fun K hK=>?_;refine aP ?_;refine aE fun K hK=>Rg ?_;iterate 5 refine S0 ?_ (e:=fun _ h_=>by simp only[sH,↓sP,sA,tyS,simprocAttr,Int.natCast_nonneg,Int.ofNat_lt,hlk,bA hlk];exact AX h_)
   refine T2 (hK _ _ _ ?_);clear hK K;refine aE fun K hK=>?_;refine R0 ?_;refine aG (b:=decide ((0:Int)<k)) rfl (fun hb=>?_) (fun hb=>?_)
   ·
    refine aD (by kernel_rfl) ?_;simp only[sR,simprocAttr];iterate 4 refine S0 ?_ (e:=fun _ h_=>by simp only[sH,↓sP,sA,tyS,simprocAttr,List.length_append,List.length_map];exact AX h_)
    refine T2 (hK _ _ _ ?_);clear hK K;refine aD (by kernel_rfl) ?_;simp only[sR,simprocAttr];iterate 2 refine S0 ?_ (e:=fun _ h_=>by simp only[sH,↓sP,sA,tyS,simprocAttr,List.length_append,List.length_map,hpe,hbe,hbe1];exact AX h_)
    refine aC (g:=none) rfl rfl fun K' hK'=>?_;simp only[sH,↓sP,sA,tyS,simprocAttr,List.length_append,List.length_map,hpe,hbe,hbe1];refine aX (args:=[_]) (aZ8 l[k] (by omega)) ⟨rfl,rfl,rfl,rfl⟩ ?_;rintro u rfl;refine AX (hK' _ _ ?_);clear hK' K';iterate 2 refine S0 ?_ (e:=fun _ h_=>by simp only[sH,↓sP,sA,tyS,simprocAttr,List.length_append,List.length_map,hpe,hbe,hbe1];exact AX h_)
    refine T2 (hK _ _ _ ?_);clear hK K;refine aD (by kernel_rfl) ?_;simp only[↓sP,sA,tyS,simprocAttr,pN k];have hk0:k≠0:=by simp at hb;omega
    refine⟨⟨k+1,hlk⟩,aI (by omega) ?_ ?_,?_⟩
    · rw[htk,if_neg hk0];simp[aY,upd_at,fin_at,HV.men];omega
    · rw[htk,if_neg hk0];simp only[List.map_append,←List.append_assoc];exact⟨rfl,by omega,trivial,trivial⟩
    show l.length-(k+1)<l.length-k;omega
   refine aK ?_;refine T0 (hK _ _ _ ?_);clear hK K;refine aD (by kernel_rfl) ?_;simp only[sR,simprocAttr];iterate 2 refine S0 ?_ (e:=fun _ h_=>by simp only[sH,↓sP,sA,tyS,simprocAttr,List.length_append,List.length_map,hpe,hbe,hbe1];exact AX h_)
   refine aC (g:=none) rfl rfl fun K' hK'=>?_;simp only[sH,↓sP,sA,tyS,simprocAttr,List.length_append,List.length_map,hpe,hbe,hbe1];refine aX (args:=[_]) (aZ8 l[k] (by omega)) ⟨rfl,rfl,rfl,rfl⟩ ?_;rintro u rfl;refine AX (hK' _ _ ?_);clear hK' K';iterate 2 refine S0 ?_ (e:=fun _ h_=>by simp only[sH,↓sP,sA,tyS,simprocAttr,List.length_append,List.length_map,hpe,hbe,hbe1];exact AX h_)
   refine T2 (hK _ _ _ ?_);clear hK K;refine aD (by kernel_rfl) ?_;simp only[↓sP,sA,tyS,simprocAttr,pN k];have hk0:k=0:=by simp at hb;omega
   refine⟨⟨k+1,hlk⟩,aI (by omega) ?_ ?_,?_⟩
   · rw[htk,if_pos hk0];simp[aY,upd_at,fin_at,HV.men];omega
   · rw[htk,if_pos hk0,List.nil_append];simp only[List.map_append,←List.append_assoc];exact⟨rfl,by omega,trivial,trivial⟩
   show l.length-(k+1)<l.length-k;omega
  have hek:k=l.length:=by simp at hb;omega
  subst hek;clear hb;rw[List.take_length]at*;refine bK ?_;simp only[↓sP,sA,tyS,simprocAttr];clear hK K;refine AX (hK _ _ _ ?_);clear hK K;refine aD (by kernel_rfl) ?_;simp only[sR,simprocAttr];iterate 4 refine S0 ?_ (e:=fun _ h_=>by simp only[sH,↓sP,sA,tyS,simprocAttr,List.length_append,List.length_map];exact AX h_)
  refine T2 (hK _ _ _ ?_);clear hK K;refine aD (by kernel_rfl) ?_;simp only[↓sP,sA,tyS,simprocAttr,pN i];refine⟨⟨i+1,hlt⟩,aI (by omega) ?_ ?_,?_⟩
  · rw[hdt1,aL5];simp[aY,upd_at,fin_at,HV.men];omega
  · rw[hdt1,aL5];simp only[List.map_append,←List.append_assoc];exact⟨rfl,by omega,trivial,trivial⟩
  show ls.length-(i+1)<ls.length-i;omega
 refine bK ?_;simp only[↓sP,sA,tyS,simprocAttr];clear hK K;refine AX (hK _ _ _ ?_);clear hK K;refine R0 ?_;refine aJ ?_;simp only[aT,Tryz.results48,aR,aS,aQ,↓sP,sA,tyS,simprocAttr];have hei:i=ls.length:=by simp at hb;omega
 subst hei;refine bL [216] (.slc ((iZ ls).map eI)) (.int .i64 0) ?_ ⟨by rw[hO],by rw[hE]⟩;rw[List.take_length];simp[HV.close,fob_at,upd_at,HV.norm,HV.toC,HV.closeL,HV.toCL,List.take_of_length_le,CV.denil,cM]
set_option maxHeartbeats 4000000
def wlK :List (Int×List UInt8):=[(1,qY),(2,aU6),(3,bH5),(4,bR9),(5,bS0)]
theorem cA7 (k:Int):(lkG wlK k).getD []=wordK k∧(lkG wlK k).isSome=inB k 1 5:=by
 by_cases h:1≤k∧k≤5
 ·
  obtain rfl|rfl|rfl|rfl|rfl:k=1∨k=2∨k=3∨k=4∨k=5:=by omega
  all_goals decide
 have h1: ∀z:Int,1≤z→z≤5→(z==k)=false:=fun z z1 z2=>beq_eq_false_iff_ne.2 (by omega);have e:lkG wlK k=none:=by
  simp only[lkG,wlK,List.find?_cons,List.find?_nil,h1 1 (by omega) (by omega),h1 2 (by omega) (by omega),h1 3 (by omega) (by omega),h1 4 (by omega) (by omega),h1 5 (by omega) (by omega),Option.map_none]
 rw[e];refine⟨?_,?_⟩
 · unfold wordK;rw[if_neg (by omega),if_neg (by omega),if_neg (by omega),if_neg (by omega),if_neg (by omega)];rfl
 have:inB k 1 5=false:=by
  unfold inB;simp;omega
 rw[this];rfl
theorem bT2 :lst []=fob []:=by funext i;simp[lst,fob,cX]
theorem cA8 :bL8 Tryz.prog 130:=⟨3,9,Tryz.underlying130,Tryz.underlying3,fun w=>by rw[Tryz.zeroValue9]⟩
theorem bT3 (n:Nat)(ob:Ob)(x:Array MapEntry)(c:Nat):iX (sub [] n) ob 0 [.raw x c]=upd ob n (some (.raw x c)):=rfl
theorem aZ9 (n:Nat):HV.ren (sub [] n) (.mapr 0)= .mapr n:=rfl
theorem aN6 :HGe Tryz.prog 82 [] [] (fun r os'=>r= .mapr 0∧os'=[.raw (gI wlK) 5]):=by
 refine bD (args:=[]) Tryz.func82 rfl (by kernel_rfl) (eX rfl (by simp[dU]) (by simp[HV.menL])) (Nat.le_of_ble_eq_true rfl) ?_;show Hw _ _ 0 _ _ _ (lst _) 0;rw[bT2];refine aE fun K hK=>aD (by kernel_rfl) ?_;simp (maxSteps:=4000000) only[↓sP,sA,tyS,simprocAttr];repeat refine AI ?_
 refine hK _ _ _ ?_;clear hK K;refine aE fun K hK=>aY2 ?_;refine aT6 (by kernel_rfl) rfl rfl rfl rfl ?_;refine lA (l:=[]) (z:=1) (s:=qY) (by kernel_rfl) rfl rfl rfl rfl Tryz.underlying130 Tryz.underlying3 rfl rfl rfl rfl rfl ?_;refine lA (l:=[(1,qY)]) (z:=2) (s:=aU6) (by kernel_rfl) rfl rfl rfl rfl Tryz.underlying130 Tryz.underlying3 rfl rfl rfl rfl rfl ?_;refine lA (l:=[(1,qY),(2,aU6)]) (z:=3) (s:=bH5) (by kernel_rfl) rfl rfl rfl rfl Tryz.underlying130 Tryz.underlying3 rfl rfl rfl rfl rfl ?_;refine lA (l:=[(1,qY),(2,aU6),(3,bH5)]) (z:=4) (s:=bR9) (by kernel_rfl) rfl rfl rfl rfl Tryz.underlying130 Tryz.underlying3 rfl rfl rfl rfl rfl ?_;refine lA (l:=[(1,qY),(2,aU6),(3,bH5),(4,bR9)]) (z:=5) (s:=bS0) (by kernel_rfl) rfl rfl rfl rfl Tryz.underlying130 Tryz.underlying3 rfl rfl rfl rfl rfl ?_;iterate 2
  (refine aL3 (g:=none) (by kernel_rfl) rfl rfl fun K' hK'=>?_;simp only[sH,↓sP,sA,tyS,simprocAttr];(repeat refine AI ?_);refine hK' _ _ ?_;clear hK' K')
 refine wE rfl (hK _ _ _ ?_);clear hK K;refine aJ ?_;simp (maxSteps:=4000000) only[aT,Tryz.results82,aR,aS,aQ,↓sP,sA,tyS,simprocAttr];exact gR [] [4] (.mapr 0) [.raw (gI wlK) 5] rfl (by simp[HV.men]) ⟨⟨by simp[HO.men],by simp,_,rfl,rfl⟩,trivial⟩ rfl (by simp) (by simp) (by simp) ⟨rfl,rfl⟩
theorem aF5 (n:Int)(hn: -9223372036854775808≤n∧n≤9223372036854775807):qP Tryz.prog 44 tabs [.int .i64 n] (fun u v=>u= .str (fT n)∧v= .bool (iE n)):=by
 refine bD (args:=[.c (.int .i64 n)]) Tryz.func44 rfl (by kernel_rfl) (fR tabs [.int .i64 n]) (Nat.le_of_ble_eq_true rfl) ?_;unfold fL;refine aE fun K hK=>aD (by kernel_rfl) ?_;simp (maxSteps:=4000000) only[↓sP,sA,tyS,simprocAttr];repeat refine AI ?_
 refine hK _ _ _ ?_;clear hK K;refine aE fun K hK=>aD (by kernel_rfl) ?_;simp only[sR,simprocAttr];refine aC (g:=none) rfl rfl fun K' hK'=>?_;simp (maxSteps:=4000000) only[sH,↓sP,sA,tyS,simprocAttr];repeat refine AI ?_
 refine hK' _ _ ?_;clear hK' K';refine aC (g:=none) rfl rfl fun K' hK'=>?_;simp (maxSteps:=4000000) only[sH,↓sP,sA,tyS,simprocAttr];refine jO (args:=[_]) 0 (bS4 n hn) rfl (by simp) ⟨rfl,rfl,rfl,rfl⟩ ?_;rintro u rfl;repeat refine AI ?_
 refine hK' _ _ ?_;clear hK' K';iterate 3
  (refine aC (g:=none) rfl rfl fun K' hK'=>?_;simp only[sH,↓sP,sA,tyS,simprocAttr];(repeat refine AI ?_);refine hK' _ _ ?_;clear hK' K')
 refine aL 7 rfl (fun h1_7=>?_) (fun h1_7=>?_)
 ·
  iterate 2
   (refine aC (g:=some (8,true)) rfl rfl fun K' hK'=>?_;simp only[sH,↓sP,sA,tyS,simprocAttr,h1_7];(repeat refine AI ?_);refine hK' _ _ ?_;clear hK' K')
  iterate 3
   (refine aC (g:=none) rfl rfl fun K' hK'=>?_;simp only[sH,↓sP,sA,tyS,simprocAttr,h1_7];(repeat refine AI ?_);refine hK' _ _ ?_;clear hK' K')
  simp only[sE,↓reduceIte,simprocAttr];repeat refine AI ?_
  refine hK _ _ _ ?_;clear hK K;refine aJ ?_;simp (maxSteps:=4000000) only[aT,Tryz.results44,aR,aS,aQ,↓sP,sA,tyS,simprocAttr];refine eP [] (.str (fT n)) (.bool _) rfl rfl (by simp) ⟨rfl,?_⟩;simp only[iE,inB,h1_7,Bool.true_and,Bool.false_and];all_goals first|rfl|(rw[show decide (0≤n)=true from by assumption];rfl)|(rw[show decide (0≤n)=false from by assumption];rfl)
 iterate 2
  (refine aC (g:=some (8,true)) rfl rfl fun K' hK'=>?_;simp only[sH,↓sP,sA,tyS,simprocAttr,h1_7];(repeat refine AI ?_);refine hK' _ _ ?_;clear hK' K')
 iterate 3
  (refine aC (g:=none) rfl rfl fun K' hK'=>?_;simp only[sH,↓sP,sA,tyS,simprocAttr,h1_7];(repeat refine AI ?_);refine hK' _ _ ?_;clear hK' K')
 simp only[sE,↓reduceIte,simprocAttr];repeat refine AI ?_
 refine hK _ _ _ ?_;clear hK K;refine aJ ?_;simp (maxSteps:=4000000) only[aT,Tryz.results44,aR,aS,aQ,↓sP,sA,tyS,simprocAttr];refine eP [] (.str (fT n)) (.bool _) rfl rfl (by simp) ⟨rfl,?_⟩;simp only[iE,inB,h1_7,Bool.true_and,Bool.false_and];all_goals first|rfl|(rw[show decide (0≤n)=true from by assumption];rfl)|(rw[show decide (0≤n)=false from by assumption];rfl)
theorem aF6 (v:CV):nth [v] 0=v:=rfl
theorem gT (c:UInt8):(u8 c).denil=u8 c:=rfl
theorem denilL_u8 : ∀bs:List UInt8,CV.denilL (bs.map u8)=bs.map u8
 |[]=>rfl
 |b::bs=>by simp only[List.map_cons,CV.denilL,denilL_u8 bs];rfl
theorem cA9 (l:List UInt8)(c:UInt8):dB Tryz.prog 166 [.slc (l.map u8),u8 c] (fun v=>v= .int .i64 (fS l c)):=
 cH7 (f:=166) (fn:=Tryz.f166) Tryz.func166 (by kernel_rfl) (by kernel_rfl) (by kernel_rfl) (by kernel_rfl) l c
theorem bT4 (l:List UInt8)(c:UInt8):dB Tryz.prog 169 [.str l,u8 c] (fun v=>v= .int .i64 (fS l c)):=
 bZ5 (f:=169) (fn:=Tryz.f169) Tryz.func169 (by kernel_rfl) (by kernel_rfl) (by kernel_rfl) (by kernel_rfl) l c
theorem cI8 (l:List UInt8)(c:UInt8):dB Tryz.prog 144 [.slc (l.map u8),u8 c] (fun v=>v= .int .i64 (fS l c)):=by
 refine bD Tryz.func144 rfl (by kernel_rfl) (bH _) (Nat.le_of_ble_eq_true rfl) ?_;refine R0 ?_ (e:=fun _ h_=>by simp only[↓sP,sA,tyS,simprocAttr,rI];exact AX h_);refine aE fun K hK=>Rg ?_;iterate 2 refine S0 ?_ (e:=fun _ h_=>by simp only[sH,↓sP,sA,tyS,simprocAttr,rI,denilL_u8,gT];exact AX h_)
 refine aC (g:=none) rfl rfl fun K' hK'=>?_;simp only[sH,↓sP,sA,tyS,simprocAttr,rI,denilL_u8,gT];refine aX (args:=[_,_]) (cA9 l c) ⟨rfl,rfl,rfl,rfl⟩ ?_;rintro u rfl;refine AX (hK' _ _ ?_);clear hK' K';refine S0 ?_ (e:=fun _ h_=>by simp only[sH,↓sP,sA,tyS,simprocAttr,rI,denilL_u8,gT];exact AX h_);simp only[sE,↓reduceIte,simprocAttr,rI];refine AX (hK _ _ _ ?_);clear hK K;refine aJ ?_;simp only[aT,Tryz.results144,aR,aS,aQ,↓sP,sA,tyS,simprocAttr,rI];exact aW [] (.int .i64 (fS l c)) rfl rfl
theorem cI9 (l:List UInt8)(c:UInt8):dB Tryz.prog 150 [.str l,u8 c] (fun v=>v= .int .i64 (fS l c)):=by
 refine bD Tryz.func150 rfl (by kernel_rfl) (bH _) (Nat.le_of_ble_eq_true rfl) ?_;refine R0 ?_ (e:=fun _ h_=>by simp only[↓sP,sA,tyS,simprocAttr,rI];exact AX h_);refine aE fun K hK=>Rg ?_;iterate 2 refine S0 ?_ (e:=fun _ h_=>by simp only[sH,↓sP,sA,tyS,simprocAttr,rI,denilL_u8,gT];exact AX h_)
 refine aC (g:=none) rfl rfl fun K' hK'=>?_;simp only[sH,↓sP,sA,tyS,simprocAttr,rI,denilL_u8,gT];refine aX (args:=[_,_]) (bT4 l c) ⟨rfl,rfl,rfl,rfl⟩ ?_;rintro u rfl;refine AX (hK' _ _ ?_);clear hK' K';refine S0 ?_ (e:=fun _ h_=>by simp only[sH,↓sP,sA,tyS,simprocAttr,rI,denilL_u8,gT];exact AX h_);simp only[sE,↓reduceIte,simprocAttr,rI];refine AX (hK _ _ _ ?_);clear hK K;refine aJ ?_;simp only[aT,Tryz.results150,aR,aS,aQ,↓sP,sA,tyS,simprocAttr,rI];exact aW [] (.int .i64 (fS l c)) rfl rfl
theorem rD (l:List UInt8)(c:UInt8):dB Tryz.prog 124 [.str l,u8 c] (fun v=>v= .int .i64 (fS l c)):=by
 refine bD Tryz.func124 rfl (by kernel_rfl) (bH _) (Nat.le_of_ble_eq_true rfl) ?_;refine R0 ?_ (e:=fun _ h_=>by simp only[↓sP,sA,tyS,simprocAttr,rI];exact AX h_);refine aE fun K hK=>Rg ?_;iterate 2 refine S0 ?_ (e:=fun _ h_=>by simp only[sH,↓sP,sA,tyS,simprocAttr,rI,denilL_u8,gT];exact AX h_)
 refine aC (g:=none) rfl rfl fun K' hK'=>?_;simp only[sH,↓sP,sA,tyS,simprocAttr,rI,denilL_u8,gT];refine aX (args:=[_,_]) (cI9 l c) ⟨rfl,rfl,rfl,rfl⟩ ?_;rintro u rfl;refine AX (hK' _ _ ?_);clear hK' K';refine S0 ?_ (e:=fun _ h_=>by simp only[sH,↓sP,sA,tyS,simprocAttr,rI,denilL_u8,gT];exact AX h_);simp only[sE,↓reduceIte,simprocAttr,rI];refine AX (hK _ _ _ ?_);clear hK K;refine aJ ?_;simp only[aT,Tryz.results124,aR,aS,aQ,↓sP,sA,tyS,simprocAttr,rI];exact aW [] (.int .i64 (fS l c)) rfl rfl
theorem aA7 (l:List UInt8)(c:UInt8):dB Tryz.prog 122 [.slc (l.map u8),.slc [u8 c]] (fun v=>v= .int .i64 (fS l c)):=by
 refine bD Tryz.func122 rfl (by kernel_rfl) (bH _) (Nat.le_of_ble_eq_true rfl) ?_;refine R0 ?_ (e:=fun _ h_=>by simp only[↓sP,sA,tyS,simprocAttr,rI];exact AX h_);refine R0 ?_ (e:=fun _ h_=>by simp only[↓sP,sA,tyS,simprocAttr,rI];exact AX h_);refine aE fun K hK=>?_;refine aP ?_;refine R0 ?_ (e:=fun _ h_=>by simp only[↓sP,sA,tyS,simprocAttr,rI];exact AX h_);refine aG (b:=(1:Int)==0) rfl (fun hb=>?_) (fun hb=>?_)
 · exact absurd hb (by decide)
 refine R0 ?_ (e:=fun _ h_=>by simp only[↓sP,sA,tyS,simprocAttr,rI];exact AX h_);refine aG (b:=(1:Int)==1) rfl (fun hb=>?_) (fun hb=>?_)
 ·
  refine aE fun K hK=>Rg ?_;iterate 4 refine S0 ?_ (e:=fun _ h_=>by simp only[sH,↓sP,sA,tyS,simprocAttr,rI,u8,aF6,denilL_u8];exact AX h_)
  refine aC (g:=none) rfl rfl fun K' hK'=>?_;simp only[sH,↓sP,sA,tyS,simprocAttr,rI,u8,aF6,denilL_u8];refine aX (args:=[_,_]) (cI8 l c) ⟨rfl,rfl,rfl,rfl⟩ ?_;rintro u rfl;refine AX (hK' _ _ ?_);clear hK' K';refine S0 ?_ (e:=fun _ h_=>by simp only[sH,↓sP,sA,tyS,simprocAttr,rI,u8,aF6,denilL_u8];exact AX h_);simp only[sE,↓reduceIte,simprocAttr,rI];refine AX (hK _ _ _ ?_);clear hK K;refine aJ ?_;simp only[aT,Tryz.results122,aR,aS,aQ,↓sP,sA,tyS,simprocAttr,rI];exact aW [] (.int .i64 (fS l c)) rfl rfl
 exact absurd hb (by decide)
theorem cB0 (l:List UInt8)(c:UInt8)(hl:l.length<2^40):bN9 Tryz.prog 92 [.slc (l.map u8),.slc [u8 c]] (fun x y f=> ∃(li re:List UInt8) (fd:Bool),x= .slc (li.map u8)∧y= .slc (re.map u8)∧f= .bool fd∧CutR l c li re fd):=by
 refine bD Tryz.func92 rfl (by kernel_rfl) (bH _) (Nat.le_of_ble_eq_true rfl) ?_;refine R0 ?_ (e:=fun _ h_=>by simp only[↓sP,sA,tyS,simprocAttr,rI];exact AX h_);refine aE fun K hK=>?_;refine aE fun K hK=>Rg ?_;iterate 2 refine S0 ?_ (e:=fun _ h_=>by simp only[sH,↓sP,sA,tyS,simprocAttr,rI,denilL_u8];exact AX h_)
 refine aC (g:=none) rfl rfl fun K' hK'=>?_;simp only[sH,↓sP,sA,tyS,simprocAttr,rI,denilL_u8];refine aX (args:=[_,_]) (aA7 l c) ⟨rfl,rfl,rfl,rfl⟩ ?_;rintro u rfl;refine AX (hK' _ _ ?_);clear hK' K';refine S0 ?_ (e:=fun _ h_=>by simp only[sH,↓sP,sA,tyS,simprocAttr,rI,denilL_u8];exact AX h_);simp only[sE,↓reduceIte,simprocAttr,rI];refine AX (hK _ _ _ ?_);clear hK K;refine R0 ?_ (e:=fun _ h_=>by simp only[↓sP,sA,tyS,simprocAttr,rI];exact AX h_);refine aG (b:=decide ((0:Int)≤fS l c)) rfl (fun hb=>?_) (fun hb=>?_)
 ·
  have hn: ¬fS l c<0:=by simp at hb;omega
  obtain⟨i,hi,hil,hsp⟩:=iK hn;have hi':=hi;rw[hi];refine aE fun K hK=>eW mixed (by kernel_rfl) (by kernel_rfl) (by kernel_rfl) ?_;simp only[sR,simprocAttr];iterate 12 refine S0 ?_ (e:=fun _ h_=>by simp only[sH,↓sP,sA,tyS,simprocAttr,rI,Int.natCast_nonneg,Int.ofNat_le,Int.sub_zero,Nat.sub_zero,List.drop_zero,iJ,denilL_u8,List.length_map,show IntKind.i64.wrap ((i:Int)+1)=((i+1:Nat):Int)from by rw[IntWalk.i64_in _ (by omega)];rfl];exact AX h_)
  simp only[sE,↓reduceIte,simprocAttr,rI];refine AX (hK _ _ _ ?_);clear hK K;refine aJ ?_;simp only[aT,Tryz.results92,aR,aS,aQ,↓sP,sA,tyS,simprocAttr,rI];refine vX [] (.slc ((l.take i).map u8)) (.slc ((l.drop (i+1)).map u8)) (.bool true) ?_ ⟨_,_,_,rfl,rfl,rfl,.inr ⟨rfl,i,hi,hil,rfl,rfl⟩⟩;simp[HV.close,HV.closeL,HV.norm,HV.toC,HV.toCL,CV.denil,denilL_u8];exact⟨by rw[←List.map_take,denilL_u8],by rw[←List.map_drop,←List.map_take,denilL_u8,List.take_of_length_le (by simp)]⟩
 have hn:fS l c<0:=by simp at hb;omega
 refine aK ?_;simp only[↓sP,sA,tyS,simprocAttr,rI];refine AX (hK _ _ _ ?_);clear hK K;refine aE fun K hK=>Rg ?_;iterate 4 refine S0 ?_ (e:=fun _ h_=>by simp only[sH,↓sP,sA,tyS,simprocAttr,rI];exact AX h_)
 simp only[sE,↓reduceIte,simprocAttr,rI];refine AX (hK _ _ _ ?_);clear hK K;refine aJ ?_;simp only[aT,Tryz.results92,aR,aS,aQ,↓sP,sA,tyS,simprocAttr,rI];refine vX [] (.slc (l.map u8)) (.slc []) (.bool false) ?_ ⟨l,[],false,rfl,rfl,rfl,.inl ⟨rfl,hn,rfl,rfl⟩⟩;simp[HV.close,HV.closeL,HV.norm,HV.toC,HV.toCL,CV.denil,denilL_u8]
theorem cB1 (l:List UInt8)(c:UInt8):aZ5 Tryz.prog 123 148 [.slc (l.map u8),.slc [u8 c],.int .i64 0] [(52,.slc [u8 c]),(52,.slc (l.map u8)),(3,.int .i64 0)]:=by
 refine bD Tryz.func123 rfl (by kernel_rfl) (bH _) (Nat.le_of_ble_eq_true rfl) ?_;refine aE fun K hK=>Rg ?_;iterate 4 refine S0 ?_ (e:=fun _ h_=>by simp only[sH,↓sP,sA,tyS,simprocAttr,rI];exact AX h_)
 simp only[sE,↓reduceIte,simprocAttr,rI];refine AX (hK _ _ _ ?_);clear hK K;refine R0 ?_ (e:=fun _ h_=>by simp only[↓sP,sA,tyS,simprocAttr,rI];exact AX h_);refine aJ ?_;simp only[aT,Tryz.results123,aR,aS,aQ,↓sP,sA,tyS,simprocAttr,rI];refine sY (gf:=148) (bs:=[(52,.slc [u8 c]),(52,.slc (l.map u8)),(3,.int .i64 0)]) (ids:=[4,0,8]) rfl (by simp) (by decide) ?_ ?_
 ·
  intro j x hx
  match j,hx with
  |0,hx=>cases hx;rfl
  |1,hx=>cases hx;rfl
  |2,hx=>cases hx;rfl
 intro x hx;simp only[List.mem_cons,List.not_mem_nil,or_false]at hx;rcases hx with rfl|rfl|rfl
 · rfl
 · exact congrArg CV.slc (denilL_u8 l)
 rfl
theorem bI0 (l:List UInt8)(c:UInt8):aZ5 Tryz.prog 93 148 [.slc (l.map u8),.slc [u8 c]] [(52,.slc [u8 c]),(52,.slc (l.map u8)),(3,.int .i64 0)]:=by
 refine bD Tryz.func93 rfl (by kernel_rfl) (bH _) (Nat.le_of_ble_eq_true rfl) ?_;refine R0 ?_ (e:=fun _ h_=>by simp only[↓sP,sA,tyS,simprocAttr,rI];exact AX h_);refine aE fun K hK=>Rg ?_;iterate 2 refine S0 ?_ (e:=fun _ h_=>by simp only[sH,↓sP,sA,tyS,simprocAttr,rI,denilL_u8,mG,gS,List.range',List.map_cons,List.map_nil];exact AX h_)
 refine aC (g:=none) rfl rfl fun K' hK'=>?_;simp only[sH,↓sP,sA,tyS,simprocAttr,rI,denilL_u8,mG,gS,List.range',List.map_cons,List.map_nil];refine sX (args:=[_,_,_]) (cB1 l c) (by simp) ⟨rfl,rfl,rfl,rfl⟩ ?_;refine AX (hK' _ _ ?_);clear hK' K';refine S0 ?_ (e:=fun _ h_=>by simp only[sH,↓sP,sA,tyS,simprocAttr,rI,denilL_u8,mG,gS,List.range',List.map_cons,List.map_nil];exact AX h_);simp only[sE,↓reduceIte,simprocAttr,rI];refine AX (hK _ _ _ ?_);clear hK K;refine aJ ?_;simp only[aT,Tryz.results93,aR,aS,aQ,↓sP,sA,tyS,simprocAttr,rI];refine sY (gf:=148) (bs:=[(52,.slc [u8 c]),(52,.slc (l.map u8)),(3,.int .i64 0)]) (ids:=[12,13,14]) rfl (by simp) (by decide) ?_ ?_
 ·
  intro j x hx
  match j,hx with
  |0,hx=>cases hx;rfl
  |1,hx=>cases hx;rfl
  |2,hx=>cases hx;rfl
 intro x hx;simp only[List.mem_cons,List.not_mem_nil,or_false]at hx;rcases hx with rfl|rfl|rfl
 · rfl
 · exact congrArg CV.slc (denilL_u8 l)
 rfl
end Go.Proofs.YthedbjfipmkpiaaGreatDoor
