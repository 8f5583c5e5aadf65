/- Part of a proof: walks of functions of the program, by contracts, and the rules they use. By an AI agent. -/
import Derived.Test.YthedbjfipmkpiaaGreatDoorHdSq
import Derived.Test.YthedbjfipmkpiaaGreatDoorHdSb
import Derived.Test.YthedbjfipmkpiaaGreatDoorHdU5
import Derived.Test.YthedbjfipmkpiaaGreatDoorPl03
import Derived.Test.YthedbjfipmkpiaaGreatDoorHdU6
set_option linter.unusedSimpArgs false
set_option linter.unusedVariables false
set_option linter.defProp false
namespace Go.Proofs.YthedbjfipmkpiaaGreatDoor
open Go Go.Hl Go.Pl
set_option maxRecDepth 10000
set_option maxHeartbeats 2000000
theorem bZ5 (s:aH)(hl:s.length<2^63):dF Tryz.prog 154 [.str s] (fun v=>v= .bool (fW s)):=by
 refine bB Tryz.func154 rfl (by kernel_rfl) (bH _) (Nat.le_of_ble_eq_true rfl) ?_;refine R0 ?_;refine aE fun K hK=>?_;refine aE fun K hK=>Rg ?_;iterate 4 refine S0 ?_
 refine aL 7 rfl (fun h1_7=>?_) (fun h1_7=>?_)
 ·
  iterate 4 refine S0 ?_ (e:=fun _ h_=>by simp only[sH,↓sP,sA,tyS,simprocAttr,h1_7];exact AX h_)
  refine T2 (hK _ _ _ ?_);clear hK K;refine aG (b:=true) rfl (fun hb=>?_) (fun hb=>?_)
  · refine R0 ?_;refine aJ ?_;simp only[aV,Tryz.results154,aR,aT,aQ,↓sP,sA,tyS,simprocAttr];exact aW [] (.bool false) rfl (by rw[zO (by simp at h1_7;omega)])
  cases hb
 iterate 4 refine S0 ?_ (e:=fun _ h_=>by simp only[sH,↓sP,sA,tyS,simprocAttr,h1_7];exact AX h_)
 refine T2 (hK _ _ _ ?_);clear hK K;refine aG (b:=_) rfl (fun hb=>?_) (fun hb=>?_)
 · refine R0 ?_;refine aJ ?_;simp only[aV,Tryz.results154,aR,aT,aQ,↓sP,sA,tyS,simprocAttr];exact aW [] (.bool false) rfl (by rw[zO (by simp at hb;omega)])
 refine aK ?_;refine T0 (hK _ _ _ ?_);clear hK K;refine aE fun K hK=>?_;refine R0 ?_;refine aP ?_;have hlen:1≤s.length∧s.length≤64:=by simp at h1_7 hb;omega
 refine bT (α:={i:Nat//i≤s.length∧ ∀j (_:j<i) (h:j<s.length),okc j s[j]=true}) (fun i=>(fin [(0,.c (.str s)),(3,.c (.int .i64 i.1))],fob [])) 100 (fun i=>s.length-i.1) ⟨0,by omega,fun j h=>by omega⟩ (fF) ?_;clear hb;rintro⟨i,hi,h0⟩;refine aE fun K hK=>?_;refine aE fun K hK=>Rg ?_;iterate 4 refine S0 ?_ (e:=fun _ h_=>by simp only[sH,↓sP,sA,tyS,simprocAttr,h1_7];exact AX h_)
 refine T2 (hK _ _ _ ?_);clear hK K;refine aG (b:=decide ((i:Int)<s.length)) rfl (fun hb=>?_) (fun hb=>?_)
 ·
  have hlt:i<s.length:=by simpa using hb
  have hgd:s.getD i 0=s[i]:=by simp[hlt]
  refine aK ?_;refine T0 (hK _ _ _ ?_);clear hK K;refine aE fun K hK=>?_;refine aP ?_;refine aE fun K hK=>Rg ?_;iterate 4 refine S0 ?_ (e:=fun _ h_=>by simp only[sH,↓sP,sA,tyS,simprocAttr,Int.natCast_nonneg,Int.ofNat_lt,hlt,hgd,h1_7];exact AX h_)
  refine T2 (hK _ _ _ ?_);clear hK K;refine aE fun K hK=>?_;refine aE fun K hK=>?_;have key: ∀(b:Bool) fr ob nx,b=okc i s[i]→Fits 0 fr ob (fin [(0,.c (.str s)),(3,.c (.int .i64 i)),(51,.c (.bool b))]) (fob []) 600→K fr ob nx:=by
   rintro b fr ob nx rfl hf;refine hK _ _ _ (bW hf ?_);clear hf hK K;refine aG (b:=okc i s[i]) rfl (fun hb=>?_) (fun hb=>?_)
   · refine bL ?_;simp only[↓sP,sA,tyS,simprocAttr];clear hK K;refine AX (hK _ _ _ ?_);clear hK K;refine aD (by kernel_rfl) ?_;simp only[↓sP,sA,tyS,simprocAttr,pN i];refine⟨⟨i+1,hlt,bF5 hlt hb h0⟩,fF,?_⟩;show s.length-(i+1)<s.length-i;omega
   refine aK ?_;refine T0 (hK _ _ _ ?_);clear hK K;refine R0 ?_;refine aJ ?_;simp only[aV,Tryz.results154,aR,aT,aQ,↓sP,sA,tyS,simprocAttr];exact aW [] (.bool false) rfl (by rw[bF4 hlt hb])
  refine aD (by kernel_rfl) ?_;simp only[sR,simprocAttr];iterate 3 refine S0 ?_ (e:=fun _ h_=>by simp only[sH,↓sP,sA,tyS,simprocAttr,h1_7];exact AX h_)
  refine aL 23 rfl (fun h7_23=>?_) (fun h7_23=>?_)
  ·
   iterate 4 refine S0 ?_ (e:=fun _ h_=>by simp only[sH,↓sP,sA,tyS,simprocAttr,h1_7,h7_23];exact AX h_)
   refine aL 26 rfl (fun h7_26=>?_) (fun h7_26=>?_)
   ·
    iterate 23 refine S0 ?_ (e:=fun _ h_=>by simp only[sH,↓sP,sA,tyS,simprocAttr,h1_7,h7_23,h7_26];exact AX h_)
    simp only[sE,↓reduceIte,simprocAttr];exact key true _ _ _ (by simp only[okc,alZ,puZ,h1_7,h7_23,h7_26,Bool.and_true,Bool.and_false,Bool.true_and,Bool.false_and,Bool.or_true,Bool.true_or,Bool.false_or,Bool.or_false,Bool.and_self,Bool.or_self]) (fF)
   iterate 3 refine S0 ?_ (e:=fun _ h_=>by simp only[sH,↓sP,sA,tyS,simprocAttr,h1_7,h7_23,h7_26];exact AX h_)
   refine aL 30 rfl (fun h7_30=>?_) (fun h7_30=>?_)
   ·
    iterate 5 refine S0 ?_ (e:=fun _ h_=>by simp only[sH,↓sP,sA,tyS,simprocAttr,h1_7,h7_23,h7_26,h7_30];exact AX h_)
    refine aL 33 rfl (fun h7_33=>?_) (fun h7_33=>?_)
    ·
     iterate 15 refine S0 ?_ (e:=fun _ h_=>by simp only[sH,↓sP,sA,tyS,simprocAttr,h1_7,h7_23,h7_26,h7_30,h7_33];exact AX h_)
     simp only[sE,↓reduceIte,simprocAttr];exact key true _ _ _ (by simp only[okc,alZ,puZ,h1_7,h7_23,h7_26,h7_30,h7_33,Bool.and_true,Bool.and_false,Bool.true_and,Bool.false_and,Bool.or_true,Bool.true_or,Bool.false_or,Bool.or_false,Bool.and_self,Bool.or_self]) (fF)
    iterate 3 refine S0 ?_ (e:=fun _ h_=>by simp only[sH,↓sP,sA,tyS,simprocAttr,h1_7,h7_23,h7_26,h7_30,h7_33];exact AX h_)
    refine aL 38 rfl (fun h7_38=>?_) (fun h7_38=>?_)
    ·
     iterate 3 refine S0 ?_ (e:=fun _ h_=>by simp only[sH,↓sP,sA,tyS,simprocAttr,h1_7,h7_23,h7_26,h7_30,h7_33,h7_38];exact AX h_)
     refine aL 41 rfl (fun h7_41=>?_) (fun h7_41=>?_)
     ·
      iterate 9 refine S0 ?_ (e:=fun _ h_=>by simp only[sH,↓sP,sA,tyS,simprocAttr,h1_7,h7_23,h7_26,h7_30,h7_33,h7_38,h7_41];exact AX h_)
      simp only[sE,↓reduceIte,simprocAttr];exact key true _ _ _ (by simp only[okc,alZ,puZ,h1_7,h7_23,h7_26,h7_30,h7_33,h7_38,h7_41,Bool.and_true,Bool.and_false,Bool.true_and,Bool.false_and,Bool.or_true,Bool.true_or,Bool.false_or,Bool.or_false,Bool.and_self,Bool.or_self]) (fF)
     iterate 4 refine S0 ?_ (e:=fun _ h_=>by simp only[sH,↓sP,sA,tyS,simprocAttr,h1_7,h7_23,h7_26,h7_30,h7_33,h7_38,h7_41];exact AX h_)
     refine aL 44 rfl (fun h7_44=>?_) (fun h7_44=>?_)
     ·
      iterate 5 refine S0 ?_ (e:=fun _ h_=>by simp only[sH,↓sP,sA,tyS,simprocAttr,h1_7,h7_23,h7_26,h7_30,h7_33,h7_38,h7_41,h7_44];exact AX h_)
      simp only[sE,↓reduceIte,simprocAttr];exact key true _ _ _ (by simp only[okc,alZ,puZ,h1_7,h7_23,h7_26,h7_30,h7_33,h7_38,h7_41,h7_44,Bool.and_true,Bool.and_false,Bool.true_and,Bool.false_and,Bool.or_true,Bool.true_or,Bool.false_or,Bool.or_false,Bool.and_self,Bool.or_self]) (fF)
     iterate 5 refine S0 ?_ (e:=fun _ h_=>by simp only[sH,↓sP,sA,tyS,simprocAttr,h1_7,h7_23,h7_26,h7_30,h7_33,h7_38,h7_41,h7_44];exact AX h_)
     refine aL 48 rfl (fun h7_48=>?_) (fun h7_48=>?_)
     · simp only[h7_48];simp only[sE,↓reduceIte,simprocAttr];exact key true _ _ _ (by simp only[okc,alZ,puZ,h1_7,h7_23,h7_26,h7_30,h7_33,h7_38,h7_41,h7_44,h7_48,Bool.and_true,Bool.and_false,Bool.true_and,Bool.false_and,Bool.or_true,Bool.true_or,Bool.false_or,Bool.or_false,Bool.and_self,Bool.or_self]) (fF)
     simp only[h7_48];simp only[sE,↓reduceIte,simprocAttr];exact key false _ _ _ (by simp only[okc,alZ,puZ,h1_7,h7_23,h7_26,h7_30,h7_33,h7_38,h7_41,h7_44,h7_48,Bool.and_true,Bool.and_false,Bool.true_and,Bool.false_and,Bool.or_true,Bool.true_or,Bool.false_or,Bool.or_false,Bool.and_self,Bool.or_self]) (fF)
    iterate 12 refine S0 ?_ (e:=fun _ h_=>by simp only[sH,↓sP,sA,tyS,simprocAttr,h1_7,h7_23,h7_26,h7_30,h7_33,h7_38];exact AX h_)
    simp only[sE,↓reduceIte,simprocAttr];exact key false _ _ _ (by simp only[okc,alZ,puZ,h1_7,h7_23,h7_26,h7_30,h7_33,h7_38,Bool.and_true,Bool.and_false,Bool.true_and,Bool.false_and,Bool.or_true,Bool.true_or,Bool.false_or,Bool.or_false,Bool.and_self,Bool.or_self]) (fF)
   iterate 8 refine S0 ?_ (e:=fun _ h_=>by simp only[sH,↓sP,sA,tyS,simprocAttr,h1_7,h7_23,h7_26,h7_30];exact AX h_)
   refine aL 38 rfl (fun h7_38=>?_) (fun h7_38=>?_)
   ·
    iterate 3 refine S0 ?_ (e:=fun _ h_=>by simp only[sH,↓sP,sA,tyS,simprocAttr,h1_7,h7_23,h7_26,h7_30,h7_38];exact AX h_)
    refine aL 41 rfl (fun h7_41=>?_) (fun h7_41=>?_)
    ·
     iterate 9 refine S0 ?_ (e:=fun _ h_=>by simp only[sH,↓sP,sA,tyS,simprocAttr,h1_7,h7_23,h7_26,h7_30,h7_38,h7_41];exact AX h_)
     simp only[sE,↓reduceIte,simprocAttr];exact key true _ _ _ (by simp only[okc,alZ,puZ,h1_7,h7_23,h7_26,h7_30,h7_38,h7_41,Bool.and_true,Bool.and_false,Bool.true_and,Bool.false_and,Bool.or_true,Bool.true_or,Bool.false_or,Bool.or_false,Bool.and_self,Bool.or_self]) (fF)
    iterate 4 refine S0 ?_ (e:=fun _ h_=>by simp only[sH,↓sP,sA,tyS,simprocAttr,h1_7,h7_23,h7_26,h7_30,h7_38,h7_41];exact AX h_)
    refine aL 44 rfl (fun h7_44=>?_) (fun h7_44=>?_)
    ·
     iterate 5 refine S0 ?_ (e:=fun _ h_=>by simp only[sH,↓sP,sA,tyS,simprocAttr,h1_7,h7_23,h7_26,h7_30,h7_38,h7_41,h7_44];exact AX h_)
     simp only[sE,↓reduceIte,simprocAttr];exact key true _ _ _ (by simp only[okc,alZ,puZ,h1_7,h7_23,h7_26,h7_30,h7_38,h7_41,h7_44,Bool.and_true,Bool.and_false,Bool.true_and,Bool.false_and,Bool.or_true,Bool.true_or,Bool.false_or,Bool.or_false,Bool.and_self,Bool.or_self]) (fF)
    iterate 5 refine S0 ?_ (e:=fun _ h_=>by simp only[sH,↓sP,sA,tyS,simprocAttr,h1_7,h7_23,h7_26,h7_30,h7_38,h7_41,h7_44];exact AX h_)
    refine aL 48 rfl (fun h7_48=>?_) (fun h7_48=>?_)
    · simp only[h7_48];simp only[sE,↓reduceIte,simprocAttr];exact key true _ _ _ (by simp only[okc,alZ,puZ,h1_7,h7_23,h7_26,h7_30,h7_38,h7_41,h7_44,h7_48,Bool.and_true,Bool.and_false,Bool.true_and,Bool.false_and,Bool.or_true,Bool.true_or,Bool.false_or,Bool.or_false,Bool.and_self,Bool.or_self]) (fF)
    simp only[h7_48];simp only[sE,↓reduceIte,simprocAttr];exact key false _ _ _ (by simp only[okc,alZ,puZ,h1_7,h7_23,h7_26,h7_30,h7_38,h7_41,h7_44,h7_48,Bool.and_true,Bool.and_false,Bool.true_and,Bool.false_and,Bool.or_true,Bool.true_or,Bool.false_or,Bool.or_false,Bool.and_self,Bool.or_self]) (fF)
   iterate 12 refine S0 ?_ (e:=fun _ h_=>by simp only[sH,↓sP,sA,tyS,simprocAttr,h1_7,h7_23,h7_26,h7_30,h7_38];exact AX h_)
   simp only[sE,↓reduceIte,simprocAttr];exact key false _ _ _ (by simp only[okc,alZ,puZ,h1_7,h7_23,h7_26,h7_30,h7_38,Bool.and_true,Bool.and_false,Bool.true_and,Bool.false_and,Bool.or_true,Bool.true_or,Bool.false_or,Bool.or_false,Bool.and_self,Bool.or_self]) (fF)
  iterate 7 refine S0 ?_ (e:=fun _ h_=>by simp only[sH,↓sP,sA,tyS,simprocAttr,h1_7,h7_23];exact AX h_)
  refine aL 30 rfl (fun h7_30=>?_) (fun h7_30=>?_)
  ·
   iterate 5 refine S0 ?_ (e:=fun _ h_=>by simp only[sH,↓sP,sA,tyS,simprocAttr,h1_7,h7_23,h7_30];exact AX h_)
   refine aL 33 rfl (fun h7_33=>?_) (fun h7_33=>?_)
   ·
    iterate 15 refine S0 ?_ (e:=fun _ h_=>by simp only[sH,↓sP,sA,tyS,simprocAttr,h1_7,h7_23,h7_30,h7_33];exact AX h_)
    simp only[sE,↓reduceIte,simprocAttr];exact key true _ _ _ (by simp only[okc,alZ,puZ,h1_7,h7_23,h7_30,h7_33,Bool.and_true,Bool.and_false,Bool.true_and,Bool.false_and,Bool.or_true,Bool.true_or,Bool.false_or,Bool.or_false,Bool.and_self,Bool.or_self]) (fF)
   iterate 3 refine S0 ?_ (e:=fun _ h_=>by simp only[sH,↓sP,sA,tyS,simprocAttr,h1_7,h7_23,h7_30,h7_33];exact AX h_)
   refine aL 38 rfl (fun h7_38=>?_) (fun h7_38=>?_)
   ·
    iterate 3 refine S0 ?_ (e:=fun _ h_=>by simp only[sH,↓sP,sA,tyS,simprocAttr,h1_7,h7_23,h7_30,h7_33,h7_38];exact AX h_)
    refine aL 41 rfl (fun h7_41=>?_) (fun h7_41=>?_)
    ·
     iterate 9 refine S0 ?_ (e:=fun _ h_=>by simp only[sH,↓sP,sA,tyS,simprocAttr,h1_7,h7_23,h7_30,h7_33,h7_38,h7_41];exact AX h_)
     simp only[sE,↓reduceIte,simprocAttr];exact key true _ _ _ (by simp only[okc,alZ,puZ,h1_7,h7_23,h7_30,h7_33,h7_38,h7_41,Bool.and_true,Bool.and_false,Bool.true_and,Bool.false_and,Bool.or_true,Bool.true_or,Bool.false_or,Bool.or_false,Bool.and_self,Bool.or_self]) (fF)
    iterate 4 refine S0 ?_ (e:=fun _ h_=>by simp only[sH,↓sP,sA,tyS,simprocAttr,h1_7,h7_23,h7_30,h7_33,h7_38,h7_41];exact AX h_)
    refine aL 44 rfl (fun h7_44=>?_) (fun h7_44=>?_)
    ·
     iterate 5 refine S0 ?_ (e:=fun _ h_=>by simp only[sH,↓sP,sA,tyS,simprocAttr,h1_7,h7_23,h7_30,h7_33,h7_38,h7_41,h7_44];exact AX h_)
     simp only[sE,↓reduceIte,simprocAttr];exact key true _ _ _ (by simp only[okc,alZ,puZ,h1_7,h7_23,h7_30,h7_33,h7_38,h7_41,h7_44,Bool.and_true,Bool.and_false,Bool.true_and,Bool.false_and,Bool.or_true,Bool.true_or,Bool.false_or,Bool.or_false,Bool.and_self,Bool.or_self]) (fF)
    iterate 5 refine S0 ?_ (e:=fun _ h_=>by simp only[sH,↓sP,sA,tyS,simprocAttr,h1_7,h7_23,h7_30,h7_33,h7_38,h7_41,h7_44];exact AX h_)
    refine aL 48 rfl (fun h7_48=>?_) (fun h7_48=>?_)
    · simp only[h7_48];simp only[sE,↓reduceIte,simprocAttr];exact key true _ _ _ (by simp only[okc,alZ,puZ,h1_7,h7_23,h7_30,h7_33,h7_38,h7_41,h7_44,h7_48,Bool.and_true,Bool.and_false,Bool.true_and,Bool.false_and,Bool.or_true,Bool.true_or,Bool.false_or,Bool.or_false,Bool.and_self,Bool.or_self]) (fF)
    simp only[h7_48];simp only[sE,↓reduceIte,simprocAttr];exact key false _ _ _ (by simp only[okc,alZ,puZ,h1_7,h7_23,h7_30,h7_33,h7_38,h7_41,h7_44,h7_48,Bool.and_true,Bool.and_false,Bool.true_and,Bool.false_and,Bool.or_true,Bool.true_or,Bool.false_or,Bool.or_false,Bool.and_self,Bool.or_self]) (fF)
   iterate 12 refine S0 ?_ (e:=fun _ h_=>by simp only[sH,↓sP,sA,tyS,simprocAttr,h1_7,h7_23,h7_30,h7_33,h7_38];exact AX h_)
   simp only[sE,↓reduceIte,simprocAttr];exact key false _ _ _ (by simp only[okc,alZ,puZ,h1_7,h7_23,h7_30,h7_33,h7_38,Bool.and_true,Bool.and_false,Bool.true_and,Bool.false_and,Bool.or_true,Bool.true_or,Bool.false_or,Bool.or_false,Bool.and_self,Bool.or_self]) (fF)
  iterate 8 refine S0 ?_ (e:=fun _ h_=>by simp only[sH,↓sP,sA,tyS,simprocAttr,h1_7,h7_23,h7_30];exact AX h_)
  refine aL 38 rfl (fun h7_38=>?_) (fun h7_38=>?_)
  ·
   iterate 3 refine S0 ?_ (e:=fun _ h_=>by simp only[sH,↓sP,sA,tyS,simprocAttr,h1_7,h7_23,h7_30,h7_38];exact AX h_)
   refine aL 41 rfl (fun h7_41=>?_) (fun h7_41=>?_)
   ·
    iterate 9 refine S0 ?_ (e:=fun _ h_=>by simp only[sH,↓sP,sA,tyS,simprocAttr,h1_7,h7_23,h7_30,h7_38,h7_41];exact AX h_)
    simp only[sE,↓reduceIte,simprocAttr];exact key true _ _ _ (by simp only[okc,alZ,puZ,h1_7,h7_23,h7_30,h7_38,h7_41,Bool.and_true,Bool.and_false,Bool.true_and,Bool.false_and,Bool.or_true,Bool.true_or,Bool.false_or,Bool.or_false,Bool.and_self,Bool.or_self]) (fF)
   iterate 4 refine S0 ?_ (e:=fun _ h_=>by simp only[sH,↓sP,sA,tyS,simprocAttr,h1_7,h7_23,h7_30,h7_38,h7_41];exact AX h_)
   refine aL 44 rfl (fun h7_44=>?_) (fun h7_44=>?_)
   ·
    iterate 5 refine S0 ?_ (e:=fun _ h_=>by simp only[sH,↓sP,sA,tyS,simprocAttr,h1_7,h7_23,h7_30,h7_38,h7_41,h7_44];exact AX h_)
    simp only[sE,↓reduceIte,simprocAttr];exact key true _ _ _ (by simp only[okc,alZ,puZ,h1_7,h7_23,h7_30,h7_38,h7_41,h7_44,Bool.and_true,Bool.and_false,Bool.true_and,Bool.false_and,Bool.or_true,Bool.true_or,Bool.false_or,Bool.or_false,Bool.and_self,Bool.or_self]) (fF)
   iterate 5 refine S0 ?_ (e:=fun _ h_=>by simp only[sH,↓sP,sA,tyS,simprocAttr,h1_7,h7_23,h7_30,h7_38,h7_41,h7_44];exact AX h_)
   refine aL 48 rfl (fun h7_48=>?_) (fun h7_48=>?_)
   · simp only[h7_48];simp only[sE,↓reduceIte,simprocAttr];exact key true _ _ _ (by simp only[okc,alZ,puZ,h1_7,h7_23,h7_30,h7_38,h7_41,h7_44,h7_48,Bool.and_true,Bool.and_false,Bool.true_and,Bool.false_and,Bool.or_true,Bool.true_or,Bool.false_or,Bool.or_false,Bool.and_self,Bool.or_self]) (fF)
   simp only[h7_48];simp only[sE,↓reduceIte,simprocAttr];exact key false _ _ _ (by simp only[okc,alZ,puZ,h1_7,h7_23,h7_30,h7_38,h7_41,h7_44,h7_48,Bool.and_true,Bool.and_false,Bool.true_and,Bool.false_and,Bool.or_true,Bool.true_or,Bool.false_or,Bool.or_false,Bool.and_self,Bool.or_self]) (fF)
  iterate 12 refine S0 ?_ (e:=fun _ h_=>by simp only[sH,↓sP,sA,tyS,simprocAttr,h1_7,h7_23,h7_30,h7_38];exact AX h_)
  simp only[sE,↓reduceIte,simprocAttr];exact key false _ _ _ (by simp only[okc,alZ,puZ,h1_7,h7_23,h7_30,h7_38,Bool.and_true,Bool.and_false,Bool.true_and,Bool.false_and,Bool.or_true,Bool.true_or,Bool.false_or,Bool.or_false,Bool.and_self,Bool.or_self]) (fF)
 refine bL ?_;simp only[↓sP,sA,tyS,simprocAttr];clear hK K;refine AX (hK _ _ _ ?_);clear hK K;refine R0 ?_;refine aJ ?_;simp only[aV,Tryz.results154,aR,aT,aQ,↓sP,sA,tyS,simprocAttr];have hei:i=s.length:=by simp at hb;omega
 exact aW [] (.bool true) rfl (by rw[sV.2 ⟨hlen,fun j h=>h0 j (by omega) h⟩])
theorem rE (c:UInt8):dF Tryz.prog 111 [.int .u8 c.toNat] (fun v=>v= .bool (dV c)):=by
 refine bB Tryz.func111 rfl (by kernel_rfl) (bH _) (Nat.le_of_ble_eq_true rfl) ?_;refine R0 ?_;refine aE fun K hK=>Rg ?_;iterate 3 refine S0 ?_
 refine aL 4 rfl (fun h1_4=>?_) (fun h1_4=>?_)
 ·
  iterate 4 refine S0 ?_ (e:=fun _ h_=>by simp only[sH,↓sP,sA,tyS,simprocAttr,h1_4];exact AX h_)
  refine aL 7 rfl (fun h1_7=>?_) (fun h1_7=>?_)
  ·
   iterate 4 refine S0 ?_ (e:=fun _ h_=>by simp only[sH,↓sP,sA,tyS,simprocAttr,h1_4,h1_7];exact AX h_)
   refine T2 (hK _ _ _ ?_);clear hK K;refine aJ ?_;simp only[aV,Tryz.results111,aR,aT,aQ,↓sP,sA,tyS,simprocAttr];refine aW [] (.bool _) rfl ?_;simp[h1_4,h1_7,dV];all_goals first|rfl|simp_all|omega
  iterate 4 refine S0 ?_ (e:=fun _ h_=>by simp only[sH,↓sP,sA,tyS,simprocAttr,h1_4,h1_7];exact AX h_)
  refine T2 (hK _ _ _ ?_);clear hK K;refine aJ ?_;simp only[aV,Tryz.results111,aR,aT,aQ,↓sP,sA,tyS,simprocAttr];refine aW [] (.bool _) rfl ?_;simp[h1_4,h1_7,dV];all_goals first|rfl|simp_all|omega
 iterate 8 refine S0 ?_ (e:=fun _ h_=>by simp only[sH,↓sP,sA,tyS,simprocAttr,h1_4];exact AX h_)
 refine T2 (hK _ _ _ ?_);clear hK K;refine aJ ?_;simp only[aV,Tryz.results111,aR,aT,aQ,↓sP,sA,tyS,simprocAttr];refine aW [] (.bool _) rfl ?_;simp[h1_4,dV];all_goals first|rfl|simp_all|omega
theorem aZ0 (w:aH)(hl:w.length<2^40):dF Tryz.prog 84 [.str w] (fun v=>v= .int .i64 (sizeW w:Nat)):=by
 refine bB Tryz.func84 rfl (by kernel_rfl) (bH _) (Nat.le_of_ble_eq_true rfl) ?_;refine R0 ?_;refine R0 ?_;refine aE fun K hK=>?_;refine R0 ?_;refine aP ?_;refine bT (α:={i:Nat//i≤w.length}) (fun i=>(fin [(0,.c (.str w)),(3,.c (.int .i64 (dA (w.take i.1)).length)),(4,.c (.int .i64 i.1))],fob [])) 100 (fun i=>w.length-i.1) ⟨0,by omega⟩ (fF) ?_;rintro⟨i,hi⟩;have hle:=oO w i;have hle3:=wI w;refine aE fun K hK=>?_;refine aE fun K hK=>Rg ?_;iterate 4 refine S0 ?_
 refine T2 (hK _ _ _ ?_);clear hK K;refine aG (b:=decide ((i:Int)<w.length)) rfl (fun hb=>?_) (fun hb=>?_)
 ·
  have hlt:i<w.length:=by simpa using hb
  have hgd:w.getD i 0=w[i]:=by simp[hlt]
  have hs:=wJ hlt;refine aK ?_;refine T0 (hK _ _ _ ?_);clear hK K;refine aE fun K hK=>?_;refine aP ?_;refine R0 ?_ (e:=fun _ h_=>by simp only[↓sP,sA,tyS,simprocAttr,IntWalk.i64_in _ (show-9223372036854775808≤((dA (w.take i)).length:Int)+1∧((dA (w.take i)).length:Int)+1≤9223372036854775807 by omega)];exact AX h_);refine aE fun K hK=>Rg ?_;iterate 3 refine S0 ?_ (e:=fun _ h_=>by simp only[sH,↓sP,sA,tyS,simprocAttr,Int.natCast_nonneg,Int.ofNat_lt,hlt,hgd];exact AX h_)
  refine aC (g:=none) rfl rfl fun K' hK'=>?_;simp only[sH,↓sP,sA,tyS,simprocAttr,Int.natCast_nonneg,Int.ofNat_lt,hlt,hgd];refine bD (args:=[_]) (rE w[i]) ⟨rfl,rfl,rfl,rfl⟩ ?_;rintro u rfl;refine AX (hK' _ _ ?_);clear hK' K';refine S0 ?_ (e:=fun _ h_=>by simp only[sH,↓sP,sA,tyS,simprocAttr,Int.natCast_nonneg,Int.ofNat_lt,hlt,hgd];exact AX h_);refine T2 (hK _ _ _ ?_);clear hK K;refine aG (b:=!dV w[i]) rfl (fun hb=>?_) (fun hb=>?_)
  ·
   refine aD (by kernel_rfl) ?_;simp only[↓sP,sA,tyS,simprocAttr,IntWalk.i64_in _ (show-9223372036854775808≤((dA (w.take i)).length:Int)+1+2∧((dA (w.take i)).length:Int)+1+2≤9223372036854775807 by omega)];refine AX (hK _ _ _ ?_);clear hK K;refine aD (by kernel_rfl) ?_;simp only[↓sP,sA,tyS,simprocAttr,pN i];have hp:dV w[i]=false:=by simpa using hb
   have he:((dA (w.take i)).length:Int)+1+2=((dA (w.take (i+1))).length:Int):=by
    rw[hs,List.length_append,mH,if_neg (by rw[hp];simp)];simp;omega
   simp only[he];refine⟨⟨i+1,hlt⟩,fF,?_⟩;show w.length-(i+1)<w.length-i;omega
  refine aK ?_;refine T0 (hK _ _ _ ?_);clear hK K;refine aD (by kernel_rfl) ?_;simp only[↓sP,sA,tyS,simprocAttr,pN i];have hp:dV w[i]=true:=by simpa using hb
  have he:((dA (w.take i)).length:Int)+1=((dA (w.take (i+1))).length:Int):=by
   rw[hs,List.length_append,mH,if_pos hp];simp
  simp only[he];refine⟨⟨i+1,hlt⟩,fF,?_⟩;show w.length-(i+1)<w.length-i;omega
 refine bL ?_;simp only[↓sP,sA,tyS,simprocAttr];clear hK K;refine AX (hK _ _ _ ?_);clear hK K;refine R0 ?_ (e:=fun _ h_=>by simp only[↓sP,sA,tyS,simprocAttr,cP1];exact AX h_);refine aJ ?_;simp only[aV,Tryz.results84,aR,aT,aQ,↓sP,sA,tyS,simprocAttr];have hei:i=w.length:=by simp at hb;omega
 subst hei;exact aW [] (.int .i64 (sizeW w:Nat)) (by rw[List.take_length];rfl) rfl
theorem aZ1 (w:aH)(hl:w.length<2^40):dF Tryz.prog 85 [.str w] (fun v=>v= .str (lY w)):=by
 refine bB Tryz.func85 rfl (by kernel_rfl) (bH _) (Nat.le_of_ble_eq_true rfl) ?_;refine R0 ?_;refine aE fun K hK=>?_;refine R0 ?_;refine aG (b:=w==[]) rfl (fun hb=>?_) (fun hb=>?_)
 · refine R0 ?_;refine aJ ?_;simp only[aV,Tryz.results85,aR,aT,aQ,↓sP,sA,tyS,simprocAttr];exact aW [] (.str [126]) rfl (by rw[lY,if_pos (by simpa using hb)])
 refine aK ?_;refine T0 (hK _ _ _ ?_);clear hK K;have hne:w≠[]:=by simpa using hb
 have hz:(sizeW w:Int)≤140737488355328:=by have:=eJ w;omega
 clear hb;refine aE fun K hK=>Rg ?_;refine S0 ?_ (e:=fun _ h_=>by simp only[sH,↓sP,sA,tyS,simprocAttr,Int.natCast_nonneg,hz,Int.mul_one];exact AX h_);refine aC (g:=none) rfl rfl fun K' hK'=>?_;simp only[sH,↓sP,sA,tyS,simprocAttr,Int.natCast_nonneg,hz,Int.mul_one];refine bD (args:=[_]) (aZ0 w hl) ⟨rfl,rfl,rfl,rfl⟩ ?_;rintro u rfl;refine AX (hK' _ _ ?_);clear hK' K';iterate 2 refine S0 ?_ (e:=fun _ h_=>by simp only[sH,↓sP,sA,tyS,simprocAttr,Int.natCast_nonneg,hz,Int.mul_one];exact AX h_)
 refine T2 (hK _ _ _ ?_);clear hK K;refine aE fun K hK=>?_;refine R0 ?_;refine aP ?_;refine bT (α:={i:Nat//i≤w.length}) (fun i=>(fin [(0,.c (.str w)),(3,.own 20 (dA (w.take i.1)).length),(4,.c (.int .i64 i.1))],fob [(20,.row 5 1 ((dA (w.take i.1)).map eG))])) 100 (fun i=>w.length-i.1) ⟨0,by omega⟩ (fF) ?_;rintro⟨i,hi⟩;have hle:=oO w i;have hle3:=wI w;refine aE fun K hK=>?_;refine aE fun K hK=>Rg ?_;iterate 4 refine S0 ?_
 refine T2 (hK _ _ _ ?_);clear hK K;refine aG (b:=decide ((i:Int)<w.length)) rfl (fun hb=>?_) (fun hb=>?_)
 ·
  have hlt:i<w.length:=by simpa using hb
  have hgd:w.getD i 0=w[i]:=by simp[hlt]
  have hs:=wJ hlt;refine aK ?_;refine T0 (hK _ _ _ ?_);clear hK K;refine aE fun K hK=>?_;refine aP ?_;refine aE fun K hK=>Rg ?_;iterate 3 refine S0 ?_ (e:=fun _ h_=>by simp only[sH,↓sP,sA,tyS,simprocAttr,Int.natCast_nonneg,Int.ofNat_lt,hlt,hgd];exact AX h_)
  refine aC (g:=none) rfl rfl fun K' hK'=>?_;simp only[sH,↓sP,sA,tyS,simprocAttr,Int.natCast_nonneg,Int.ofNat_lt,hlt,hgd];refine bD (args:=[_]) (rE w[i]) ⟨rfl,rfl,rfl,rfl⟩ ?_;rintro u rfl;refine AX (hK' _ _ ?_);clear hK' K';refine T2 (hK _ _ _ ?_);clear hK K;refine aG (b:=dV w[i]) rfl (fun hb=>?_) (fun hb=>?_)
  ·
   refine aD (by kernel_rfl) ?_;simp only[sR,simprocAttr];iterate 7 refine S0 ?_ (e:=fun _ h_=>by simp only[sH,↓sP,sA,tyS,simprocAttr,Int.natCast_nonneg,Int.ofNat_lt,hlt,hgd,List.length_append,List.length_map];exact AX h_)
   refine T2 (hK _ _ _ ?_);clear hK K;refine aD (by kernel_rfl) ?_;simp only[↓sP,sA,tyS,simprocAttr,pN i];refine⟨⟨i+1,hlt⟩,aI (by omega) ?_ ?_,?_⟩
   · rw[hs,mH,if_pos hb];simp[aY,upd_at,fin_at,HV.men]
   · rw[hs,mH,if_pos hb,List.map_append];exact⟨rfl,by omega,trivial,trivial⟩
   show w.length-(i+1)<w.length-i;omega
  have h16:((w[i].toNat/16:Nat):Int)<16:=by have:=w[i].toNat_lt;omega
  have h15:((w[i].toNat%16:Nat):Int)<16:=by omega
  refine dK mixed [(0,[],[]),(1,[],[]),(2,[],[]),(3,[],[]),(4,[],[]),(5,[],[]),(6,[],[]),(7,[],[]),(8,[],[]),(9,[],[]),(10,[],[]),(11,[],[]),(12,[],[]),(13,[],[])] [0,0,0,6,14,30,0,0,192,448,960,2046,4095,8191] (by kernel_rfl) (by kernel_rfl) (by kernel_rfl) (by kernel_rfl) rfl (by kernel_rfl) ?_;iterate 14 refine W0 ?_ (e:=fun _ h_=>by simp only[sH,↓sP,sA,tyS,simprocAttr,Int.natCast_nonneg,Int.ofNat_lt,hlt,hgd,List.length_append,List.length_map,cP2,cL7,h16,h15];exact AX h_)
  refine T2 (hK _ _ _ ?_);clear hK K;refine aD (by kernel_rfl) ?_;simp only[↓sP,sA,tyS,simprocAttr,pN i];refine⟨⟨i+1,hlt⟩,aI (by omega) ?_ ?_,?_⟩
  · rw[hs,mH,if_neg (by rw[hb];simp)];simp[aY,upd_at,fin_at,HV.men]
  · rw[hs,mH,if_neg (by rw[hb];simp),List.map_append];exact⟨rfl,by omega,trivial,trivial⟩
  show w.length-(i+1)<w.length-i;omega
 refine bL ?_;simp only[↓sP,sA,tyS,simprocAttr];clear hK K;refine AX (hK _ _ _ ?_);clear hK K;refine fM [20] (bW (fr2:=fin [(3,.c (.slc ((dA (w.take i)).map eG)))]) (ob2:=fob []) (nx2:=200) (aI (by omega) (by simp[aY,fL,fin_at,finA_at,upd_at,fob_at,HV.close,HV.closeL,CV.denil,CV.denilL,cL,HV.men,HV.menL,HV.norm,HV.toC,HV.toCL]) (by simp[bA,iF,fob_at,upd_at,none0_at,bO,HO.close,HV.close,HV.closeL,HO.men,HV.men,HV.menL,HV.norm,HV.toC,HV.toCL])) ?_);refine R0 ?_ (e:=fun _ h_=>by simp only[↓sP,sA,tyS,simprocAttr,bytesC_map];exact AX h_);refine aJ ?_;simp only[aV,Tryz.results85,aR,aT,aQ,↓sP,sA,tyS,simprocAttr];have hei:i=w.length:=by simp at hb;omega
 subst hei;exact aW [] (.str (dA w)) (by rw[List.take_length];rfl) (by rw[lY,if_neg hne])
theorem aM5 (l:List aH)(hl:l.length<2^40):dF Tryz.prog 83 [.slc (l.map .str)] (fun v=>v= .int .i64 (sQ l)):=by
 refine bB Tryz.func83 rfl (by kernel_rfl) (bH _) (Nat.le_of_ble_eq_true rfl) ?_;refine R0 ?_;refine aE fun K hK=>?_;refine aP ?_;refine aE fun K hK=>Rg ?_;iterate 4 refine S0 ?_
 refine T2 (hK _ _ _ ?_);clear hK K;refine aG (b:=(l.length:Int)==0) rfl (fun hb=>?_) (fun hb=>?_)
 · refine R0 ?_;refine aJ ?_;simp only[aV,Tryz.results83,aR,aT,aQ,↓sP,sA,tyS,simprocAttr];exact aW [] (.int .i64 1) rfl (by rw[sQ,if_pos (by simp at hb;simp[hb])])
 have hn0:l.length≠0:=by simp at hb;simp[hb]
 clear hb;refine aE fun K hK=>Rg ?_;iterate 4 refine S0 ?_
 refine T2 (hK _ _ _ ?_);clear hK K;refine aG (b:=decide ((120:Int)<l.length)) rfl (fun hb=>?_) (fun hb=>?_)
 · refine R0 ?_;refine aJ ?_;simp only[aV,Tryz.results83,aR,aT,aQ,↓sP,sA,tyS,simprocAttr];exact aW [] (.int .i64 3) rfl (by rw[sQ,if_neg hn0,if_pos (by simp at hb;omega)])
 refine aK ?_;refine T0 (hK _ _ _ ?_);clear hK K;refine aE fun K hK=>?_;have hn1:l.length≤120:=by simp at hb;omega
 clear hb;refine R0 ?_;refine aP ?_;refine bT (α:={i:Nat//i≤l.length∧ ∀x∈l.take i,decide (32768<x.length)=false}) (fun i=>(fin [(13,.c (.slc (l.map .str))),(14,.c (.int .i64 l.length)),(15,.c (.int .i64 i.1))],fob [])) 100 (fun i=>l.length-i.1) ⟨0,by omega,by simp⟩ (fF) ?_;rintro⟨i,hi,h0⟩;refine R0 ?_;refine aE fun K hK=>?_;refine aG (b:=decide ((i:Int)<l.length)) rfl (fun hb=>?_) (fun hb=>?_)
 ·
  have hlt:i<l.length:=by simpa using hb
  clear hb;refine aK ?_;refine T0 (hK _ _ _ ?_);clear hK K;refine aE fun K hK=>?_;refine aP ?_;refine R0 ?_ (e:=fun _ h_=>by simp only[↓sP,sA,tyS,simprocAttr,Int.natCast_nonneg,Int.ofNat_lt,hlt,aZ hlt];exact AX h_);refine R0 ?_;refine aG (b:=decide ((32768:Int)<l[i].length)) rfl (fun hb=>?_) (fun hb=>?_)
  · refine R0 ?_;refine aJ ?_;simp only[aV,Tryz.results83,aR,aT,aQ,↓sP,sA,tyS,simprocAttr];exact aW [] (.int .i64 3) rfl (by rw[sQ,if_neg hn0,if_neg (by omega),if_pos];simp only[List.any_eq_true,decide_eq_true_eq];exact⟨_,List.getElem_mem hlt,by simp at hb;omega⟩)
  refine aK ?_;refine T0 (hK _ _ _ ?_);clear hK K;refine aD (by kernel_rfl) ?_;simp only[↓sP,sA,tyS,simprocAttr,pN i];have hb2:decide (32768<l[i].length)=false:=by simp at hb⊢;omega
  refine⟨⟨i+1,hlt,zN (p:=fun x=>decide (32768<x.length)) hlt hb2 h0⟩,fF,?_⟩;show l.length-(i+1)<l.length-i;omega
 refine bL ?_;simp only[↓sP,sA,tyS,simprocAttr];clear hK K;refine AX (hK _ _ _ ?_);clear hK K;refine R0 ?_;refine aJ ?_;simp only[aV,Tryz.results83,aR,aT,aQ,↓sP,sA,tyS,simprocAttr];have hei:i=l.length:=by simp at hb;omega
 subst hei;rw[List.take_length]at h0;exact aW [] (.int .i64 0) rfl (by rw[sQ,if_neg hn0,if_neg (by omega),if_neg];simp only[List.any_eq_true,not_exists,not_and];intro x hx;simp[h0 x hx])
theorem cH8 (ls:List (List aH))(h0:ls.length<2^40)(h1: ∀l∈ls,l.length<2^40):jP Tryz.prog 48 [.slc (ls.map fun l=> .slc (l.map .str))] (fun u v=>u= .slc ((uN ls).map eG)∧v= .int .i64 (pH ls)):=by
 refine bB Tryz.func48 rfl (by kernel_rfl) (bH _) (Nat.le_of_ble_eq_true rfl) ?_;refine R0 ?_;refine aE fun K hK=>?_;refine R0 ?_;refine aG (b:=decide ((1000:Int)<ls.length)) rfl (fun hb=>?_) (fun hb=>?_)
 · refine R0 ?_;refine aJ ?_;simp only[aV,Tryz.results48,aR,aT,aQ,↓sP,sA,tyS,simprocAttr];have hE:=bE5 (ls:=ls) (by simp at hb;omega);refine bK [] (.slc []) (.int .i64 3) ?_ ⟨by rw[wM (by rw[hE];decide)];rfl,by rw[hE]⟩;simp[HV.close,HV.closeL,CV.denil,CV.denilL,HV.norm,HV.toC,HV.toCL]
 refine aK ?_;refine T0 (hK _ _ _ ?_);clear hK K;refine aE fun K hK=>?_;have hn:ls.length≤1000:=by simp at hb;omega
 clear hb;refine R0 ?_;refine aP ?_;refine bT (α:={i:Nat//i≤ls.length∧ ∀x∈ls.take i,okL x=true}) (fun i=>(fin [(0,.c (.slc (ls.map fun l=> .slc (l.map .str)))),(20,.c (.slc (ls.map fun l=> .slc (l.map .str)))),(21,.c (.int .i64 ls.length)),(22,.c (.int .i64 i.1))],fob [])) 100 (fun i=>ls.length-i.1) ⟨0,by omega,by simp⟩ (fF) ?_;rintro⟨i,hi,hk⟩;refine R0 ?_;refine aE fun K hK=>?_;refine aG (b:=decide ((i:Int)<ls.length)) rfl (fun hb=>?_) (fun hb=>?_)
 ·
  have hlt:i<ls.length:=by simpa using hb
  clear hb;have hl1:=h1 ls[i] (List.getElem_mem hlt);refine aK ?_;refine T0 (hK _ _ _ ?_);clear hK K;refine aE fun K hK=>?_;refine aP ?_;refine R0 ?_ (e:=fun _ h_=>by simp only[↓sP,sA,tyS,simprocAttr,Int.natCast_nonneg,Int.ofNat_lt,hlt,aZ hlt];exact AX h_);refine aE fun K hK=>Rg ?_;refine S0 ?_;refine aC (g:=none) rfl rfl fun K' hK'=>?_;simp only[sH,↓sP,sA,tyS,simprocAttr];refine bD (args:=[_]) (aM5 ls[i] hl1) ⟨rfl,rfl,rfl,rfl⟩ ?_;rintro u rfl;refine AX (hK' _ _ ?_);clear hK' K';refine S0 ?_;refine T2 (hK _ _ _ ?_);clear hK K;refine R0 ?_;refine aG (b:=sQ ls[i] !=0) rfl (fun hb=>?_) (fun hb=>?_)
  · refine R0 ?_;refine aJ ?_;simp only[aV,Tryz.results48,aR,aT,aQ,↓sP,sA,tyS,simprocAttr];have hE:=bO1 hn hlt hk (by simpa[okL]using hb);refine bK [] (.slc []) (.int .i64 (sQ ls[i])) ?_ ⟨by rw[wM (by rw[hE];simpa using hb)];rfl,by rw[hE]⟩;simp[HV.close,HV.closeL,CV.denil,CV.denilL,HV.norm,HV.toC,HV.toCL]
  refine aK ?_;refine T0 (hK _ _ _ ?_);clear hK K;refine aD (by kernel_rfl) ?_;simp only[↓sP,sA,tyS,simprocAttr,pN i];refine⟨⟨i+1,hlt,?_⟩,fF,?_⟩
  ·
   intro x hx;rw[List.take_succ_eq_append_getElem hlt,List.mem_append,List.mem_singleton]at hx;rcases hx with hx|rfl
   · exact hk x hx
   simpa[okL]using hb
  show ls.length-(i+1)<ls.length-i;omega
 have hei:i=ls.length:=by simp at hb;omega
 subst hei;clear hb;rw[List.take_length]at hk;have hne: ∀l∈ls,l≠[]:=fun l hl=>((kJ l).1 (hk l hl)).1;have hsd:=bY0 hk;have hdl:=wL hne;have hE:=bY1 hn hk;have hst: ∀j,sumD (ls.take j)≤sumD ls:=fun j=>aE0 ls j;have hdt: ∀j,(jC (ls.take j)).length≤sumD ls:=fun j=>by rw[wL fun l hl=>hne l (List.mem_of_mem_take hl)];exact hst j
 refine bL ?_;simp only[↓sP,sA,tyS,simprocAttr];clear hK K;refine AX (hK _ _ _ ?_);clear hK K;refine R0 ?_;refine aE fun K hK=>?_;refine R0 ?_;refine aP ?_;refine bT (α:={i:Nat//i≤ls.length}) (fun i=>(fin [(0,.c (.slc (ls.map fun l=> .slc (l.map .str)))),(7,.c (.int .i64 (sumD (ls.take i.1):Nat))),(32,.c (.slc (ls.map fun l=> .slc (l.map .str)))),(33,.c (.int .i64 ls.length)),(34,.c (.int .i64 i.1))],fob [])) 200 (fun i=>ls.length-i.1) ⟨0,by omega⟩ (fF) ?_;rintro⟨i,hi⟩;refine R0 ?_;refine aE fun K hK=>?_;refine aG (b:=decide ((i:Int)<ls.length)) rfl (fun hb=>?_) (fun hb=>?_)
 ·
  have hlt:i<ls.length:=by simpa using hb
  clear hb;have hst1:=bE4 hlt;have hst2:=hst (i+1);obtain⟨l,hl⟩: ∃l,l=ls[i]:=⟨_,rfl⟩;obtain⟨hl0,hl1,hl2⟩:=(kJ l).1 (hk l (by rw[hl];exact List.getElem_mem hlt));have hln:nth (ls.map fun l=>CV.slc (l.map .str)) i= .slc (l.map .str):=by rw[aZ hlt,hl]
  rw[←hl]at hst1;refine aK ?_;refine T0 (hK _ _ _ ?_);clear hK K;refine aE fun K hK=>?_;refine aP ?_;refine R0 ?_ (e:=fun _ h_=>by simp only[↓sP,sA,tyS,simprocAttr,Int.natCast_nonneg,Int.ofNat_lt,hlt,hln];exact AX h_);refine R0 ?_;refine aP ?_;refine bT (α:={i:Nat//i≤l.length}) (fun k=>(fin [(0,.c (.slc (ls.map fun l=> .slc (l.map .str)))),(7,.c (.int .i64 (sumD (ls.take i)+fZ (l.take k.1):Nat))),(32,.c (.slc (ls.map fun l=> .slc (l.map .str)))),(33,.c (.int .i64 ls.length)),(34,.c (.int .i64 i)),(38,.c (.slc (l.map .str))),(39,.c (.int .i64 l.length)),(40,.c (.int .i64 k.1))],fob [])) 300 (fun k=>l.length-k.1) ⟨0,by omega⟩ (fF) ?_;rintro⟨k,hk'⟩;refine R0 ?_;refine aE fun K hK=>?_;refine aG (b:=decide ((k:Int)<l.length)) rfl (fun hb=>?_) (fun hb=>?_)
  ·
   have hlk:k<l.length:=by simpa using hb
   clear hb;have hlt1:=bE3 hlk;have hlt2:=qS l (k+1);have hw2:=hl2 l[k] (List.getElem_mem hlk);refine aK ?_;refine T0 (hK _ _ _ ?_);clear hK K;refine aE fun K hK=>?_;refine aP ?_;refine R0 ?_ (e:=fun _ h_=>by simp only[↓sP,sA,tyS,simprocAttr,Int.natCast_nonneg,Int.ofNat_lt,hlk,aZ hlk];exact AX h_);refine aD (by kernel_rfl) ?_;simp only[sR,simprocAttr];iterate 2 refine S0 ?_ (e:=fun _ h_=>by simp only[sH,↓sP,sA,tyS,simprocAttr,IntWalk.i64_in _ (show-9223372036854775808≤((sizeW l[k]:Nat):Int)+1∧((sizeW l[k]:Nat):Int)+1≤9223372036854775807 by omega),IntWalk.i64_in _ (show-9223372036854775808≤((sumD (ls.take i)+fZ (l.take k):Nat):Int)+(((sizeW l[k]:Nat):Int)+1)∧((sumD (ls.take i)+fZ (l.take k):Nat):Int)+(((sizeW l[k]:Nat):Int)+1)≤9223372036854775807 by omega)];exact AX h_)
   refine aC (g:=none) rfl rfl fun K' hK'=>?_;simp only[sH,↓sP,sA,tyS,simprocAttr,IntWalk.i64_in _ (show-9223372036854775808≤((sizeW l[k]:Nat):Int)+1∧((sizeW l[k]:Nat):Int)+1≤9223372036854775807 by omega),IntWalk.i64_in _ (show-9223372036854775808≤((sumD (ls.take i)+fZ (l.take k):Nat):Int)+(((sizeW l[k]:Nat):Int)+1)∧((sumD (ls.take i)+fZ (l.take k):Nat):Int)+(((sizeW l[k]:Nat):Int)+1)≤9223372036854775807 by omega)];refine bD (args:=[_]) (aZ0 l[k] (by omega)) ⟨rfl,rfl,rfl,rfl⟩ ?_;rintro u rfl;refine AX (hK' _ _ ?_);clear hK' K';iterate 3 refine S0 ?_ (e:=fun _ h_=>by simp only[sH,↓sP,sA,tyS,simprocAttr,IntWalk.i64_in _ (show-9223372036854775808≤((sizeW l[k]:Nat):Int)+1∧((sizeW l[k]:Nat):Int)+1≤9223372036854775807 by omega),IntWalk.i64_in _ (show-9223372036854775808≤((sumD (ls.take i)+fZ (l.take k):Nat):Int)+(((sizeW l[k]:Nat):Int)+1)∧((sumD (ls.take i)+fZ (l.take k):Nat):Int)+(((sizeW l[k]:Nat):Int)+1)≤9223372036854775807 by omega)];exact AX h_)
   refine T2 (hK _ _ _ ?_);clear hK K;refine aD (by kernel_rfl) ?_;simp only[↓sP,sA,tyS,simprocAttr,pN k];have he:((sumD (ls.take i)+fZ (l.take k):Nat):Int)+(((sizeW l[k]:Nat):Int)+1)=((sumD (ls.take i)+fZ (l.take (k+1)):Nat):Int):=by omega
   simp only[he];refine⟨⟨k+1,hlk⟩,fF,?_⟩;show l.length-(k+1)<l.length-k;omega
  have hek:k=l.length:=by simp at hb;omega
  subst hek;clear hb;refine bL ?_;simp only[↓sP,sA,tyS,simprocAttr];clear hK K;refine AX (hK _ _ _ ?_);clear hK K;refine aD (by kernel_rfl) ?_;simp only[↓sP,sA,tyS,simprocAttr,pN i];have he:((sumD (ls.take i)+fZ (l.take l.length):Nat):Int)=((sumD (ls.take (i+1)):Nat):Int):=by rw[List.take_length];omega
  simp only[he];refine⟨⟨i+1,hlt⟩,fF,?_⟩;show ls.length-(i+1)<ls.length-i;omega
 have hei:i=ls.length:=by simp at hb;omega
 subst hei;clear hb;refine bL ?_;simp only[↓sP,sA,tyS,simprocAttr];clear hK K;refine AX (hK _ _ _ ?_);clear hK K;refine aE fun K hK=>?_;refine R0 ?_ (e:=fun _ h_=>by simp only[↓sP,sA,tyS,simprocAttr,List.take_length];exact AX h_);refine aG (b:=decide ((262144:Int)<(sumD ls:Nat))) rfl (fun hb=>?_) (fun hb=>?_)
 · refine R0 ?_;refine aJ ?_;simp only[aV,Tryz.results48,aR,aT,aQ,↓sP,sA,tyS,simprocAttr];rw[if_pos (by rw[hdl];simp at hb;omega)]at hE;refine bK [] (.slc []) (.int .i64 3) ?_ ⟨by rw[wM (by rw[hE];decide)];rfl,by rw[hE]⟩;simp[HV.close,HV.closeL,CV.denil,CV.denilL,HV.norm,HV.toC,HV.toCL]
 refine aK ?_;refine T0 (hK _ _ _ ?_);clear hK K;have hle:sumD ls≤262144:=by simp at hb;omega
 have hz:((sumD ls:Nat):Int)≤140737488355328:=by omega
 clear hb;rw[if_neg (by rw[hdl];omega)]at hE;have hO:=aX7 hE;refine R0 ?_ (e:=fun _ h_=>by simp only[↓sP,sA,tyS,simprocAttr,Int.natCast_nonneg,hz,Int.mul_one,List.take_length];exact AX h_);refine aE fun K hK=>?_;refine R0 ?_;refine aP ?_;refine bT (α:={i:Nat//i≤ls.length}) (fun i=>(fin [(12,.own 216 (jC (ls.take i.1)).length),(55,.c (.slc (ls.map fun l=> .slc (l.map .str)))),(56,.c (.int .i64 ls.length)),(57,.c (.int .i64 i.1))],fob [(216,.row 5 1 ((jC (ls.take i.1)).map eG))])) 400 (fun i=>ls.length-i.1) ⟨0,by omega⟩ (fF) ?_;rintro⟨i,hi⟩;refine R0 ?_;refine aE fun K hK=>?_;refine aG (b:=decide ((i:Int)<ls.length)) rfl (fun hb=>?_) (fun hb=>?_)
 ·
  have hlt:i<ls.length:=by simpa using hb
  clear hb;have hdt1:=bE2 hlt;have hdt0:=hdt i;obtain⟨l,hl⟩: ∃l,l=ls[i]:=⟨_,rfl⟩;have hok:=hk l (by rw[hl];exact List.getElem_mem hlt);have hsl:=aX6 hok;obtain⟨hl0,hl1,hl2⟩:=(kJ l).1 hok;have hln:nth (ls.map fun l=>CV.slc (l.map .str)) i= .slc (l.map .str):=by rw[aZ hlt,hl]
  rw[←hl]at hdt1;refine aK ?_;refine T0 (hK _ _ _ ?_);clear hK K;refine aE fun K hK=>?_;refine aP ?_;refine R0 ?_ (e:=fun _ h_=>by simp only[↓sP,sA,tyS,simprocAttr,Int.natCast_nonneg,Int.ofNat_lt,hlt,hln];exact AX h_);refine aE fun K hK=>?_;refine R0 ?_;refine aP ?_;refine bT (α:={i:Nat//i≤l.length}) (fun k=>(fin [(12,.own 216 (jC (ls.take i)++jB (l.take k.1)).length),(55,.c (.slc (ls.map fun l=> .slc (l.map .str)))),(56,.c (.int .i64 ls.length)),(57,.c (.int .i64 i)),(61,.c (.slc (l.map .str))),(62,.c (.int .i64 l.length)),(63,.c (.int .i64 k.1))],fob [(216,.row 5 1 ((jC (ls.take i)++jB (l.take k.1)).map eG))])) 500 (fun k=>l.length-k.1) ⟨0,by omega⟩ (fF) ?_;rintro⟨k,hk'⟩;have hsw:=bX9 (l.take k);have hst2:=qS l k;refine R0 ?_;refine aE fun K hK=>?_;refine aG (b:=decide ((k:Int)<l.length)) rfl (fun hb=>?_) (fun hb=>?_)
  ·
   have hlk:k<l.length:=by simpa using hb
   clear hb;have hw2:=hl2 l[k] (List.getElem_mem hlk);have hel:=wK l[k];have hsz:=eJ l[k];have hsp:=bD9 l[k];have hpe:0<(lY l[k]).length:=by omega
   have htk:=bE1 hlk;have hbe:(jC (ls.take i)).length+(jB (l.take k)).length+(lY l[k]).length≤140737488355328:=by omega
   have hbe1:(jC (ls.take i)).length+(jB (l.take k)).length+1+(lY l[k]).length≤140737488355328:=by omega
   refine aK ?_;refine T0 (hK _ _ _ ?_);clear hK K;refine aE fun K hK=>?_;refine aP ?_;refine aE fun K hK=>Rg ?_;iterate 5 refine S0 ?_ (e:=fun _ h_=>by simp only[sH,↓sP,sA,tyS,simprocAttr,Int.natCast_nonneg,Int.ofNat_lt,hlk,aZ hlk];exact AX h_)
   refine T2 (hK _ _ _ ?_);clear hK K;refine aE fun K hK=>?_;refine R0 ?_;refine aG (b:=decide ((0:Int)<k)) rfl (fun hb=>?_) (fun hb=>?_)
   ·
    refine aD (by kernel_rfl) ?_;simp only[sR,simprocAttr];iterate 4 refine S0 ?_ (e:=fun _ h_=>by simp only[sH,↓sP,sA,tyS,simprocAttr,List.length_append,List.length_map];exact AX h_)
    refine T2 (hK _ _ _ ?_);clear hK K;refine aD (by kernel_rfl) ?_;simp only[sR,simprocAttr];iterate 2 refine S0 ?_ (e:=fun _ h_=>by simp only[sH,↓sP,sA,tyS,simprocAttr,List.length_append,List.length_map,hpe,hbe,hbe1];exact AX h_)
    refine aC (g:=none) rfl rfl fun K' hK'=>?_;simp only[sH,↓sP,sA,tyS,simprocAttr,List.length_append,List.length_map,hpe,hbe,hbe1];refine bD (args:=[_]) (aZ1 l[k] (by omega)) ⟨rfl,rfl,rfl,rfl⟩ ?_;rintro u rfl;refine AX (hK' _ _ ?_);clear hK' K';iterate 2 refine S0 ?_ (e:=fun _ h_=>by simp only[sH,↓sP,sA,tyS,simprocAttr,List.length_append,List.length_map,hpe,hbe,hbe1];exact AX h_)
    refine T2 (hK _ _ _ ?_);clear hK K;refine aD (by kernel_rfl) ?_;simp only[↓sP,sA,tyS,simprocAttr,pN k];have hk0:k≠0:=by simp at hb;omega
    refine⟨⟨k+1,hlk⟩,aI (by omega) ?_ ?_,?_⟩
    · rw[htk,if_neg hk0];simp[aY,upd_at,fin_at,HV.men];omega
    · rw[htk,if_neg hk0];simp only[List.map_append,←List.append_assoc];exact⟨rfl,by omega,trivial,trivial⟩
    show l.length-(k+1)<l.length-k;omega
   refine aK ?_;refine T0 (hK _ _ _ ?_);clear hK K;refine aD (by kernel_rfl) ?_;simp only[sR,simprocAttr];iterate 2 refine S0 ?_ (e:=fun _ h_=>by simp only[sH,↓sP,sA,tyS,simprocAttr,List.length_append,List.length_map,hpe,hbe,hbe1];exact AX h_)
   refine aC (g:=none) rfl rfl fun K' hK'=>?_;simp only[sH,↓sP,sA,tyS,simprocAttr,List.length_append,List.length_map,hpe,hbe,hbe1];refine bD (args:=[_]) (aZ1 l[k] (by omega)) ⟨rfl,rfl,rfl,rfl⟩ ?_;rintro u rfl;refine AX (hK' _ _ ?_);clear hK' K';iterate 2 refine S0 ?_ (e:=fun _ h_=>by simp only[sH,↓sP,sA,tyS,simprocAttr,List.length_append,List.length_map,hpe,hbe,hbe1];exact AX h_)
   refine T2 (hK _ _ _ ?_);clear hK K;refine aD (by kernel_rfl) ?_;simp only[↓sP,sA,tyS,simprocAttr,pN k];have hk0:k=0:=by simp at hb;omega
   refine⟨⟨k+1,hlk⟩,aI (by omega) ?_ ?_,?_⟩
   · rw[htk,if_pos hk0];simp[aY,upd_at,fin_at,HV.men];omega
   · rw[htk,if_pos hk0,List.nil_append];simp only[List.map_append,←List.append_assoc];exact⟨rfl,by omega,trivial,trivial⟩
   show l.length-(k+1)<l.length-k;omega
  have hek:k=l.length:=by simp at hb;omega
  subst hek;clear hb;rw[List.take_length]at*;refine bL ?_;simp only[↓sP,sA,tyS,simprocAttr];clear hK K;refine AX (hK _ _ _ ?_);clear hK K;refine aD (by kernel_rfl) ?_;simp only[sR,simprocAttr];iterate 4 refine S0 ?_ (e:=fun _ h_=>by simp only[sH,↓sP,sA,tyS,simprocAttr,List.length_append,List.length_map];exact AX h_)
  refine T2 (hK _ _ _ ?_);clear hK K;refine aD (by kernel_rfl) ?_;simp only[↓sP,sA,tyS,simprocAttr,pN i];refine⟨⟨i+1,hlt⟩,aI (by omega) ?_ ?_,?_⟩
  · rw[hdt1,aK5];simp[aY,upd_at,fin_at,HV.men];omega
  · rw[hdt1,aK5];simp only[List.map_append,←List.append_assoc];exact⟨rfl,by omega,trivial,trivial⟩
  show ls.length-(i+1)<ls.length-i;omega
 refine bL ?_;simp only[↓sP,sA,tyS,simprocAttr];clear hK K;refine AX (hK _ _ _ ?_);clear hK K;refine R0 ?_;refine aJ ?_;simp only[aV,Tryz.results48,aR,aT,aQ,↓sP,sA,tyS,simprocAttr];have hei:i=ls.length:=by simp at hb;omega
 subst hei;refine bK [216] (.slc ((jC ls).map eG)) (.int .i64 0) ?_ ⟨by rw[hO],by rw[hE]⟩;rw[List.take_length];simp[HV.close,fob_at,upd_at,HV.norm,HV.toC,HV.closeL,HV.toCL,List.take_of_length_le,CV.denil,cL]
set_option maxHeartbeats 4000000
def wlK :List (Int×List UInt8):=[(1,rA),(2,aT6),(3,bG7),(4,bR2),(5,bR3)]
theorem bZ6 (k:Int):(lkG wlK k).getD []=wordK k∧(lkG wlK k).isSome=inB k 1 5:=by
 by_cases h:1≤k∧k≤5
 ·
  obtain rfl|rfl|rfl|rfl|rfl:k=1∨k=2∨k=3∨k=4∨k=5:=by omega
  all_goals decide
 have h1: ∀z:Int,1≤z→z≤5→(z==k)=false:=fun z z1 z2=>beq_eq_false_iff_ne.2 (by omega);have e:lkG wlK k=none:=by
  simp only[lkG,wlK,List.find?_cons,List.find?_nil,h1 1 (by omega) (by omega),h1 2 (by omega) (by omega),h1 3 (by omega) (by omega),h1 4 (by omega) (by omega),h1 5 (by omega) (by omega),Option.map_none]
 rw[e];refine⟨?_,?_⟩
 · unfold wordK;rw[if_neg (by omega),if_neg (by omega),if_neg (by omega),if_neg (by omega),if_neg (by omega)];rfl
 have:inB k 1 5=false:=by
  unfold inB;simp;omega
 rw[this];rfl
theorem bS5 :lst []=fob []:=by funext i;simp[lst,fob,cW]
theorem bZ7 :bK9 Tryz.prog 130:=⟨3,9,Tryz.underlying130,Tryz.underlying3,fun w=>by rw[Tryz.zeroValue9]⟩
theorem bS6 (n:Nat)(ob:Ob)(x:Array MapEntry)(c:Nat):jA (sub [] n) ob 0 [.raw x c]=upd ob n (some (.raw x c)):=rfl
theorem aZ2 (n:Nat):HV.ren (sub [] n) (.mapr 0)= .mapr n:=rfl
theorem aM6 :HGe Tryz.prog 82 [] [] (fun r os'=>r= .mapr 0∧os'=[.raw (gJ wlK) 5]):=by
 refine bB (args:=[]) Tryz.func82 rfl (by kernel_rfl) (eW rfl (by simp[dU]) (by simp[HV.menL])) (Nat.le_of_ble_eq_true rfl) ?_;show Hw _ _ 0 _ _ _ (lst _) 0;rw[bS5];refine aE fun K hK=>aD (by kernel_rfl) ?_;simp (maxSteps:=4000000) only[↓sP,sA,tyS,simprocAttr];repeat refine AI ?_
 refine hK _ _ _ ?_;clear hK K;refine aE fun K hK=>aX5 ?_;refine aS6 (by kernel_rfl) rfl rfl rfl rfl ?_;refine lF (l:=[]) (z:=1) (s:=rA) (by kernel_rfl) rfl rfl rfl rfl Tryz.underlying130 Tryz.underlying3 rfl rfl rfl rfl rfl ?_;refine lF (l:=[(1,rA)]) (z:=2) (s:=aT6) (by kernel_rfl) rfl rfl rfl rfl Tryz.underlying130 Tryz.underlying3 rfl rfl rfl rfl rfl ?_;refine lF (l:=[(1,rA),(2,aT6)]) (z:=3) (s:=bG7) (by kernel_rfl) rfl rfl rfl rfl Tryz.underlying130 Tryz.underlying3 rfl rfl rfl rfl rfl ?_;refine lF (l:=[(1,rA),(2,aT6),(3,bG7)]) (z:=4) (s:=bR2) (by kernel_rfl) rfl rfl rfl rfl Tryz.underlying130 Tryz.underlying3 rfl rfl rfl rfl rfl ?_;refine lF (l:=[(1,rA),(2,aT6),(3,bG7),(4,bR2)]) (z:=5) (s:=bR3) (by kernel_rfl) rfl rfl rfl rfl Tryz.underlying130 Tryz.underlying3 rfl rfl rfl rfl rfl ?_;iterate 2
  (refine aK3 (g:=none) (by kernel_rfl) rfl rfl fun K' hK'=>?_;simp only[sH,↓sP,sA,tyS,simprocAttr];(repeat refine AI ?_);refine hK' _ _ ?_;clear hK' K')
 refine wG rfl (hK _ _ _ ?_);clear hK K;refine aJ ?_;simp (maxSteps:=4000000) only[aV,Tryz.results82,aR,aT,aQ,↓sP,sA,tyS,simprocAttr];exact gX [] [4] (.mapr 0) [.raw (gJ wlK) 5] rfl (by simp[HV.men]) ⟨⟨by simp[HO.men],by simp,_,rfl,rfl⟩,trivial⟩ rfl (by simp) (by simp) (by simp) ⟨rfl,rfl⟩
theorem aE7 (n:Int)(hn: -9223372036854775808≤n∧n≤9223372036854775807):qR Tryz.prog 44 tabs [.int .i64 n] (fun u v=>u= .str (fU n)∧v= .bool (iM n)):=by
 refine bB (args:=[.c (.int .i64 n)]) Tryz.func44 rfl (by kernel_rfl) (fS tabs [.int .i64 n]) (Nat.le_of_ble_eq_true rfl) ?_;unfold fN;refine aE fun K hK=>aD (by kernel_rfl) ?_;simp (maxSteps:=4000000) only[↓sP,sA,tyS,simprocAttr];repeat refine AI ?_
 refine hK _ _ _ ?_;clear hK K;refine aE fun K hK=>aD (by kernel_rfl) ?_;simp only[sR,simprocAttr];refine aC (g:=none) rfl rfl fun K' hK'=>?_;simp (maxSteps:=4000000) only[sH,↓sP,sA,tyS,simprocAttr];repeat refine AI ?_
 refine hK' _ _ ?_;clear hK' K';refine aC (g:=none) rfl rfl fun K' hK'=>?_;simp (maxSteps:=4000000) only[sH,↓sP,sA,tyS,simprocAttr];refine jQ (args:=[_]) 0 (bR7 n hn) rfl (by simp) ⟨rfl,rfl,rfl,rfl⟩ ?_;rintro u rfl;repeat refine AI ?_
 refine hK' _ _ ?_;clear hK' K';iterate 3
  (refine aC (g:=none) rfl rfl fun K' hK'=>?_;simp only[sH,↓sP,sA,tyS,simprocAttr];(repeat refine AI ?_);refine hK' _ _ ?_;clear hK' K')
 refine aL 7 rfl (fun h1_7=>?_) (fun h1_7=>?_)
 ·
  iterate 2
   (refine aC (g:=some (8,true)) rfl rfl fun K' hK'=>?_;simp only[sH,↓sP,sA,tyS,simprocAttr,h1_7];(repeat refine AI ?_);refine hK' _ _ ?_;clear hK' K')
  iterate 3
   (refine aC (g:=none) rfl rfl fun K' hK'=>?_;simp only[sH,↓sP,sA,tyS,simprocAttr,h1_7];(repeat refine AI ?_);refine hK' _ _ ?_;clear hK' K')
  simp only[sE,↓reduceIte,simprocAttr];repeat refine AI ?_
  refine hK _ _ _ ?_;clear hK K;refine aJ ?_;simp (maxSteps:=4000000) only[aV,Tryz.results44,aR,aT,aQ,↓sP,sA,tyS,simprocAttr];refine eP [] (.str (fU n)) (.bool _) rfl rfl (by simp) ⟨rfl,?_⟩;simp only[iM,inB,h1_7,Bool.true_and,Bool.false_and];all_goals first|rfl|(rw[show decide (0≤n)=true from by assumption];rfl)|(rw[show decide (0≤n)=false from by assumption];rfl)
 iterate 2
  (refine aC (g:=some (8,true)) rfl rfl fun K' hK'=>?_;simp only[sH,↓sP,sA,tyS,simprocAttr,h1_7];(repeat refine AI ?_);refine hK' _ _ ?_;clear hK' K')
 iterate 3
  (refine aC (g:=none) rfl rfl fun K' hK'=>?_;simp only[sH,↓sP,sA,tyS,simprocAttr,h1_7];(repeat refine AI ?_);refine hK' _ _ ?_;clear hK' K')
 simp only[sE,↓reduceIte,simprocAttr];repeat refine AI ?_
 refine hK _ _ _ ?_;clear hK K;refine aJ ?_;simp (maxSteps:=4000000) only[aV,Tryz.results44,aR,aT,aQ,↓sP,sA,tyS,simprocAttr];refine eP [] (.str (fU n)) (.bool _) rfl rfl (by simp) ⟨rfl,?_⟩;simp only[iM,inB,h1_7,Bool.true_and,Bool.false_and];all_goals first|rfl|(rw[show decide (0≤n)=true from by assumption];rfl)|(rw[show decide (0≤n)=false from by assumption];rfl)
theorem aE8 (v:CV):nth [v] 0=v:=rfl
theorem gZ (c:UInt8):(u8 c).denil=u8 c:=rfl
theorem denilL_u8 : ∀bs:List UInt8,CV.denilL (bs.map u8)=bs.map u8
 |[]=>rfl
 |b::bs=>by simp only[List.map_cons,CV.denilL,denilL_u8 bs];rfl
theorem bZ8 (l:List UInt8)(c:UInt8):dF Tryz.prog 166 [.slc (l.map u8),u8 c] (fun v=>v= .int .i64 (fT l c)):=
 cG8 (f:=166) (fn:=Tryz.f166) Tryz.func166 (by kernel_rfl) (by kernel_rfl) (by kernel_rfl) (by kernel_rfl) l c
theorem bS7 (l:List UInt8)(c:UInt8):dF Tryz.prog 169 [.str l,u8 c] (fun v=>v= .int .i64 (fT l c)):=
 bY4 (f:=169) (fn:=Tryz.f169) Tryz.func169 (by kernel_rfl) (by kernel_rfl) (by kernel_rfl) (by kernel_rfl) l c
theorem cH9 (l:List UInt8)(c:UInt8):dF Tryz.prog 144 [.slc (l.map u8),u8 c] (fun v=>v= .int .i64 (fT l c)):=by
 refine bB Tryz.func144 rfl (by kernel_rfl) (bH _) (Nat.le_of_ble_eq_true rfl) ?_;refine R0 ?_ (e:=fun _ h_=>by simp only[↓sP,sA,tyS,simprocAttr,rI];exact AX h_);refine aE fun K hK=>Rg ?_;iterate 2 refine S0 ?_ (e:=fun _ h_=>by simp only[sH,↓sP,sA,tyS,simprocAttr,rI,denilL_u8,gZ];exact AX h_)
 refine aC (g:=none) rfl rfl fun K' hK'=>?_;simp only[sH,↓sP,sA,tyS,simprocAttr,rI,denilL_u8,gZ];refine bD (args:=[_,_]) (bZ8 l c) ⟨rfl,rfl,rfl,rfl⟩ ?_;rintro u rfl;refine AX (hK' _ _ ?_);clear hK' K';refine S0 ?_ (e:=fun _ h_=>by simp only[sH,↓sP,sA,tyS,simprocAttr,rI,denilL_u8,gZ];exact AX h_);simp only[sE,↓reduceIte,simprocAttr,rI];refine AX (hK _ _ _ ?_);clear hK K;refine aJ ?_;simp only[aV,Tryz.results144,aR,aT,aQ,↓sP,sA,tyS,simprocAttr,rI];exact aW [] (.int .i64 (fT l c)) rfl rfl
theorem cI0 (l:List UInt8)(c:UInt8):dF Tryz.prog 150 [.str l,u8 c] (fun v=>v= .int .i64 (fT l c)):=by
 refine bB Tryz.func150 rfl (by kernel_rfl) (bH _) (Nat.le_of_ble_eq_true rfl) ?_;refine R0 ?_ (e:=fun _ h_=>by simp only[↓sP,sA,tyS,simprocAttr,rI];exact AX h_);refine aE fun K hK=>Rg ?_;iterate 2 refine S0 ?_ (e:=fun _ h_=>by simp only[sH,↓sP,sA,tyS,simprocAttr,rI,denilL_u8,gZ];exact AX h_)
 refine aC (g:=none) rfl rfl fun K' hK'=>?_;simp only[sH,↓sP,sA,tyS,simprocAttr,rI,denilL_u8,gZ];refine bD (args:=[_,_]) (bS7 l c) ⟨rfl,rfl,rfl,rfl⟩ ?_;rintro u rfl;refine AX (hK' _ _ ?_);clear hK' K';refine S0 ?_ (e:=fun _ h_=>by simp only[sH,↓sP,sA,tyS,simprocAttr,rI,denilL_u8,gZ];exact AX h_);simp only[sE,↓reduceIte,simprocAttr,rI];refine AX (hK _ _ _ ?_);clear hK K;refine aJ ?_;simp only[aV,Tryz.results150,aR,aT,aQ,↓sP,sA,tyS,simprocAttr,rI];exact aW [] (.int .i64 (fT l c)) rfl rfl
theorem rF (l:List UInt8)(c:UInt8):dF Tryz.prog 124 [.str l,u8 c] (fun v=>v= .int .i64 (fT l c)):=by
 refine bB Tryz.func124 rfl (by kernel_rfl) (bH _) (Nat.le_of_ble_eq_true rfl) ?_;refine R0 ?_ (e:=fun _ h_=>by simp only[↓sP,sA,tyS,simprocAttr,rI];exact AX h_);refine aE fun K hK=>Rg ?_;iterate 2 refine S0 ?_ (e:=fun _ h_=>by simp only[sH,↓sP,sA,tyS,simprocAttr,rI,denilL_u8,gZ];exact AX h_)
 refine aC (g:=none) rfl rfl fun K' hK'=>?_;simp only[sH,↓sP,sA,tyS,simprocAttr,rI,denilL_u8,gZ];refine bD (args:=[_,_]) (cI0 l c) ⟨rfl,rfl,rfl,rfl⟩ ?_;rintro u rfl;refine AX (hK' _ _ ?_);clear hK' K';refine S0 ?_ (e:=fun _ h_=>by simp only[sH,↓sP,sA,tyS,simprocAttr,rI,denilL_u8,gZ];exact AX h_);simp only[sE,↓reduceIte,simprocAttr,rI];refine AX (hK _ _ _ ?_);clear hK K;refine aJ ?_;simp only[aV,Tryz.results124,aR,aT,aQ,↓sP,sA,tyS,simprocAttr,rI];exact aW [] (.int .i64 (fT l c)) rfl rfl
theorem aA0 (l:List UInt8)(c:UInt8):dF Tryz.prog 122 [.slc (l.map u8),.slc [u8 c]] (fun v=>v= .int .i64 (fT l c)):=by
 refine bB Tryz.func122 rfl (by kernel_rfl) (bH _) (Nat.le_of_ble_eq_true rfl) ?_;refine R0 ?_ (e:=fun _ h_=>by simp only[↓sP,sA,tyS,simprocAttr,rI];exact AX h_);refine R0 ?_ (e:=fun _ h_=>by simp only[↓sP,sA,tyS,simprocAttr,rI];exact AX h_);refine aE fun K hK=>?_;refine aP ?_;refine R0 ?_ (e:=fun _ h_=>by simp only[↓sP,sA,tyS,simprocAttr,rI];exact AX h_);refine aG (b:=(1:Int)==0) rfl (fun hb=>?_) (fun hb=>?_)
 · exact absurd hb (by decide)
 refine R0 ?_ (e:=fun _ h_=>by simp only[↓sP,sA,tyS,simprocAttr,rI];exact AX h_);refine aG (b:=(1:Int)==1) rfl (fun hb=>?_) (fun hb=>?_)
 ·
  refine aE fun K hK=>Rg ?_;iterate 4 refine S0 ?_ (e:=fun _ h_=>by simp only[sH,↓sP,sA,tyS,simprocAttr,rI,u8,aE8,denilL_u8];exact AX h_)
  refine aC (g:=none) rfl rfl fun K' hK'=>?_;simp only[sH,↓sP,sA,tyS,simprocAttr,rI,u8,aE8,denilL_u8];refine bD (args:=[_,_]) (cH9 l c) ⟨rfl,rfl,rfl,rfl⟩ ?_;rintro u rfl;refine AX (hK' _ _ ?_);clear hK' K';refine S0 ?_ (e:=fun _ h_=>by simp only[sH,↓sP,sA,tyS,simprocAttr,rI,u8,aE8,denilL_u8];exact AX h_);simp only[sE,↓reduceIte,simprocAttr,rI];refine AX (hK _ _ _ ?_);clear hK K;refine aJ ?_;simp only[aV,Tryz.results122,aR,aT,aQ,↓sP,sA,tyS,simprocAttr,rI];exact aW [] (.int .i64 (fT l c)) rfl rfl
 exact absurd hb (by decide)
theorem bZ9 (l:List UInt8)(c:UInt8)(hl:l.length<2^40):bN2 Tryz.prog 92 [.slc (l.map u8),.slc [u8 c]] (fun x y f=> ∃(li re:List UInt8) (fd:Bool),x= .slc (li.map u8)∧y= .slc (re.map u8)∧f= .bool fd∧CutR l c li re fd):=by
 refine bB Tryz.func92 rfl (by kernel_rfl) (bH _) (Nat.le_of_ble_eq_true rfl) ?_;refine R0 ?_ (e:=fun _ h_=>by simp only[↓sP,sA,tyS,simprocAttr,rI];exact AX h_);refine aE fun K hK=>?_;refine aE fun K hK=>Rg ?_;iterate 2 refine S0 ?_ (e:=fun _ h_=>by simp only[sH,↓sP,sA,tyS,simprocAttr,rI,denilL_u8];exact AX h_)
 refine aC (g:=none) rfl rfl fun K' hK'=>?_;simp only[sH,↓sP,sA,tyS,simprocAttr,rI,denilL_u8];refine bD (args:=[_,_]) (aA0 l c) ⟨rfl,rfl,rfl,rfl⟩ ?_;rintro u rfl;refine AX (hK' _ _ ?_);clear hK' K';refine S0 ?_ (e:=fun _ h_=>by simp only[sH,↓sP,sA,tyS,simprocAttr,rI,denilL_u8];exact AX h_);simp only[sE,↓reduceIte,simprocAttr,rI];refine AX (hK _ _ _ ?_);clear hK K;refine R0 ?_ (e:=fun _ h_=>by simp only[↓sP,sA,tyS,simprocAttr,rI];exact AX h_);refine aG (b:=decide ((0:Int)≤fT l c)) rfl (fun hb=>?_) (fun hb=>?_)
 ·
  have hn: ¬fT l c<0:=by simp at hb;omega
  obtain⟨i,hi,hil,hsp⟩:=iQ hn;have hi':=hi;rw[hi];refine aE fun K hK=>eH mixed (by kernel_rfl) (by kernel_rfl) (by kernel_rfl) ?_;simp only[sR,simprocAttr];iterate 12 refine S0 ?_ (e:=fun _ h_=>by simp only[sH,↓sP,sA,tyS,simprocAttr,rI,Int.natCast_nonneg,Int.ofNat_le,Int.sub_zero,Nat.sub_zero,List.drop_zero,iP,denilL_u8,List.length_map,show IntKind.i64.wrap ((i:Int)+1)=((i+1:Nat):Int)from by rw[IntWalk.i64_in _ (by omega)];rfl];exact AX h_)
  simp only[sE,↓reduceIte,simprocAttr,rI];refine AX (hK _ _ _ ?_);clear hK K;refine aJ ?_;simp only[aV,Tryz.results92,aR,aT,aQ,↓sP,sA,tyS,simprocAttr,rI];refine vZ [] (.slc ((l.take i).map u8)) (.slc ((l.drop (i+1)).map u8)) (.bool true) ?_ ⟨_,_,_,rfl,rfl,rfl,.inr ⟨rfl,i,hi,hil,rfl,rfl⟩⟩;simp[HV.close,HV.closeL,HV.norm,HV.toC,HV.toCL,CV.denil,denilL_u8];exact⟨by rw[←List.map_take,denilL_u8],by rw[←List.map_drop,←List.map_take,denilL_u8,List.take_of_length_le (by simp)]⟩
 have hn:fT l c<0:=by simp at hb;omega
 refine aK ?_;simp only[↓sP,sA,tyS,simprocAttr,rI];refine AX (hK _ _ _ ?_);clear hK K;refine aE fun K hK=>Rg ?_;iterate 4 refine S0 ?_ (e:=fun _ h_=>by simp only[sH,↓sP,sA,tyS,simprocAttr,rI];exact AX h_)
 simp only[sE,↓reduceIte,simprocAttr,rI];refine AX (hK _ _ _ ?_);clear hK K;refine aJ ?_;simp only[aV,Tryz.results92,aR,aT,aQ,↓sP,sA,tyS,simprocAttr,rI];refine vZ [] (.slc (l.map u8)) (.slc []) (.bool false) ?_ ⟨l,[],false,rfl,rfl,rfl,.inl ⟨rfl,hn,rfl,rfl⟩⟩;simp[HV.close,HV.closeL,HV.norm,HV.toC,HV.toCL,CV.denil,denilL_u8]
theorem cA0 (l:List UInt8)(c:UInt8):aY8 Tryz.prog 123 148 [.slc (l.map u8),.slc [u8 c],.int .i64 0] [(52,.slc [u8 c]),(52,.slc (l.map u8)),(3,.int .i64 0)]:=by
 refine bB Tryz.func123 rfl (by kernel_rfl) (bH _) (Nat.le_of_ble_eq_true rfl) ?_;refine aE fun K hK=>Rg ?_;iterate 4 refine S0 ?_ (e:=fun _ h_=>by simp only[sH,↓sP,sA,tyS,simprocAttr,rI];exact AX h_)
 simp only[sE,↓reduceIte,simprocAttr,rI];refine AX (hK _ _ _ ?_);clear hK K;refine R0 ?_ (e:=fun _ h_=>by simp only[↓sP,sA,tyS,simprocAttr,rI];exact AX h_);refine aJ ?_;simp only[aV,Tryz.results123,aR,aT,aQ,↓sP,sA,tyS,simprocAttr,rI];refine tB (gf:=148) (bs:=[(52,.slc [u8 c]),(52,.slc (l.map u8)),(3,.int .i64 0)]) (ids:=[4,0,8]) rfl (by simp) (by decide) ?_ ?_
 ·
  intro j x hx
  match j,hx with
  |0,hx=>cases hx;rfl
  |1,hx=>cases hx;rfl
  |2,hx=>cases hx;rfl
 intro x hx;simp only[List.mem_cons,List.not_mem_nil,or_false]at hx;rcases hx with rfl|rfl|rfl
 · rfl
 · exact congrArg CV.slc (denilL_u8 l)
 rfl
theorem bH2 (l:List UInt8)(c:UInt8):aY8 Tryz.prog 93 148 [.slc (l.map u8),.slc [u8 c]] [(52,.slc [u8 c]),(52,.slc (l.map u8)),(3,.int .i64 0)]:=by
 refine bB Tryz.func93 rfl (by kernel_rfl) (bH _) (Nat.le_of_ble_eq_true rfl) ?_;refine R0 ?_ (e:=fun _ h_=>by simp only[↓sP,sA,tyS,simprocAttr,rI];exact AX h_);refine aE fun K hK=>Rg ?_;iterate 2 refine S0 ?_ (e:=fun _ h_=>by simp only[sH,↓sP,sA,tyS,simprocAttr,rI,denilL_u8,mJ,gY,List.range',List.map_cons,List.map_nil];exact AX h_)
 refine aC (g:=none) rfl rfl fun K' hK'=>?_;simp only[sH,↓sP,sA,tyS,simprocAttr,rI,denilL_u8,mJ,gY,List.range',List.map_cons,List.map_nil];refine tA (args:=[_,_,_]) (cA0 l c) (by simp) ⟨rfl,rfl,rfl,rfl⟩ ?_;refine AX (hK' _ _ ?_);clear hK' K';refine S0 ?_ (e:=fun _ h_=>by simp only[sH,↓sP,sA,tyS,simprocAttr,rI,denilL_u8,mJ,gY,List.range',List.map_cons,List.map_nil];exact AX h_);simp only[sE,↓reduceIte,simprocAttr,rI];refine AX (hK _ _ _ ?_);clear hK K;refine aJ ?_;simp only[aV,Tryz.results93,aR,aT,aQ,↓sP,sA,tyS,simprocAttr,rI];refine tB (gf:=148) (bs:=[(52,.slc [u8 c]),(52,.slc (l.map u8)),(3,.int .i64 0)]) (ids:=[12,13,14]) rfl (by simp) (by decide) ?_ ?_
 ·
  intro j x hx
  match j,hx with
  |0,hx=>cases hx;rfl
  |1,hx=>cases hx;rfl
  |2,hx=>cases hx;rfl
 intro x hx;simp only[List.mem_cons,List.not_mem_nil,or_false]at hx;rcases hx with rfl|rfl|rfl
 · rfl
 · exact congrArg CV.slc (denilL_u8 l)
 rfl
end Go.Proofs.YthedbjfipmkpiaaGreatDoor
