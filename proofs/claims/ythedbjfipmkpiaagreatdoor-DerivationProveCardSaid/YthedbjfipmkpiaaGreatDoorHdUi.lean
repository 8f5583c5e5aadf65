/- Part of a proof: walks of functions of the program, by contracts, and the rules they use. By an AI agent. -/
import Derived.Test.YthedbjfipmkpiaaGreatDoorPl11c
import Derived.Test.YthedbjfipmkpiaaGreatDoorHdTg
import Derived.Test.YthedbjfipmkpiaaGreatDoorHlTop
import Derived.Test.YthedbjfipmkpiaaGreatDoorHlIt
import Derived.Test.YthedbjfipmkpiaaGreatDoorPl31j
import Derived.Test.YthedbjfipmkpiaaGreatDoorHlMc
set_option linter.unusedSimpArgs false
set_option linter.unusedVariables false
set_option linter.defProp false
namespace Go.Proofs.YthedbjfipmkpiaaGreatDoor
open Go Go.Hl Go.Pl
set_option maxRecDepth 10000
set_option maxHeartbeats 16000000
theorem aQ7 (l:List Nd)(ht:IsTree l)(i:Nat)(hi:i<l.length)(ih: ∀j,i<j→j<l.length→cF Tryz.prog 107 [.slc (l.map Nd.cv),.int .i64 j] (fun v=>v= .int .i64 (aft l j:Nat))):
  cF Tryz.prog 107 [.slc (l.map Nd.cv),.int .i64 i] (fun v=>v= .int .i64 (aft l i:Nat)):=by
 have hl:=ht.len;obtain⟨c1,c2,_,_⟩:=eL (ht.node _ (List.getElem_mem hi));have hw2:IntKind.i64.wrap ((i:Int)+1)=((i+1:Nat):Int):=by rw[cD _ (by omega)];rfl
 have hc:l[i].c=((l[i].c.toNat:Nat):Int):=by omega
 refine FW Tryz.func107 ?_;refine R0 ?_;refine aC fun K hK=>Rg ?_;have F:=aI @Int.natCast_nonneg (aI @Int.ofNat_lt (aI hi (nM hi)));iterate 6 refine SF ?_
 refine T2 (hK _ _ _ ?_);clear hK K;have F:=hw2;refine RF ?_;refine aC fun K hK=>?_;refine aO ?_;refine bP (α:={y:Nat×Nat//AftSt l i y.1 y.2∧y.1≤60∧i<y.2}) (fun y=>(fin [(0,.c (.slc (l.map Nd.cv))),(1,.c (.int .i64 y.1.2)),(5,.c (.int .i64 y.1.1))],fob [])) 100 (fun y=>y.1.1) ⟨(0+l[i].c.toNat,i+1),AftSt.next (m:=0) ⟨Nat.le_of_lt hi,rfl⟩ hi,by simp only;omega,by simp only;omega⟩ (aM (by omega) (by simp[aW,fin_at,finA_at,upd_at,HV.men,HV.menL,HV.norm,HV.toC,HV.toCL];omega) (by simp[aX,fob_at,upd_at,none0_at,bI,HO.men,HV.men,HV.menL,HV.norm,HV.toC,HV.toCL])) ?_;rintro⟨⟨m,p⟩,hst,hm,hip⟩;simp only at hst hm hip;have hp:=hst.1;refine aC fun K hK=>?_;refine R0 ?_;refine aJ (b:=decide ((0:Int)<(m:Int))) rfl (fun hb=>?_) (fun hb=>?_)
 ·
  have hm1:0<m:=by simpa using hb
  have hpl:=hst.lt ht hi hm1;obtain⟨m',rfl⟩: ∃m',m=m'+1:=⟨m-1,by omega⟩;obtain⟨a1,a2,a3⟩:=eZ ht hpl;have hw1:IntKind.i64.wrap (((m'+1:Nat):Int)-1)=((m':Nat):Int):=by rw[cD _ (by omega)];omega
  clear hb;refine aN ?_;refine T0 (hK _ _ _ ?_);clear hK K;refine aC fun K hK=>?_;refine aO ?_;refine Rg ?_;iterate 2 refine S0 ?_
  refine HS rfl rfl fun K' hK'=>T5 ?_;refine C2 (ih p hip hpl) ?_;rintro u rfl;refine AX (hK' _ _ ?_);clear hK' K';refine S0 ?_;refine T2 (hK _ _ _ ?_);clear hK K;refine aD (by kernel_rfl) ?_;refine TQ hw1 ?_;refine⟨⟨(m',aft l p),⟨a2,bG1 hst.2 a3⟩,by simp only;omega,by simp only;omega⟩,fF,?_⟩;show m'<m'+1;omega
 refine bB (T3 ?_);clear hK K;refine AX (hK _ _ _ ?_);clear hK K;refine R0 ?_;refine aH (RT Tryz.results107 ?_);have hm0:m=0:=by simpa using hb
 subst hm0;exact aK [] (.int .i64 p) rfl (by rw[hst.fin])
theorem oW (l:List Nd)(ht:IsTree l): ∀(f i:Nat),i<l.length→l.length-i≤f→cF Tryz.prog 107 [.slc (l.map Nd.cv),.int .i64 i] (fun v=>v= .int .i64 (aft l i:Nat))
 |0,i,h1,h2=>by omega
 |f+1,i,h1,h2=>aQ7 l ht i h1 fun j h3 h4=>oW l ht f j h4 (by omega)
theorem aI4 (l:List Nd)(hn: ∀n∈l,n.q.t.length<2^63)(i:Int):cF Tryz.prog 78 [.slc (l.map Nd.cv),.int .i64 i] (fun v=>v= .slc ((nR l i).map iC)):=by
 refine FW Tryz.func78 ?_;refine R0 ?_;refine R0 ?_;refine aC fun K hK=>?_;refine aC fun K hK=>Rg ?_;refine S0 ?_;refine HS rfl rfl fun K' hK'=>T5 ?_;refine C1 (aQ5 l hn) ?_;rintro u rfl;refine AX (hK' _ _ ?_);clear hK' K';iterate 2 refine S0 ?_
 refine aG 9 rfl (fun h2_9=>?_) (fun h2_9=>?_)
 ·
  have F:=h2_9;iterate 4 refine SF ?_
  refine aG 13 rfl (fun h2_13=>?_) (fun h2_13=>?_)
  ·
   have F:=aI h2_9 h2_13;iterate 5 refine SF ?_
   refine T2 (hK _ _ _ ?_);clear hK K;refine CT rfl ?_;refine R0 ?_;refine aH (RT Tryz.results78 ?_);exact aK [] (.slc []) rfl (by rw[iR (.inr (.inl (by simpa using h2_13)))];rfl)
  have F:=aI h2_9 h2_13;iterate 5 refine SF ?_
  refine aG 19 rfl (fun h2_19=>?_) (fun h2_19=>?_)
  · simp only[h2_19];refine T2 (hK _ _ _ ?_);clear hK K;refine CT rfl ?_;refine R0 ?_;refine aH (RT Tryz.results78 ?_);exact aK [] (.slc []) rfl (by rw[iR (.inr (.inr (by simpa using h2_19)))];rfl)
  simp only[h2_19];refine T2 (hK _ _ _ ?_);clear hK K;refine CF rfl ?_;refine aN ?_;refine T0 (hK _ _ _ ?_);clear hK K;obtain⟨j,rfl⟩: ∃j:Nat,i=j:=⟨i.toNat,by simp at h2_13;omega⟩;have hj:j<l.length:=by simp at h2_19;omega
  have ht:=eM h2_9;have hcv:=oV h2_9 hj;have hl:=ht.len;obtain⟨c1,c2,_,_⟩:=eL (ht.node _ (List.getElem_mem hj));have hw2:IntKind.i64.wrap ((j:Int)+1)=((j+1:Nat):Int):=by rw[cD _ (by omega)];rfl
  clear h2_9 h2_13 h2_19;have F:=hw2;refine RF ?_;refine aC fun K hK=>?_;refine R0 ?_;refine aO ?_;refine iZ 5 0 3 1 rfl rfl rfl rfl ?_;refine bP (α:={k:Nat//k≤l[j].c.toNat}) (fun k=>(fin [(0,.c (.slc (l.map Nd.cv))),(1,.c (.int .i64 j)),(5,.own 76 k.1),(6,.c (.int .i64 (cA l k.1 (j+1):Nat))),(7,.c (.int .i64 k.1))],fob [(76,.row 3 1 ((cV l k.1 (j+1)).map iC))])) 200 (fun k=>l[j].c.toNat-k.1) ⟨0,by omega⟩ (aM (by omega) (by simp[aW,fin_at,finA_at,upd_at,HV.men,HV.menL,HV.norm,HV.toC,HV.toCL,cV,cA]) (by simp[aX,fob_at,upd_at,none0_at,bI,HO.men,HV.men,HV.menL,HV.norm,HV.toC,HV.toCL,cV,cA])) ?_;rintro⟨k,hk⟩;have hkl:=iL l k (j+1);refine aC fun K hK=>?_;refine aC fun K hK=>Rg ?_;have F:=aI @Int.natCast_nonneg (aI @Int.ofNat_lt (aI hj (nM hj)));iterate 7 refine SF ?_
  refine T2 (hK _ _ _ ?_);clear hK K;refine aJ (b:=decide ((k:Int)<l[j].c)) rfl (fun hb=>?_) (fun hb=>?_)
  ·
   have hkc:k<l[j].c.toNat:=by simp only[decide_eq_true_eq]at hb;omega
   have hkp:=gK ht hj hkc;have e:(cV l (k+1) (j+1)).map iC=(cV l k (j+1)).map iC++[CV.int .i64 (cA l k (j+1):Nat)]:=by rw[fT,List.map_append];rfl
   refine aN ?_;refine T0 (hK _ _ _ ?_);clear hK K;refine aC fun K hK=>?_;refine aO ?_;refine aC fun K hK=>Rg ?_;have F:=hkl;iterate 5 refine SF ?_
   refine T2 (hK _ _ _ ?_);clear hK K;refine Rg ?_;iterate 2 refine S0 ?_
   refine HS rfl rfl fun K' hK'=>T5 ?_;refine C2 (oW l ht _ _ hkp (Nat.le_refl _)) ?_;rintro u rfl;refine AX (hK' _ _ ?_);clear hK' K';refine S0 ?_;refine T2 (hK _ _ _ ?_);clear hK K;refine aD (by kernel_rfl) ?_;simp only[↓sP,sA,tyS,simprocAttr,cD ((k:Int)+1) (by omega)];refine⟨⟨k+1,hkc⟩,aM (by omega) (by simp[aW,fin_at,finA_at,upd_at,HV.men,HV.menL,HV.norm,HV.toC,HV.toCL,e,hkl,cI]) (by simp[aX,fob_at,upd_at,none0_at,bI,HO.men,HV.men,HV.menL,HV.norm,HV.toC,HV.toCL,e,hkl,cI]),?_⟩;show l[j].c.toNat-(k+1)<l[j].c.toNat-k;omega
  refine bB (T3 ?_);clear hK K;refine AX (hK _ _ _ ?_);clear hK K;refine R0 ?_;refine aH (RT Tryz.results78 ?_);have hkc:k=l[j].c.toNat:=by simp only[decide_eq_false_iff_not]at hb;omega
  subst hkc;exact aK [76] (.slc ((cV l l[j].c.toNat (j+1)).map iC)) (by simp[HV.close,fob_at,hkl,HV.norm,HV.toC,cM,CV.denil]) (by rw[hcv])
 have F:=h2_9;iterate 9 refine SF ?_
 refine T2 (hK _ _ _ ?_);clear hK K;refine CT rfl ?_;refine R0 ?_;refine aH (RT Tryz.results78 ?_);exact aK [] (.slc []) rfl (by rw[iR (.inl h2_9)];rfl)
def bC (b:Bool):CV:= .bool b
theorem dM (l:List Bool):CV.denilL (l.map bC)=l.map bC:=bY (fun _=>rfl) l
theorem aQ8 (l:List Nd)(ht:IsTree l)(tr:List Bool)(htr:tr.length<2^63)(i:Nat)(hi:i<l.length)(ih: ∀j,i<j→j<l.length→cF Tryz.prog 77 [.slc (l.map Nd.cv),.int .i64 j,.slc (tr.map bC)] (fun v=>v= .bool (dB l tr j))):
  cF Tryz.prog 77 [.slc (l.map Nd.cv),.int .i64 i,.slc (tr.map bC)] (fun v=>v= .bool (dB l tr i)):=by
 have hl:=ht.len;obtain⟨c1,c2,_,_⟩:=eL (ht.node _ (List.getElem_mem hi));have hw2:IntKind.i64.wrap ((i:Int)+1)=((i+1:Nat):Int):=by rw[cD _ (by omega)];rfl
 have hc:l[i].c=((l[i].c.toNat:Nat):Int):=by omega
 refine FW Tryz.func77 ?_;refine R0 ?_;refine aC fun K hK=>Rg ?_;have F:=aI @Int.natCast_nonneg (aI @Int.ofNat_lt (aI hi (nM hi)));iterate 6 refine SF ?_
 refine T2 (hK _ _ _ ?_);clear hK K;refine aC fun K hK=>?_;refine R0 ?_;refine aJ (b:=(l[i].k==1)) rfl (fun hb=>?_) (fun hb=>?_)
 ·
  refine R0 ?_;refine aC fun K hK=>?_;refine R0 ?_;refine aO ?_;have hk1:l[i].k=1:=by simpa using hb
  clear hb;refine bP (α:={j:Nat//j≤i}) (fun j=>(fin [(0,.c (.slc (l.map Nd.cv))),(1,.c (.int .i64 i)),(2,.c (.slc (tr.map bC))),(8,.c (.int .i64 (lv (l.take j.1):Nat))),(9,.c (.int .i64 j.1))],fob [])) 100 (fun j=>i-j.1) ⟨0,by omega⟩ (aM (by omega) (by simp[aW,fin_at,finA_at,upd_at,HV.men,HV.menL,HV.norm,HV.toC,HV.toCL,lv]) (by simp[aX,fob_at,upd_at,none0_at,bI,HO.men,HV.men,HV.menL,HV.norm,HV.toC,HV.toCL,lv])) ?_;rintro⟨j,hj⟩;have hlv:=yO l j;refine aC fun K hK=>?_;refine R0 ?_;refine aJ (b:=decide ((j:Int)<i)) rfl (fun hb=>?_) (fun hb=>?_)
  ·
   have hji:j<i:=by simpa using hb
   have hjl:j<l.length:=by omega
   have e:=vQ hjl;have hw3:IntKind.i64.wrap ((lv (l.take j):Int)+1)=((lv (l.take j)+1:Nat):Int):=by rw[cD _ (by omega)];rfl
   clear hb;refine aN ?_;refine T0 (hK _ _ _ ?_);clear hK K;refine aC fun K hK=>?_;refine aO ?_;refine aC fun K hK=>Rg ?_;have F:=aI @Int.natCast_nonneg (aI @Int.ofNat_lt (aI hjl (nM hjl)));iterate 6 refine SF ?_
   refine T2 (hK _ _ _ ?_);clear hK K;refine aJ (b:=_) rfl (fun hb=>?_) (fun hb=>?_)
   · rw[if_pos (by simpa using hb)]at e;refine aD (by kernel_rfl) ?_;refine TQ hw3 ?_;refine AX (hK _ _ _ ?_);clear hK K;refine aD (by kernel_rfl) ?_;simp only[↓sP,sA,tyS,simprocAttr,cD ((j:Int)+1) (by omega)];refine⟨⟨j+1,hji⟩,aM (by omega) (by simp[aW,fin_at,finA_at,upd_at,HV.men,HV.menL,HV.norm,HV.toC,HV.toCL,e]) (by simp[aX,fob_at,upd_at,none0_at,bI,HO.men,HV.men,HV.menL,HV.norm,HV.toC,HV.toCL,e]),?_⟩;show i-(j+1)<i-j;omega
   rw[if_neg (by simpa using hb),Nat.add_zero]at e;refine aN ?_;refine T0 (hK _ _ _ ?_);clear hK K;refine aD (by kernel_rfl) ?_;simp only[↓sP,sA,tyS,simprocAttr,cD ((j:Int)+1) (by omega)];refine⟨⟨j+1,hji⟩,aM (by omega) (by simp[aW,fin_at,finA_at,upd_at,HV.men,HV.menL,HV.norm,HV.toC,HV.toCL,e]) (by simp[aX,fob_at,upd_at,none0_at,bI,HO.men,HV.men,HV.menL,HV.norm,HV.toC,HV.toCL,e]),?_⟩;show i-(j+1)<i-j;omega
  refine bB (T3 ?_);clear hK K;refine AX (hK _ _ _ ?_);clear hK K;by_cases hlt:lv (l.take j)<tr.length
  ·
   have hji:j=i:=by simp only[decide_eq_false_iff_not]at hb;omega
   subst hji;have hva:=mH (tr:=tr) hi hk1;clear hb;refine aC fun K hK=>Rg ?_;iterate 11 refine S0 ?_ (e:=fun _ h_=>by simp only[sH,↓sP,sA,tyS,simprocAttr,Int.natCast_nonneg,Int.ofNat_lt,hlt,aU hlt,bC];exact AX h_)
   refine T2 (hK _ _ _ ?_);clear hK K;refine aH (RT Tryz.results77 ?_);exact aK [] (.bool tr[lv (l.take j)]) rfl (by rw[hva];simp[hlt])
  have hji:j=i:=by simp only[decide_eq_false_iff_not]at hb;omega
  subst hji;have hva:=mH (tr:=tr) hi hk1;clear hb;have hlt':decide ((lv (l.take j):Int)<tr.length)=false:=by simp;omega
  refine aC fun K hK=>Rg ?_;have F:=hlt';iterate 11 refine SF ?_
  refine T2 (hK _ _ _ ?_);clear hK K;refine aH (RT Tryz.results77 ?_);exact aK [] (.bool false) rfl (by rw[hva];simp[List.getD_eq_getElem?_getD,List.getElem?_eq_none (Nat.le_of_not_lt hlt)])
 refine aN ?_;refine T0 (hK _ _ _ ?_);clear hK K;refine aC fun K hK=>Rg ?_;have F:=hw2;iterate 4 refine SF ?_
 refine T2 (hK _ _ _ ?_);clear hK K;refine aC fun K hK=>?_;refine R0 ?_;refine aO ?_;have hk1:l[i].k≠1:=by simpa using hb
 have hvi:=uQ (tr:=tr) hi hk1;have hkl:=rJ ht (tr:=tr) hi;obtain⟨V,hV⟩: ∃V,V=evS (lv l) tr (l.drop (i+1)):=⟨_,rfl⟩;rw[←hV]at hvi hkl;clear hb;refine bP (α:={k:Nat//k≤l[i].c.toNat}) (fun k=>(fin [(0,.c (.slc (l.map Nd.cv))),(2,.c (.slc (tr.map bC))),(7,.ptr 20 0),(10,.c (.int .i64 (cnt (V.take k.1):Nat))),(11,.c (.int .i64 (cA l k.1 (i+1):Nat))),(12,.c (.int .i64 k.1))],fob [(20,.box 89 (.c l[i].cv))])) 200 (fun k=>l[i].c.toNat-k.1) ⟨0,by omega⟩ (aM (by omega) (by simp[aW,fin_at,finA_at,upd_at,HV.men,HV.menL,HV.norm,HV.toC,HV.toCL,cnt,cA,hw2]) (by simp[aX,fob_at,upd_at,none0_at,bI,HO.men,HV.men,HV.menL,HV.norm,HV.toC,HV.toCL,cnt,cA,hw2])) ?_;rintro⟨k,hk⟩;have hcn:cnt (V.take k)≤k:=by have:=aU8 (V.take k);simp at this;omega
 have hcn2:cnt (V.take k)≤60:=by omega
 refine aC fun K hK=>?_;refine aC fun K hK=>Rg ?_;iterate 4 refine S0 ?_
 refine T2 (hK _ _ _ ?_);clear hK K;refine aJ (b:=decide ((k:Int)<l[i].c)) rfl (fun hb=>?_) (fun hb=>?_)
 ·
  have hkc:k<l[i].c.toNat:=by simp only[decide_eq_true_eq]at hb;omega
  have hkp:=gK ht hi hkc;have hik:=(fU ht hi k hk).2.2;have hvk:=aA3 ht (tr:=tr) hi hkc;rw[←hV]at hvk;have hct:=lD (l:=V) (k:=k) (by omega);have hw3:IntKind.i64.wrap ((cnt (V.take k):Int)+1)=((cnt (V.take k)+1:Nat):Int):=by rw[cD _ (by omega)];rfl
  clear hb;refine aN ?_;refine T0 (hK _ _ _ ?_);clear hK K;refine aC fun K hK=>?_;refine aO ?_;refine aC fun K hK=>?_;refine aC fun K hK=>Rg ?_;have F:=@dM;iterate 3 refine SF ?_
  refine HS rfl rfl fun K' hK'=>T6 ?_;refine C3 (ih _ (by omega) hkp) ?_;rintro u rfl;refine AX (hK' _ _ ?_);clear hK' K';refine T2 (hK _ _ _ ?_);clear hK K;refine aJ (b:=dB l tr (cA l k (i+1))) rfl (fun hb=>?_) (fun hb=>?_)
  ·
   rw[hvk]at hb;rw[if_pos hb]at hct;refine aD (by kernel_rfl) ?_;refine TQ hw3 ?_;refine AX (hK _ _ _ ?_);clear hK K;refine Rg ?_;iterate 2 refine S0 ?_
   refine HS rfl rfl fun K' hK'=>T5 ?_;refine C2 (oW l ht _ _ hkp (Nat.le_refl _)) ?_;rintro u rfl;refine AX (hK' _ _ ?_);clear hK' K';refine S0 ?_;refine T2 (hK _ _ _ ?_);clear hK K;refine aD (by kernel_rfl) ?_;simp only[↓sP,sA,tyS,simprocAttr,cD ((k:Int)+1) (by omega)];refine⟨⟨k+1,hkc⟩,aM (by omega) (by simp[aW,fin_at,finA_at,upd_at,HV.men,HV.menL,HV.norm,HV.toC,HV.toCL,hct,cI]) (by simp[aX,fob_at,upd_at,none0_at,bI,HO.men,HV.men,HV.menL,HV.norm,HV.toC,HV.toCL,hct,cI]),?_⟩;show l[i].c.toNat-(k+1)<l[i].c.toNat-k;omega
  rw[hvk]at hb;rw[if_neg (by rw[hb];simp)]at hct;refine aN ?_;refine T0 (hK _ _ _ ?_);clear hK K;refine Rg ?_;iterate 2 refine S0 ?_
  refine HS rfl rfl fun K' hK'=>T5 ?_;refine C2 (oW l ht _ _ hkp (Nat.le_refl _)) ?_;rintro u rfl;refine AX (hK' _ _ ?_);clear hK' K';refine S0 ?_;refine T2 (hK _ _ _ ?_);clear hK K;refine aD (by kernel_rfl) ?_;simp only[↓sP,sA,tyS,simprocAttr,cD ((k:Int)+1) (by omega)];refine⟨⟨k+1,hkc⟩,aM (by omega) (by simp[aW,fin_at,finA_at,upd_at,HV.men,HV.menL,HV.norm,HV.toC,HV.toCL,hct,Nat.add_zero,cI]) (by simp[aX,fob_at,upd_at,none0_at,bI,HO.men,HV.men,HV.menL,HV.norm,HV.toC,HV.toCL,hct,Nat.add_zero,cI]),?_⟩;show l[i].c.toNat-(k+1)<l[i].c.toNat-k;omega
 refine bB (T3 ?_);clear hK K;refine AX (hK _ _ _ ?_);clear hK K;refine aC fun K hK=>?_;have hkc:k=l[i].c.toNat:=by simp only[decide_eq_false_iff_not]at hb;omega
 subst hkc;have hlen:(V.take l[i].c.toNat).length=l[i].c.toNat:=by simp;omega
 clear hb;refine R0 ?_;refine aO ?_;refine R0 ?_;refine aJ (b:=(l[i].k==2)) rfl (fun hb=>?_) (fun hb=>?_)
 ·
  refine aC fun K hK=>Rg ?_;iterate 5 refine S0 ?_
  refine T2 (hK _ _ _ ?_);clear hK K;refine aH (RT Tryz.results77 ?_);have h2:l[i].k=2:=by simpa using hb
  exact aK [] (.bool _) rfl (by rw[hvi,iF,if_pos h2,hlen];congr 1;rw[Bool.eq_iff_iff];simp;omega)
 have h2:l[i].k≠2:=by simpa using hb
 refine R0 ?_;refine aJ (b:=(l[i].k==3)) rfl (fun hb=>?_) (fun hb=>?_)
 ·
  refine R0 ?_;refine aH (RT Tryz.results77 ?_);have h3:l[i].k=3:=by simpa using hb
  exact aK [] (.bool _) rfl (by rw[hvi,iF,if_neg h2,if_pos h3];congr 1;rw[Bool.eq_iff_iff];simp;omega)
 refine aN ?_;refine T0 (hK _ _ _ ?_);clear hK K;refine aC fun K hK=>Rg ?_;iterate 5 refine S0 ?_
 refine T2 (hK _ _ _ ?_);clear hK K;refine aH (RT Tryz.results77 ?_);have h3:l[i].k≠3:=by simpa using hb
 exact aK [] (.bool _) rfl (by rw[hvi,iF,if_neg h2,if_neg h3])
theorem tZ (l:List Nd)(ht:IsTree l)(tr:List Bool)(htr:tr.length<2^63): ∀(f i:Nat),i<l.length→l.length-i≤f→cF Tryz.prog 77 [.slc (l.map Nd.cv),.int .i64 i,.slc (tr.map bC)] (fun v=>v= .bool (dB l tr i))
 |0,i,h1,h2=>by omega
 |f+1,i,h1,h2=>aQ8 l ht tr htr i h1 fun j h3 h4=>tZ l ht tr htr f j h4 (by omega)
theorem bY2 (l:List Nd)(ht:IsTree l)(tr:List Bool)(htr:tr.length<2^63):cF Tryz.prog 77 [.slc (l.map Nd.cv),.int .i64 0,.slc (tr.map bC)] (fun v=>v= .bool (dB l tr 0)):=tZ l ht tr htr l.length 0 ht.ne (Nat.le_refl _)
theorem bY3 (l:List Nd)(hn: ∀n∈l,n.q.t.length<2^63)(tr:List Bool)(htr:tr.length<2^63):cF Tryz.prog 39 [.slc (l.map Nd.cv),.slc (tr.map bC)] (fun v=>v= .bool (eD l tr)):=by
 refine FW Tryz.func39 ?_;refine R0 ?_;refine aC fun K hK=>Rg ?_;have F:=@dM;refine SF ?_;refine HS rfl rfl fun K' hK'=>T6 ?_;refine C1 (aQ5 l hn) ?_;rintro u rfl;refine AX (hK' _ _ ?_);clear hK' K';refine SF ?_;refine aG 6 rfl (fun h1_6=>?_) (fun h1_6=>?_)
 ·
  have F:=aI @dM h1_6;iterate 2 refine SF ?_
  refine aE (g:=some (7,true)) rfl rfl fun K' hK'=>T6 ?_;refine C3 (bY2 l (eM h1_6) tr htr) ?_;rintro u rfl;refine AX (hK' _ _ ?_);clear hK' K';iterate 2 refine SF ?_
  refine T2 (hK _ _ _ ?_);clear hK K;refine aH (RT Tryz.results39 ?_);exact aK [] (.bool _) rfl (by rw[eD,h1_6];rfl)
 have F:=aI @dM h1_6;iterate 5 refine SF ?_
 refine T2 (hK _ _ _ ?_);clear hK K;refine aH (RT Tryz.results39 ?_);exact aK [] (.bool false) rfl (by rw[eD,h1_6];rfl)
theorem bL7 (l:List Nd)(hl:l.length<2^40):aH0 Tryz.prog 79 [(26,.slc (l.map Nd.cv))] (bwL l):=by
 refine aB1 Tryz.func79 rfl (by kernel_rfl) (Nat.le_of_ble_eq_true rfl) rfl fun L J hS hY=>?_;have e0:kL [(26,CV.slc (l.map Nd.cv))]=fob [(0,.box 26 (.c (.slc (l.map Nd.cv))))]:=by
  funext i
  match i with
  |0=>rfl
  |i+1=>simp[kL,fob,upd]
 have e1:iD (List.range [((26:Nat),CV.slc (l.map Nd.cv))].length)=[.ptr 0 0]:=rfl;rw[e0,e1];refine fN fun K hK=>nU hS rfl (aD (by kernel_rfl) ?_);simp only[sR,simprocAttr];iterate 4 refine S0 ?_ (e:=fun _ h_=>by simp only[sH,↓sP,sA,tyS,simprocAttr,rI,cD ((l.length:Int)-1) (by omega),List.length_map];exact AX h_)
 simp only[sE,↓reduceIte,simprocAttr,rI];refine hK _ _ _ _ _ ?_;clear hK K;refine oO ?_;refine aN8 (α:={j:Nat//j≤l.length}) hS (fun j=>(fin [(0,.opq (.func (.yield L) #[] #[])),(1,.ptr 0 0),(3,.c (.int .i64 ((l.length:Int)-1-j.1)))],fob [(0,.box 26 (.c (.slc (l.map Nd.cv))))])) (fun j=>j.1) 100 (fun j=>l.length-j.1) ⟨0,Nat.zero_le _⟩ rfl (fF) rfl ?_;rintro⟨j,hj⟩;refine fN fun K hK=>?_;refine fN fun K1 hK1=>nU hS rfl (aD (by kernel_rfl) ?_);simp only[sR,simprocAttr];have F:=rI;iterate 2 refine SF ?_
 simp only[sE,↓reduceIte,simprocAttr,rI];refine hK1 _ _ _ _ _ ?_;clear hK1 K1;refine jY (b:=decide ((0:Int)≤(l.length:Int)-1-j)) rfl (fun hb=>?_) (fun hb=>?_)
 ·
  have hlt:j<l.length:=by simp at hb;omega
  have hi2:l.length-1-j<l.length:=by omega
  have hxl:j<(bwL l).length:=by rw[sO];exact hlt
  have hx:=bX7 hxl hi2;have hcast:(l.length:Int)-1-j=((l.length-1-j:Nat):Int):=by omega
  have hw1:IntKind.i64.wrap (((l.length-1-j:Nat):Int)-1)=(l.length:Int)-1-((j:Int)+1):=by rw[cD _ (by omega)];omega
  refine nV ?_;simp only[sE,↓reduceIte,simprocAttr,rI];refine hK _ _ _ _ _ ?_;clear hK K;refine fN fun K hK=>?_;refine oO ?_;refine fN fun K1 hK1=>tK (l:=L) 6 hS hY rfl (by kernel_rfl) (by decide) ?_;simp only[sR,List.range',simprocAttr];have F:=aI rI (aI hcast (aI @List.length_map.{0,0} (aI @Int.natCast_nonneg (aI @Int.ofNat_lt (aI hi2 (nM hi2))))));iterate 6 refine SF ?_
  rw[hlex];refine⟨_,_,_,hxl,rfl,rfl,rfl,rfl,rfl,?_,?_,?_⟩
  · rw[hx];simp only[hcast];rfl
  ·
   simp only[sR,List.range',simprocAttr];have F:=rI;refine SF ?_;simp only[sE,↓reduceIte,simprocAttr,rI];refine hK1 _ _ _ _ _ ?_;clear hK1 K1;refine jY (b:=false) rfl (fun hb=>by cases hb) (fun _=>?_);refine nV ?_;simp only[sE,↓reduceIte,simprocAttr,rI];refine hK _ _ _ _ _ ?_;clear hK K;refine nU hS rfl (aD (by kernel_rfl) ?_);simp only[sR,simprocAttr];have F:=aI rI (aI hcast hw1);iterate 3 refine SF ?_
   simp only[sE,↓reduceIte,simprocAttr,rI];refine⟨⟨j+1,hlt⟩,fF,trivial,rfl,?_⟩;show l.length-(j+1)<l.length-j;omega
  simp only[sR,List.range',simprocAttr];have F:=rI;refine SF ?_;simp only[sE,↓reduceIte,simprocAttr,rI];refine hK1 _ _ _ _ _ ?_;clear hK1 K1;refine jY (b:=true) rfl (fun _=>?_) (fun hb=>by cases hb);refine bA3 ?_;simp only[sE,↓reduceIte,simprocAttr,rI];exact⟨by simp,fun h=>by cases h⟩
 have hji:j=l.length:=by simp at hb;omega
 refine aN7 ?_;simp only[sE,↓reduceIte,simprocAttr,rI];exact⟨by simp,fun _=>by rw[sO];exact hji⟩
end Go.Proofs.YthedbjfipmkpiaaGreatDoor
namespace Go.Pl
open Go Go.Hl
def lY (w:List Bool)(m:Nat)(b:Bool):List Bool:=w.take m++[b]++w.drop (m+1)
variable {b:Bool}{m:Nat}{w:List Bool}
theorem lZ (h:m+1≤w.length):(lY w m b).length=w.length:=by simp[lY];omega
theorem aE2 :lY w w.length b=w++[b]:=by simp[lY]
theorem aE3 (h:m≤w.length):(lY w m b).take (m+1)=w.take m++[b]:=by grind[lY,List.take_of_length_le]
def aX5 (l:List Nd)(tr:List Bool)(p:Nat)(s:List Bool×Nat):List Bool×Nat:=
 if(l.getD p nd0).k=1 then(lY s.1 s.2 (tr.getD (lv (l.take p)) false),s.2+1)
 else(lY s.1 (s.2-(l.getD p nd0).c.toNat) (iF (l.getD p nd0) ((s.1.drop (s.2-(l.getD p nd0).c.toNat)).take (l.getD p nd0).c.toNat)),s.2-(l.getD p nd0).c.toNat+1)
def cL (l:List Nd)(tr:List Bool):Nat→List Bool×Nat
 |0=>([],0)
 |i+1=>aX5 l tr (l.length-1-i) (cL l tr i)
structure EvOk (l:List Nd)(tr:List Bool)(i:Nat):Prop where
 le:i≤l.length
 m:(cL l tr i).2=(evS (lv l) tr (l.drop (l.length-i))).length
 row:(cL l tr i).1.take (cL l tr i).2=(evS (lv l) tr (l.drop (l.length-i))).reverse
 fit:(cL l tr i).2≤(cL l tr i).1.length
 small:(cL l tr i).1.length≤i
theorem EvOk.zero (l:List Nd)(tr:List Bool):EvOk l tr 0:=⟨by omega,by simp[cL,evS],by simp[cL,evS],by simp[cL],by simp[cL]⟩
theorem zJ (n:Nd)(l:List Bool):iF n l.reverse=iF n l:=by simp only[iF,aM4,List.length_reverse]
variable {c:Nat}{E:List Bool}
theorem bY4 :E.reverse.take (E.length-c)=(E.drop c).reverse:=by rw[List.reverse_drop]
theorem bY5 (h:c≤E.length):E.reverse.drop (E.length-c)=(E.take c).reverse:=by rw[List.reverse_take]
variable {i:Nat}{l:List Nd}
theorem EvOk.at_ {tr:List Bool}(hi:i<l.length):l.drop (l.length-(i+1))=l[l.length-1-i]'(by omega)::l.drop (l.length-i):=by grind[List.drop_eq_getElem_cons]
variable {tr:List Bool}
theorem EvOk.leaf (h:EvOk l tr i)(hi:i<l.length)(hk:(l[l.length-1-i]'(by omega)).k=1):
  EvOk l tr (i+1)∧cL l tr (i+1)=(lY (cL l tr i).1 (cL l tr i).2 (tr.getD (lv (l.take (l.length-1-i))) false),(cL l tr i).2+1):=by
 have hp:l.length-1-i<l.length:=by omega
 have hg:l.getD (l.length-1-i) nd0=l[l.length-1-i]:=by simp[hp]
 have e:cL l tr (i+1)=(lY (cL l tr i).1 (cL l tr i).2 (tr.getD (lv (l.take (l.length-1-i))) false),(cL l tr i).2+1):=by
  simp only[cL,aX5,hg,if_pos hk]
 have hT:=rH l (l.length-1-i);have hd:=EvOk.at_ (tr:=tr) hi;rw[show l.length-(i+1)=l.length-1-i from by omega]at hd;have hE:evS (lv l) tr (l.drop (l.length-(i+1)))=tr.getD (lv (l.take (l.length-1-i))) false::evS (lv l) tr (l.drop (l.length-i)):=by
  rw[show l.length-(i+1)=l.length-1-i from by omega,hd,evS,if_pos hk,←hd];congr 2;omega
 refine⟨⟨hi,?_,?_,?_,?_⟩,e⟩
 · rw[e,hE];simp[h.m]
 · rw[e,hE];simp only[List.reverse_cons];rw[aE3 h.fit,h.row]
 · rw[e];have:=h.fit;simp[lY];omega
 · rw[e];have:=h.fit;have:=h.small;simp[lY];omega
theorem EvOk.inner (ht:IsTree l)(h:EvOk l tr i)(hi:i<l.length)(hk:(l[l.length-1-i]'(by omega)).k≠1):
  (l[l.length-1-i]'(by omega)).c.toNat≤(cL l tr i).2∧EvOk l tr (i+1)∧
  cL l tr (i+1)=(lY (cL l tr i).1 ((cL l tr i).2-(l[l.length-1-i]'(by omega)).c.toNat) (iF (l[l.length-1-i]'(by omega)) (((cL l tr i).1.drop ((cL l tr i).2-(l[l.length-1-i]'(by omega)).c.toNat)).take (l[l.length-1-i]'(by omega)).c.toNat)),(cL l tr i).2-(l[l.length-1-i]'(by omega)).c.toNat+1):=by
 have hp:l.length-1-i<l.length:=by omega
 have hg:l.getD (l.length-1-i) nd0=l[l.length-1-i]:=by simp[hp]
 have e:cL l tr (i+1)=(lY (cL l tr i).1 ((cL l tr i).2-(l[l.length-1-i]'(by omega)).c.toNat) (iF (l[l.length-1-i]'(by omega)) (((cL l tr i).1.drop ((cL l tr i).2-(l[l.length-1-i]'(by omega)).c.toNat)).take (l[l.length-1-i]'(by omega)).c.toNat)),(cL l tr i).2-(l[l.length-1-i]'(by omega)).c.toNat+1):=by
  simp only[cL,aX5,hg,if_neg hk]
 have hkl:=rJ ht (tr:=tr) hp;rw[show l.length-1-i+1=l.length-i from by omega]at hkl;obtain⟨_,_,_,c4⟩:=eL (ht.node _ (List.getElem_mem hp));have c5:=c4 hk;have c6:1≤l[l.length-1-i].c.toNat:=by omega
 have hd:=EvOk.at_ (tr:=tr) hi;have hm:=h.m;have hr:=h.row;have hf:=h.fit;have hs:=h.small;have hE:evS (lv l) tr (l.drop (l.length-(i+1)))=iF l[l.length-1-i] ((evS (lv l) tr (l.drop (l.length-i))).take l[l.length-1-i].c.toNat)::(evS (lv l) tr (l.drop (l.length-i))).drop l[l.length-1-i].c.toNat:=by
  rw[hd,evS,if_neg hk]
 generalize evS (lv l) tr (l.drop (l.length-i))=E at hm hr hkl hE;generalize l[l.length-1-i].c.toNat=c at*;have h1:(cL l tr i).1.take ((cL l tr i).2-c)=(E.drop c).reverse:=by
  rw[←bY4,←hr,List.take_take,hm,Nat.min_eq_left (by omega)]
 have h2:((cL l tr i).1.drop ((cL l tr i).2-c)).take c=(E.take c).reverse:=by
  rw[←bY5 hkl,←hr,List.drop_take,hm];congr 1;omega
 refine⟨by omega,⟨hi,?_,?_,?_,?_⟩,e⟩
 · rw[e,hE];simp only[List.length_cons,List.length_drop];omega
 · rw[e,hE];simp only[List.reverse_cons];rw[aE3 (by omega),h1,h2,zJ]
 · rw[e];simp only;rw[lZ (by omega)];omega
 · rw[e];simp only;rw[lZ (by omega)];omega
theorem EvOk.fin (ht:IsTree l)(h:EvOk l tr l.length):(cL l tr l.length).2=1∧ ∃h0:0<(cL l tr l.length).1.length,eD l tr=(cL l tr l.length).1[0]:=by
 have hl:=aG7 (T:=lv l) (tr:=tr) l 1 ht.node ht.skip;have hm:=h.m;have hr:=h.row;have hf:=h.fit;rw[Nat.sub_self,List.drop_zero]at hm hr;rw[hl]at hm;have h0:0<(cL l tr l.length).1.length:=by omega
 refine⟨hm,h0,?_⟩;have ht':=aQ2 ht;obtain⟨x,hx⟩: ∃x,evS (lv l) tr l=[x]:=by
  match hE:evS (lv l) tr l,hl with
  |[x],_=>exact⟨x,rfl⟩
 rw[hx,hm]at hr;rw[eD,ht',hx];have:(cL l tr l.length).1[0]=x:=by
  have:=congrArg (·.head?) hr;simpa[List.head?_take,List.head?_eq_getElem?,h0]using this
 rw[this];rfl
end Go.Pl
namespace Go.Proofs.YthedbjfipmkpiaaGreatDoor
open Go Go.Hl Go.Pl
set_option maxRecDepth 10000
set_option maxHeartbeats 16000000
theorem cG5 (l:List Nd):bA4 Tryz.prog 42 79 [.slc (l.map Nd.cv)] [(26,.slc (l.map Nd.cv))]:=by
 refine FW Tryz.func42 ?_;have F:=rI;refine RF ?_;refine RF ?_;refine aH ?_;simp only[bK,Tryz.results42,bH,bJ,bG,↓sP,sA,tyS,simprocAttr,rI];refine tM (gf:=79) (bs:=[(26,.slc (l.map Nd.cv))]) (ids:=[0]) rfl (by simp) (by decide) ?_ ?_
 ·
  intro j x hx
  match j,hx with
  |0,hx=>cases hx;rfl
 intro x hx;simp only[List.mem_cons,List.not_mem_nil,or_false]at hx;subst hx;exact congrArg CV.slc (denilL_Nd l)
theorem aQ9 (n:Nd)(L:List Bool)(lo m:Nat)(hl:L.length<2^40)(h0:0<L.length)(hlo:lo≤m)(hm:m≤L.length):
  HGe Tryz.prog 43 [.c n.cv,.osl 0 L.length lo 1 m] [.row 4 1 (L.map bC)] (fun r os'=>r= .c (.bool (iF n ((L.drop lo).take (m-lo))))∧os'=[.row 4 1 (L.map bC)]):=by
 obtain⟨V,hV⟩: ∃V,V=(L.drop lo).take (m-lo):=⟨_,rfl⟩;have hVl:V.length=m-lo:=by rw[hV];simp;omega
 rw[←hV];have hrd:List.take (m-lo) (List.drop lo (L.map bC))=V.map bC:=by rw[hV,List.map_take,List.map_drop]
 refine bQ (args:=[.c n.cv,.osl 0 L.length lo 1 m]) Tryz.func43 rfl (by kernel_rfl) (eS rfl (by simp[dL,HO.men]) (by simp[HV.menL,HV.men])) (Nat.le_of_ble_eq_true rfl) ?_;have e0:lst [.row 4 1 (L.map bC)]=fob [(0,.row 4 1 (L.map bC))]:=by
  funext i
  match i with
  |0=>rfl
  |i+1=>simp[lst,fob,upd]
 show Hw _ _ 1 _ _ _ (lst _) 1;rw[e0];have F:=rI;refine RF ?_;refine RF ?_;refine aC fun K hK=>?_;refine R0 ?_ (e:=fun _ h_=>by simp only[↓sP,sA,tyS,simprocAttr,rI,hrd,List.length_map,h0,hlo,hm];exact AX h_);refine aO ?_;refine bP (α:={i:Nat//i≤V.length}) (fun i=>(fin [(1,.osl 0 L.length lo 1 m),(2,.ptr 1 0),(5,.c (.int .i64 (cnt (V.take i.1):Nat))),(8,.osl 0 L.length lo 1 m),(9,.c (.int .i64 V.length)),(10,.c (.int .i64 i.1))],fob [(0,.row 4 1 (L.map bC)),(1,.box 89 (.c n.cv))])) 100 (fun i=>V.length-i.1) ⟨0,by omega⟩ (aM (by omega) (by simp[aW,fin_at,finA_at,upd_at,HV.men,HV.menL,HV.norm,HV.toC,HV.toCL,cnt]) (by simp[aX,fob_at,upd_at,none0_at,bI,HO.men,HV.men,HV.menL,HV.norm,HV.toC,HV.toCL,cnt])) ?_;rintro⟨i,hi⟩;have hcn:cnt (V.take i)≤i:=by have:=aU8 (V.take i);simp at this;omega
 refine RF ?_;refine aC fun K hK=>?_;refine aJ (b:=decide ((i:Int)<V.length)) rfl (fun hb=>?_) (fun hb=>?_)
 ·
  have hlt:i<V.length:=by simpa using hb
  have hct:=lD (l:=V) (k:=i) hlt;have hw3:IntKind.i64.wrap ((cnt (V.take i):Int)+1)=((cnt (V.take i)+1:Nat):Int):=by rw[cD _ (by omega)];rfl
  have hli:lo+i<L.length:=by omega
  have hvi:L[lo+i]=V[i]:=by simp[hV]
  have hli2:lo+i<(L.map bC).length:=by simpa using hli
  have hml:i<m-lo:=by omega
  clear hb;refine aN ?_;refine TQ rI ?_;refine AX (hK _ _ _ ?_);clear hK K;refine aC fun K hK=>?_;refine aO ?_;refine R0 ?_ (e:=fun _ h_=>by simp only[↓sP,sA,tyS,simprocAttr,rI,List.length_map,Int.natCast_nonneg,Int.ofNat_lt,h0,hm,hml,hli,aU hli,bC];exact AX h_);refine RF ?_;refine aJ (b:=L[lo+i]) rfl (fun hb=>?_) (fun hb=>?_)
  · rw[hvi]at hb;rw[if_pos (by simpa[hlt]using hb)]at hct;refine aD (by kernel_rfl) ?_;simp only[↓sP,sA,tyS,simprocAttr,rI,hw3];refine AX (hK _ _ _ ?_);clear hK K;refine aD (by kernel_rfl) ?_;simp only[↓sP,sA,tyS,simprocAttr,rI,cD ((i:Int)+1) (by omega)];refine⟨⟨i+1,hlt⟩,aM (by omega) (by simp[aW,fin_at,finA_at,upd_at,HV.men,HV.menL,HV.norm,HV.toC,HV.toCL,hct]) (by simp[aX,fob_at,upd_at,none0_at,bI,HO.men,HV.men,HV.menL,HV.norm,HV.toC,HV.toCL,hct]),?_⟩;show V.length-(i+1)<V.length-i;omega
  rw[hvi]at hb;rw[if_neg (by simp[hlt,hb])]at hct;refine aN ?_;refine TQ rI ?_;refine AX (hK _ _ _ ?_);clear hK K;refine aD (by kernel_rfl) ?_;simp only[↓sP,sA,tyS,simprocAttr,rI,cD ((i:Int)+1) (by omega)];refine⟨⟨i+1,hlt⟩,aM (by omega) (by simp[aW,fin_at,finA_at,upd_at,HV.men,HV.menL,HV.norm,HV.toC,HV.toCL,hct]) (by simp[aX,fob_at,upd_at,none0_at,bI,HO.men,HV.men,HV.menL,HV.norm,HV.toC,HV.toCL,hct]),?_⟩;show V.length-(i+1)<V.length-i;omega
 refine bB ?_;refine TQ rI ?_;clear hK K;refine AX (hK _ _ _ ?_);clear hK K;refine aC fun K hK=>?_;have hei:i=V.length:=by simp only[decide_eq_false_iff_not]at hb;omega
 subst hei;rw[List.take_length]at hcn⊢;clear hb;refine RF ?_;refine aO ?_;refine RF ?_;refine aJ (b:=(n.k==2)) rfl (fun hb=>?_) (fun hb=>?_)
 ·
  refine aC fun K hK=>Rg ?_;iterate 5 refine S0 ?_ (e:=fun _ h_=>by simp only[sH,↓sP,sA,tyS,simprocAttr,rI,hrd,List.length_map,h0,hlo,hm];exact AX h_)
  simp only[sE,↓reduceIte,simprocAttr,rI];refine AX (hK _ _ _ ?_);clear hK K;refine aH ?_;simp only[bK,Tryz.results43,bH,bJ,bG,↓sP,sA,tyS,simprocAttr,rI];have h2:n.k=2:=by simpa using hb
  exact gN [] [] (.c (.bool ((cnt V:Int)==V.length))) [.row 4 1 (L.map bC)] rfl (by simp[HV.men]) ⟨⟨trivial,by simp,_,rfl,rfl⟩,trivial⟩ rfl List.nodup_nil (by simp) (by simp) ⟨by rw[iF,if_pos h2];congr 2;rw[Bool.eq_iff_iff];simp;omega,rfl⟩
 have h2:n.k≠2:=by simpa using hb
 refine RF ?_;refine aJ (b:=(n.k==3)) rfl (fun hb=>?_) (fun hb=>?_)
 ·
  refine RF ?_;refine aH ?_;simp only[bK,Tryz.results43,bH,bJ,bG,↓sP,sA,tyS,simprocAttr,rI];have h3:n.k=3:=by simpa using hb
  exact gN [] [] (.c (.bool (decide ((1:Int)≤cnt V)))) [.row 4 1 (L.map bC)] rfl (by simp[HV.men]) ⟨⟨trivial,by simp,_,rfl,rfl⟩,trivial⟩ rfl List.nodup_nil (by simp) (by simp) ⟨by rw[iF,if_neg h2,if_pos h3];congr 2;rw[Bool.eq_iff_iff];simp;omega,rfl⟩
 refine aN ?_;refine TQ rI ?_;refine AX (hK _ _ _ ?_);clear hK K;refine aC fun K hK=>Rg ?_;iterate 5 refine SF ?_
 simp only[sE,↓reduceIte,simprocAttr,rI];refine AX (hK _ _ _ ?_);clear hK K;refine aH ?_;simp only[bK,Tryz.results43,bH,bJ,bG,↓sP,sA,tyS,simprocAttr,rI];have h3:n.k≠3:=by simpa using hb
 exact gN [] [] (.c (.bool (decide (n.n≤cnt V)))) [.row 4 1 (L.map bC)] rfl (by simp[HV.men]) ⟨⟨trivial,by simp,_,rfl,rfl⟩,trivial⟩ rfl List.nodup_nil (by simp) (by simp) ⟨by rw[iF,if_neg h2,if_neg h3],rfl⟩
theorem aY (id n sz m:Nat):(cE id n sz m).sto=true:=by unfold cE;split<;>rfl
theorem aS (id n sz m:Nat):(cE id n sz m).cells=1:=by unfold cE;split<;>rfl
theorem aR (id n sz m:Nat):(cE id n sz m).toC=none:=by unfold cE;split<;>rfl
theorem yP (id n sz m:Nat):(cE id n sz m= .junk)=False:=by unfold cE;split<;>simp
theorem bZ (id n sz:Nat):cE id n sz n= .own id n:=by unfold cE;rw[if_pos rfl]
theorem bW {id n sz m:Nat}(h:m≠n):cE id n sz m= .osl id n 0 sz m:=by unfold cE;rw[if_neg h]
theorem bN {M:Nat→Prop}{id n sz m:Nat}(h:M id):(cE id n sz m).men M:=by unfold cE;split<;>exact h
theorem cG6 (l:List Nd)(hn: ∀n∈l,n.q.t.length<2^63)(tr:List Bool)(htr:tr.length<2^63):cF Tryz.prog 18 [.slc (l.map Nd.cv),.slc (tr.map bC)] (fun v=>v= .bool (eD l tr)):=by
 refine FW Tryz.func18 ?_;have F:=rI;refine RF ?_;refine aC fun K hK=>Rg ?_;refine SF ?_;refine HS rfl rfl fun K' hK'=>T6 ?_;refine C1 (tY l hn) ?_;rintro u rfl;refine AX (hK' _ _ ?_);clear hK' K';iterate 3 refine SF ?_
 simp only[sE,↓reduceIte,simprocAttr,rI];refine AX (hK _ _ _ ?_);clear hK K;refine aC fun K hK=>?_;refine RF ?_;refine aJ (b:=(((dE l).length:Int)==0)) rfl (fun hb=>?_) (fun hb=>?_)
 ·
  refine RF ?_;refine aH ?_;simp only[bK,Tryz.results18,bH,bJ,bG,↓sP,sA,tyS,simprocAttr,rI];have hlv:dE l=[]:=by simpa using hb
  have htf:dN l=false:=by
   cases h:dN l with
   |false=>rfl
   |true=>
    have h1:=aM3 (eM h);rw[kH h]at hlv;have h2:=fZ l 0;rw[hlv]at h2;simp at h2;omega
  exact aK [] (.bool false) rfl (by rw[eD,htf];rfl)
 have htt:dN l=true:=by
  cases h:dN l with
  |true=>rfl
  |false=>rw[uZ h]at hb;simp at hb
 have ht:=eM htt;have hl:=ht.len;have hlen:(dE l).length=lv l:=by rw[kH htt,fZ]
 rw[hlen];clear hb;refine aN ?_;refine TQ rI ?_;refine AX (hK _ _ _ ?_);clear hK K;refine RF ?_;refine aC fun K hK=>?_;refine aC fun K hK=>Rg ?_;refine S0 ?_ (e:=fun _ h_=>by simp only[sH,↓sP,sA,tyS,simprocAttr,rI,denilL_Nd,mX,iD,List.range',List.map_cons,List.map_nil];exact AX h_);refine HS rfl rfl fun K' hK'=>?_;simp only[sH,↓sP,sA,tyS,simprocAttr,rI,denilL_Nd,mX,iD,List.range',List.map_cons,List.map_nil];refine tL (args:=[_]) (cG5 l) (by simp) ⟨rfl,rfl,rfl,rfl⟩ ?_;refine AX (hK' _ _ ?_);clear hK' K';simp only[sE,↓reduceIte,simprocAttr,rI];refine AX (hK _ _ _ ?_);clear hK K;refine aO ?_;refine dP 36 0 4 1 rfl rfl rfl rfl ?_;refine aB0 (ids:=[44]) (fin [(3,.ptr 0 0),(5,.ptr 20 0),(6,.ptr 36 0)]) (fun i=>fob [(0,.box 37 (.c (.slc (tr.map bC)))),(20,.box 3 (.c (.int .i64 (lv (l.take (l.length-i)):Nat)))),(36,.box 37 (cE 48 (cL l tr i).1.length 1 (cL l tr i).2)),(48,.row 4 1 ((cL l tr i).1.map bC))]) 20000 (fun i=>EvOk l tr i) (EvOk.zero l tr) (bL7 l (by omega)) rfl rfl (by decide) ?_ ?_ ?_ ?_ ?_ rfl rfl ?_ ?_
 ·
  intro j x hx
  match j,hx with
  |0,hx=>cases hx;rfl
 · exact aM (by omega) (by simp[aW,fin_at,finA_at,upd_at,HV.men,HV.menL,HV.norm,HV.toC,HV.toCL,mX,cL,bZ,List.take_length]) (by simp[aX,fob_at,upd_at,none0_at,bI,HO.men,HV.men,HV.menL,HV.norm,HV.toC,HV.toCL,mX,cL,bZ,List.take_length])
 · intro id hid;simp only[List.mem_cons,List.not_mem_nil,or_false]at hid;subst hid;rfl
 · intro x hx;obtain⟨p,_,rfl⟩:=List.mem_map.1 hx;rfl
 · intro p hp;simp only[List.mem_cons,List.not_mem_nil,or_false]at hp;rcases hp with rfl|rfl<;>exact Nat.le_of_ble_eq_true rfl
 ·
  intro i hi hΦ K hK;have hi2:i<l.length:=by rw[←sO l];exact hi
  have hp:l.length-1-i<l.length:=by omega
  rw[bX7 hi hp];simp only[xB];obtain⟨w,hw⟩: ∃w,w=(cL l tr i).1:=⟨_,rfl⟩;obtain⟨m,hm⟩: ∃m,m=(cL l tr i).2:=⟨_,rfl⟩;have hfit:=hΦ.fit;have hsmall:=hΦ.small;rw[←hw,←hm]at hfit;rw[←hw]at hsmall;rw[←hw,←hm];refine aD (by kernel_rfl) ?_;refine TQ rI ?_;refine AX (hK _ _ _ ?_);clear hK K;refine aO ?_;refine aC fun K hK=>?_;refine RF ?_;refine aJ (b:=(l[l.length-1-i].k==1)) rfl (fun hb=>?_) (fun hb=>?_)
  ·
   have hk1:l[l.length-1-i].k=1:=by simpa using hb
   obtain⟨hok,hst⟩:=hΦ.leaf hi2 hk1;rw[←hw,←hm]at hst;have hlv:=vQ hp;rw[if_pos hk1,show l.length-1-i+1=l.length-i from by omega]at hlv;have hlb:=yO l (l.length-1-i);have hw1:IntKind.i64.wrap ((lv (l.take (l.length-i)):Int)-1)=((lv (l.take (l.length-1-i)):Nat):Int):=by rw[hlv,cD _ (by omega)];omega
   obtain⟨x,hx⟩: ∃x,x=lv (l.take (l.length-1-i)):=⟨_,rfl⟩;have hxl:l.length-(i+1)=l.length-1-i:=by omega
   rw[←hx]at hw1 hst;clear hb;have F:=aI rI hw1;refine RF ?_;by_cases hlt:x<tr.length
   ·
    by_cases hmw:m=w.length
    ·
     subst hmw;have hg:tr.getD x false=tr[x]:=by simp[hlt]
     refine aC fun K hK=>dW mixed [(0,[],[]),(1,[],[]),(2,[],[]),(3,[],[]),(4,[],[]),(5,[],[]),(6,[],[]),(7,[],[]),(8,[],[]),(9,[],[]),(10,[],[]),(11,[],[]),(12,[],[]),(13,[],[])] [0,0,0,4,14,30,62,62,254,510,1022,2046,4095,8191] (by kernel_rfl) (by kernel_rfl) (by kernel_rfl) (by kernel_rfl) rfl (by kernel_rfl) ?_;iterate 14 refine WG0 ?_ (e:=fun _ h_=>by simp only[sH,↓sP,sA,tyS,simprocAttr,rI,Int.natCast_nonneg,Int.ofNat_lt,hlt,aU hlt,bC,bZ,aY,aS,aR];exact AX h_)
     simp only[sE,↓reduceIte,simprocAttr,rI];refine AX (hK _ _ _ ?_);clear hK K;refine bB ?_;refine TQ rI ?_;clear hK K;rw[hg,aE2]at hst;refine⟨(show Fits 20000 _ _ (fin []) _ 20000 from aM (by omega) trivial ?_),hok⟩;rw[hst,hxl,←hx];simp[aX,fob_at,upd_at,none0_at,bI,HO.men,HV.men,HV.menL,HV.norm,HV.toC,HV.toCL,bZ,bC]
    have hg:tr.getD x false=tr[x]:=by simp[hlt]
    have hmw2:m+1≤w.length:=by omega
    have hw0:0<w.length:=by omega
    have hrow:(lY w m tr[x]).map bC=(w.map bC).take m++[.bool tr[x]]++(w.map bC).drop (m+1):=by simp[lY,List.map_take,List.map_drop,bC]
    refine aC fun K hK=>dW mixed [(0,[],[]),(1,[],[]),(2,[],[]),(3,[],[]),(4,[],[]),(5,[],[]),(6,[],[]),(7,[],[]),(8,[],[]),(9,[],[]),(10,[],[]),(11,[],[]),(12,[],[]),(13,[],[])] [0,0,0,4,14,30,62,62,254,510,1022,2046,4095,8191] (by kernel_rfl) (by kernel_rfl) (by kernel_rfl) (by kernel_rfl) rfl (by kernel_rfl) ?_;iterate 12 refine WG0 ?_ (e:=fun _ h_=>by simp only[sH,↓sP,sA,tyS,simprocAttr,rI,Int.natCast_nonneg,Int.ofNat_lt,hlt,aU hlt,bC,bW hmw,aY,aS,aR,hw0,hmw2];exact AX h_)
    refine cJ (g:=none) rfl rfl fun K' hK'=>?_;simp only[sN,↓hopH.eq_def,sH,↓sP,sA,tyS,simprocAttr,rI,Int.natCast_nonneg,Int.ofNat_lt,hlt,aU hlt,bC,bW hmw,aY,aS,aR,hw0,hmw2];refine AX (hK' _ _ ?_);clear hK' K';refine WG0 ?_ (e:=fun _ h_=>by simp only[sH,↓sP,sA,tyS,simprocAttr,rI,Int.natCast_nonneg,Int.ofNat_lt,hlt,aU hlt,bC,bW hmw,aY,aS,aR,hw0,hmw2];exact AX h_);simp only[sE,↓reduceIte,simprocAttr,rI];refine AX (hK _ _ _ ?_);clear hK K;refine bB ?_;refine TQ rI ?_;clear hK K;rw[hg]at hst;refine⟨(show Fits 20000 _ _ (fin []) _ 20000 from aM (by omega) trivial ?_),hok⟩;rw[hst,hxl,←hx];simp[aX,fob_at,upd_at,none0_at,bI,HO.men,HV.men,HV.menL,HV.norm,HV.toC,HV.toCL,lZ hmw2,hrow,bN,aR]
   by_cases hmw:m=w.length
   ·
    subst hmw;have hg:tr.getD x false=false:=by simp[List.getD_eq_getElem?_getD,List.getElem?_eq_none (Nat.le_of_not_lt hlt)]
    have hlt':decide ((x:Int)<tr.length)=false:=by simp;omega
    refine aC fun K hK=>dW mixed [(0,[],[]),(1,[],[]),(2,[],[]),(3,[],[]),(4,[],[]),(5,[],[]),(6,[],[]),(7,[],[]),(8,[],[]),(9,[],[]),(10,[],[]),(11,[],[]),(12,[],[]),(13,[],[])] [0,0,0,4,14,30,62,62,254,510,1022,2046,4095,8191] (by kernel_rfl) (by kernel_rfl) (by kernel_rfl) (by kernel_rfl) rfl (by kernel_rfl) ?_;have F:=aI rI (aI hlt' (aI @bZ (aI @aY (aI @aS @aR))));iterate 14 refine WGF ?_
    simp only[sE,↓reduceIte,simprocAttr,rI];refine AX (hK _ _ _ ?_);clear hK K;refine bB ?_;refine TQ rI ?_;clear hK K;rw[hg,aE2]at hst;refine⟨(show Fits 20000 _ _ (fin []) _ 20000 from aM (by omega) trivial ?_),hok⟩;rw[hst,hxl,←hx];simp[aX,fob_at,upd_at,none0_at,bI,HO.men,HV.men,HV.menL,HV.norm,HV.toC,HV.toCL,bZ,bC]
   have hg:tr.getD x false=false:=by simp[List.getD_eq_getElem?_getD,List.getElem?_eq_none (Nat.le_of_not_lt hlt)]
   have hlt':decide ((x:Int)<tr.length)=false:=by simp;omega
   have hmw2:m+1≤w.length:=by omega
   have hw0:0<w.length:=by omega
   have hrow:(lY w m false).map bC=(w.map bC).take m++[.bool false]++(w.map bC).drop (m+1):=by simp[lY,List.map_take,List.map_drop,bC]
   refine aC fun K hK=>dW mixed [(0,[],[]),(1,[],[]),(2,[],[]),(3,[],[]),(4,[],[]),(5,[],[]),(6,[],[]),(7,[],[]),(8,[],[]),(9,[],[]),(10,[],[]),(11,[],[]),(12,[],[]),(13,[],[])] [0,0,0,4,14,30,62,62,254,510,1022,2046,4095,8191] (by kernel_rfl) (by kernel_rfl) (by kernel_rfl) (by kernel_rfl) rfl (by kernel_rfl) ?_;iterate 12 refine WG0 ?_ (e:=fun _ h_=>by simp only[sH,↓sP,sA,tyS,simprocAttr,rI,hlt',bW hmw,aY,aS,aR,hw0,hmw2];exact AX h_)
   refine cJ (g:=none) rfl rfl fun K' hK'=>?_;simp only[sN,↓hopH.eq_def,sH,↓sP,sA,tyS,simprocAttr,rI,hlt',bW hmw,aY,aS,aR,hw0,hmw2];refine AX (hK' _ _ ?_);clear hK' K';refine WG0 ?_ (e:=fun _ h_=>by simp only[sH,↓sP,sA,tyS,simprocAttr,rI,hlt',bW hmw,aY,aS,aR,hw0,hmw2];exact AX h_);simp only[sE,↓reduceIte,simprocAttr,rI];refine AX (hK _ _ _ ?_);clear hK K;refine bB ?_;refine TQ rI ?_;clear hK K;rw[hg]at hst;refine⟨(show Fits 20000 _ _ (fin []) _ 20000 from aM (by omega) trivial ?_),hok⟩;rw[hst,hxl,←hx];simp[aX,fob_at,upd_at,none0_at,bI,HO.men,HV.men,HV.menL,HV.norm,HV.toC,HV.toCL,lZ hmw2,hrow,bN,aR]
  have hk1:l[l.length-1-i].k≠1:=by simpa using hb
  obtain⟨hcm,hok,hst⟩:=hΦ.inner ht hi2 hk1;rw[←hw,←hm]at hst;rw[←hm]at hcm;obtain⟨c1,c2,c3,c4⟩:=eL (ht.node _ (List.getElem_mem hp));have c5:=c4 hk1;have hlv:=vQ hp;rw[if_neg hk1,Nat.add_zero,show l.length-1-i+1=l.length-i from by omega]at hlv;have hxl:l.length-(i+1)=l.length-1-i:=by omega
  obtain⟨f,hf⟩: ∃f,f=m-l[l.length-1-i].c.toNat:=⟨_,rfl⟩;have hfc:m-f=l[l.length-1-i].c.toNat:=by omega
  rw[←hf,←hfc]at hst;have hw2:IntKind.i64.wrap ((m:Int)-l[l.length-1-i].c)=(f:Int):=by rw[cD _ (by omega)];omega
  have hf1:f+1≤w.length:=by omega
  have hfw:f≤w.length:=by omega
  have hfm:f≤m:=by omega
  have hw0:0<w.length:=by omega
  obtain⟨h,hh⟩: ∃h,h=iF l[l.length-1-i] ((w.drop f).take (m-f)):=⟨_,rfl⟩;rw[←hh]at hst;have hrow:(lY w f h).map bC=(w.map bC).take f++[.bool h]++(w.map bC).drop (f+1):=by simp[lY,List.map_take,List.map_drop,bC]
  clear hb;refine aN ?_;refine TQ rI ?_;refine AX (hK _ _ _ ?_);clear hK K;by_cases hmw:m=w.length
  ·
   rw[←hmw]at hw0 hf1 hfw;refine aC fun K hK=>Rg ?_;iterate 6 refine S0 ?_ (e:=fun _ h_=>by simp only[sH,↓sP,sA,tyS,simprocAttr,rI,bZ,←hmw,List.length_map,hw2];exact AX h_)
   simp only[sE,↓reduceIte,simprocAttr,rI];refine AX (hK _ _ _ ?_);clear hK K;refine dW mixed [(0,[],[]),(1,[],[]),(2,[],[]),(3,[],[]),(4,[],[]),(5,[],[]),(6,[],[]),(7,[],[0,1,2]),(8,[],[]),(9,[],[]),(10,[],[])] [0,0,3,0,0,0,48,120,248,511,1023] (by kernel_rfl) (by kernel_rfl) (by kernel_rfl) (by kernel_rfl) rfl (by kernel_rfl) ?_;iterate 7 refine WG0 ?_ (e:=fun _ h_=>by simp only[sH,↓sP,sA,tyS,simprocAttr,rI,bZ,aY,aS,aR,←hmw,List.length_map,Int.natCast_nonneg,Int.ofNat_le,hfw];exact AX h_)
   refine pH (g:=none) rfl rfl fun K' hK'=>?_;simp only[sN,↓hopH.eq_def,sH,↓sP,sA,tyS,simprocAttr,rI,bZ,aY,aS,aR,←hmw,List.length_map,Int.natCast_nonneg,Int.ofNat_le,hfw];refine aM9 [48] (aQ9 l[l.length-1-i] w f m (by omega) (by omega) (by omega) (by omega)) (by first|rfl|(rw[←hmw];rfl)) ⟨rfl,trivial⟩ (by simp) ?_ ?_ ?_ ?_ ?_
   ·
    intro j hj
    match j,hj with
    |0,_=>exact .inr ⟨by decide,fun r os' h=>by rw[h.2]⟩
   · exact⟨rfl,rfl,rfl,rfl⟩
   · simp[dL,HO.men]
   · simp[HV.menL,HV.men]
   rintro r os' ⟨rfl,rfl⟩;rw[←hh,show∀n ob,iV (sub [48] n) ob 0 [.row 4 1 (w.map bC)]=upd ob 48 (some (.row 4 1 (w.map bC)))from fun _ _=>rfl,show∀n b,HV.ren (sub [48] n) (.c b)= .c b from fun _ _=>rfl];refine AX (hK' _ _ ?_);clear hK' K';refine WG0 ?_ (e:=fun _ h_=>by simp only[sH,↓sP,sA,tyS,simprocAttr,rI,bZ,aY,aS,aR,←hmw,List.length_map,Int.natCast_nonneg,Int.ofNat_le,hfw];exact AX h_);refine cJ (g:=none) rfl rfl fun K' hK'=>?_;simp only[sN,↓hopH.eq_def,sH,↓sP,sA,tyS,simprocAttr,rI,bZ,aY,aS,aR,←hmw,List.length_map,Int.natCast_nonneg,Int.ofNat_le,hfw];refine AX (hK' _ _ ?_);clear hK' K';refine WG0 ?_ (e:=fun _ h_=>by simp only[sH,↓sP,sA,tyS,simprocAttr,rI,bZ,aY,aS,aR,←hmw,List.length_map,Int.natCast_nonneg,Int.ofNat_le,hfw];exact AX h_);simp only[sE,↓reduceIte,simprocAttr,rI];refine⟨(show Fits 20000 _ _ (fin []) _ 20000 from aM (by omega) trivial ?_),hok⟩;rw[hst,hxl,hlv];simp[aX,fob_at,upd_at,none0_at,bI,HO.men,HV.men,HV.menL,HV.norm,HV.toC,HV.toCL,lZ (show f+1≤w.length by omega),hrow,bN,aR,←hmw]
  refine aC fun K hK=>Rg ?_;iterate 6 refine S0 ?_ (e:=fun _ h_=>by simp only[sH,↓sP,sA,tyS,simprocAttr,rI,bW hmw,List.length_map,hw0,hfit,Nat.zero_le,List.length_take,List.length_drop,Nat.sub_zero,Nat.min_eq_left hfit,hw2];exact AX h_)
  simp only[sE,↓reduceIte,simprocAttr,rI];refine AX (hK _ _ _ ?_);clear hK K;refine dW mixed [(0,[],[]),(1,[],[]),(2,[],[]),(3,[],[]),(4,[],[]),(5,[],[]),(6,[],[]),(7,[],[0,1,2]),(8,[],[]),(9,[],[]),(10,[],[])] [0,0,3,0,0,0,48,120,248,511,1023] (by kernel_rfl) (by kernel_rfl) (by kernel_rfl) (by kernel_rfl) rfl (by kernel_rfl) ?_;iterate 2 refine WG0 ?_ (e:=fun _ h_=>by simp only[sH,↓sP,sA,tyS,simprocAttr,rI,aY,aS,aR,bW hmw,List.length_map,Int.natCast_nonneg,Int.ofNat_le,hfw,hfm];exact AX h_)
  refine cJ (g:=none) rfl rfl fun K' hK'=>?_;simp only[sN,↓hopH.eq_def,sH,↓sP,sA,tyS,simprocAttr,rI,aY,aS,aR,bW hmw,List.length_map,Int.natCast_nonneg,Int.ofNat_le,hfw,hfm];refine AX (hK' _ _ ?_);clear hK' K';iterate 3 refine WG0 ?_ (e:=fun _ h_=>by simp only[sH,↓sP,sA,tyS,simprocAttr,rI,aY,aS,aR,bW hmw,List.length_map,Int.natCast_nonneg,Int.ofNat_le,hfw,hfm];exact AX h_)
  refine cJ (g:=none) rfl rfl fun K' hK'=>?_;simp only[sN,↓hopH.eq_def,sH,↓sP,sA,tyS,simprocAttr,rI,aY,aS,aR,bW hmw,List.length_map,Int.natCast_nonneg,Int.ofNat_le,hfw,hfm];refine AX (hK' _ _ ?_);clear hK' K';refine pH (g:=none) rfl rfl fun K' hK'=>?_;simp only[sN,↓hopH.eq_def,sH,↓sP,sA,tyS,simprocAttr,rI,aY,aS,aR,bW hmw,List.length_map,Int.natCast_nonneg,Int.ofNat_le,hfw,hfm];refine aM9 [48] (aQ9 l[l.length-1-i] w f m (by omega) (by omega) (by omega) (by omega)) (by first|rfl|(rw[←hmw];rfl)) ⟨rfl,trivial⟩ (by simp) ?_ ?_ ?_ ?_ ?_
  ·
   intro j hj
   match j,hj with
   |0,_=>exact .inr ⟨by decide,fun r os' h=>by rw[h.2]⟩
  · exact⟨rfl,rfl,rfl,rfl⟩
  · simp[dL,HO.men]
  · simp[HV.menL,HV.men]
  rintro r os' ⟨rfl,rfl⟩;rw[←hh,show∀n ob,iV (sub [48] n) ob 0 [.row 4 1 (w.map bC)]=upd ob 48 (some (.row 4 1 (w.map bC)))from fun _ _=>rfl,show∀n b,HV.ren (sub [48] n) (.c b)= .c b from fun _ _=>rfl];refine AX (hK' _ _ ?_);clear hK' K';refine WG0 ?_ (e:=fun _ h_=>by simp only[sH,↓sP,sA,tyS,simprocAttr,rI,aY,aS,aR,bW hmw,List.length_map,Int.natCast_nonneg,Int.ofNat_le,hfw,hfm];exact AX h_);refine cJ (g:=none) rfl rfl fun K' hK'=>?_;simp only[sN,↓hopH.eq_def,sH,↓sP,sA,tyS,simprocAttr,rI,aY,aS,aR,bW hmw,List.length_map,Int.natCast_nonneg,Int.ofNat_le,hfw,hfm];refine AX (hK' _ _ ?_);clear hK' K';refine WG0 ?_ (e:=fun _ h_=>by simp only[sH,↓sP,sA,tyS,simprocAttr,rI,aY,aS,aR,bW hmw,List.length_map,Int.natCast_nonneg,Int.ofNat_le,hfw,hfm];exact AX h_);simp only[sE,↓reduceIte,simprocAttr,rI];refine⟨(show Fits 20000 _ _ (fin []) _ 20000 from aM (by omega) trivial ?_),hok⟩;rw[hst,hxl,hlv];simp[aX,fob_at,upd_at,none0_at,bI,HO.men,HV.men,HV.menL,HV.norm,HV.toC,HV.toCL,lZ hf1,hrow,bN,aR]
 intro hΦ;simp only[sE,↓reduceIte,simprocAttr,rI];have hfin:=hΦ;rw[sO]at hfin;obtain⟨h1,h0,h2⟩:=hfin.fin ht;rw[sO,h1];obtain⟨w,hw⟩: ∃w,w=(cL l tr l.length).1:=⟨_,rfl⟩;rw[←hw]at h0;have h3:eD l tr=w[0]:=by rw[h2];simp only[hw]
 rw[←hw];refine AX (hK _ _ _ ?_);clear hK K;by_cases hw1:w.length=1
 ·
  rw[hw1];refine aC fun K hK=>Rg ?_;iterate 4 refine S0 ?_ (e:=fun _ h_=>by simp only[sH,↓sP,sA,tyS,simprocAttr,rI,bZ,aU h0,bC,Nat.lt_irrefl];exact AX h_)
  simp only[sE,↓reduceIte,simprocAttr,rI];refine AX (hK _ _ _ ?_);clear hK K;refine aH ?_;simp only[bK,Tryz.results18,bH,bJ,bG,↓sP,sA,tyS,simprocAttr,rI];exact aK [] (.bool w[0]) rfl (by rw[h3])
 refine aC fun K hK=>Rg ?_;iterate 4 refine S0 ?_ (e:=fun _ h_=>by simp only[sH,↓sP,sA,tyS,simprocAttr,rI,bW (Ne.symm hw1),aU h0,bC,h0];exact AX h_)
 simp only[sE,↓reduceIte,simprocAttr,rI];refine AX (hK _ _ _ ?_);clear hK K;refine aH ?_;simp only[bK,Tryz.results18,bH,bJ,bG,↓sP,sA,tyS,simprocAttr,rI];exact aK [] (.bool w[0]) rfl (by rw[h3])
theorem bY6 (S:List Sp)(hl:S.length<2^40):cF Tryz.prog 19 [.slc (S.map Sp.cv)] (fun v=>v= .slc ((cG S).map bC)):=by
 refine bQ Tryz.func19 rfl (by kernel_rfl) (cR _) (Nat.le_of_ble_eq_true rfl) ?_;refine aC fun K hK=>aD (by kernel_rfl) ?_;simp (maxSteps:=4000000) only[↓sP,sA,tyS,simprocAttr,rpost_exit,rpost_normal,rpost_ret,hscope_exit,hscope_normal,hscope_ret,ithen_normal,ithen_exit,ithen_ret,iblk_normal,iblk_exit,iblk_ret];repeat refine AI ?_
 refine hK _ _ _ ?_;clear hK K;refine aC fun K hK=>aD (by kernel_rfl) ?_;simp (maxSteps:=4000000) only[↓sP,sA,tyS,simprocAttr,rpost_exit,rpost_normal,rpost_ret,hscope_exit,hscope_normal,hscope_ret,ithen_normal,ithen_exit,ithen_ret,iblk_normal,iblk_exit,iblk_ret];repeat refine AI ?_
 refine hK _ _ _ ?_;clear hK K;refine aC fun K hK=>?_;refine aC fun K hK=>aD (by kernel_rfl) ?_;simp (maxSteps:=4000000) only[↓sP,sA,tyS,simprocAttr,rpost_exit,rpost_normal,rpost_ret,hscope_exit,hscope_normal,hscope_ret,ithen_normal,ithen_exit,ithen_ret,iblk_normal,iblk_exit,iblk_ret];repeat refine AI ?_
 refine hK _ _ _ ?_;clear hK K;refine aO ?_;refine iZ 3 0 4 1 rfl rfl rfl rfl ?_;refine bP (α:={i:Nat//i≤S.length}) (fun i=>(fin [(3,.own 20 i.1),(6,.c (.slc (S.map Sp.cv))),(7,.c (.int .i64 S.length)),(8,.c (.int .i64 i.1))],fob [(20,.row 4 1 ((cG (S.take i.1)).map bC))])) 100 (fun i=>S.length-i.1) ⟨0,by omega⟩ (aM (by omega) (by simp[aW,fin_at,finA_at,upd_at,HV.men,HV.menL,HV.norm,HV.toC,HV.toCL,cG]) (by simp[aX,fob_at,upd_at,none0_at,bI,HO.men,HV.men,HV.menL,HV.norm,HV.toC,HV.toCL,cG])) ?_;rintro⟨i,hi⟩;have hti:(cG (S.take i)).length=i:=by simp[cG];omega
 refine aC fun K hK=>aD (by kernel_rfl) ?_;simp (maxSteps:=4000000) only[↓sP,sA,tyS,simprocAttr,rpost_exit,rpost_normal,rpost_ret,hscope_exit,hscope_normal,hscope_ret,ithen_normal,ithen_exit,ithen_ret,iblk_normal,iblk_exit,iblk_ret];repeat refine AI ?_
 refine hK _ _ _ ?_;clear hK K;refine aC fun K hK=>?_;refine aJ (b:=decide ((i:Int)<S.length)) rfl (fun hb=>?_) (fun hb=>?_)
 ·
  have hlt:i<S.length:=by simpa using hb
  have hsn:cG (S.take (i+1))=cG (S.take i)++[S[i].h]:=by rw[List.take_succ_eq_append_getElem hlt];unfold cG;rw[List.map_append];rfl
  clear hb;refine aN ?_;simp (maxSteps:=4000000) only[↓sP,sA,tyS,simprocAttr,rpost_exit,rpost_normal,rpost_ret,hscope_exit,hscope_normal,hscope_ret,ithen_normal,ithen_exit,ithen_ret,iblk_normal,iblk_exit,iblk_ret];repeat refine AI ?_
  refine hK _ _ _ ?_;clear hK K;refine aC fun K hK=>?_;refine aO ?_;refine aC fun K hK=>aD (by kernel_rfl) ?_;simp only[sR,simprocAttr];iterate 4
   (refine aE (g:=none) rfl rfl fun K' hK'=>?_;simp only[sH,↓sP,sA,tyS,simprocAttr,rpost_exit,rpost_normal,rpost_ret,hscope_exit,hscope_normal,hscope_ret,ithen_normal,ithen_exit,ithen_ret,iblk_normal,iblk_exit,iblk_ret,Int.natCast_nonneg,Int.ofNat_lt,hlt,aU hlt];(repeat refine AI ?_);refine hK' _ _ ?_;clear hK' K')
  simp only[sE,↓reduceIte,simprocAttr,rpost_exit,rpost_normal,rpost_ret,hscope_exit,hscope_normal,hscope_ret,ithen_normal,ithen_exit,ithen_ret,iblk_normal,iblk_exit,iblk_ret];repeat refine AI ?_
  refine hK _ _ _ ?_;clear hK K;refine aD (by kernel_rfl) ?_;simp only[sR,simprocAttr];iterate 6
   (refine aE (g:=none) rfl rfl fun K' hK'=>?_;simp only[sH,↓sP,sA,tyS,simprocAttr,rpost_exit,rpost_normal,rpost_ret,hscope_exit,hscope_normal,hscope_ret,ithen_normal,ithen_exit,ithen_ret,iblk_normal,iblk_exit,iblk_ret,hti];(repeat refine AI ?_);refine hK' _ _ ?_;clear hK' K')
  simp only[sE,↓reduceIte,simprocAttr,rpost_exit,rpost_normal,rpost_ret,hscope_exit,hscope_normal,hscope_ret,ithen_normal,ithen_exit,ithen_ret,iblk_normal,iblk_exit,iblk_ret];repeat refine AI ?_
  refine hK _ _ _ ?_;clear hK K;refine aD (by kernel_rfl) ?_;simp (maxSteps:=4000000) only[↓sP,sA,tyS,simprocAttr,rpost_exit,rpost_normal,rpost_ret,hscope_exit,hscope_normal,hscope_ret,ithen_normal,ithen_exit,ithen_ret,iblk_normal,iblk_exit,iblk_ret,IntWalk.i64_in _ (show-9223372036854775808≤(i:Int)+1∧(i:Int)+1≤9223372036854775807 by omega)];refine⟨⟨i+1,by omega⟩,(aM (by omega) (by simp[aW,fin_at,finA_at,upd_at,HV.men,HV.menL,HV.norm,HV.toC,HV.toCL,hsn,bC,hti]) (by simp[aX,fob_at,upd_at,none0_at,bI,HO.men,HV.men,HV.menL,HV.norm,HV.toC,HV.toCL,hsn,bC,hti])),?_⟩;show S.length-(i+1)<S.length-i;omega
 have hie:i=S.length:=by simp at hb;omega
 subst hie;refine bB ?_;simp (maxSteps:=4000000) only[↓sP,sA,tyS,simprocAttr,rpost_exit,rpost_normal,rpost_ret,hscope_exit,hscope_normal,hscope_ret,ithen_normal,ithen_exit,ithen_ret,iblk_normal,iblk_exit,iblk_ret];clear hK K;repeat refine AI ?_
 refine hK _ _ _ ?_;clear hK K;refine aC fun K hK=>aD (by kernel_rfl) ?_;simp (maxSteps:=4000000) only[↓sP,sA,tyS,simprocAttr,rpost_exit,rpost_normal,rpost_ret,hscope_exit,hscope_normal,hscope_ret,ithen_normal,ithen_exit,ithen_ret,iblk_normal,iblk_exit,iblk_ret];repeat refine AI ?_
 refine hK _ _ _ ?_;clear hK K;refine aH ?_;simp (maxSteps:=4000000) only[bK,Tryz.results19,bH,bJ,bG,↓sP,sA,tyS,simprocAttr,rpost_exit,rpost_normal,rpost_ret,hscope_exit,hscope_normal,hscope_ret,ithen_normal,ithen_exit,ithen_ret,iblk_normal,iblk_exit,iblk_ret];have htl:(cG S).length=S.length:=by simp[cG]
 exact aK [20] (.slc ((cG S).map bC)) (by simp[HV.close,fob_at,upd_at,HV.norm,HV.toC,htl,List.take_length]) rfl
theorem bL8 (l:List Nat)(x:Nat)(hl:l.length<2^40):cF Tryz.prog 103 [.slc (l.map iC),.int .i64 x] (fun v=> ∀k,(∀j,j<k→l[j]? ≠some x)→l[k]? =some x→v= .int .i64 (k:Nat)):=by
 refine bQ Tryz.func103 rfl (by kernel_rfl) (cR _) (Nat.le_of_ble_eq_true rfl) ?_;refine aC fun K hK=>aD (by kernel_rfl) ?_;simp (maxSteps:=4000000) only[↓sP,sA,tyS,simprocAttr,rpost_exit,rpost_normal,rpost_ret,hscope_exit,hscope_normal,hscope_ret,ithen_normal,ithen_exit,ithen_ret,iblk_normal,iblk_exit,iblk_ret];repeat refine AI ?_
 refine hK _ _ _ ?_;clear hK K;refine aC fun K hK=>?_;refine aC fun K hK=>aD (by kernel_rfl) ?_;simp (maxSteps:=4000000) only[↓sP,sA,tyS,simprocAttr,rpost_exit,rpost_normal,rpost_ret,hscope_exit,hscope_normal,hscope_ret,ithen_normal,ithen_exit,ithen_ret,iblk_normal,iblk_exit,iblk_ret];repeat refine AI ?_
 refine hK _ _ _ ?_;clear hK K;refine aO ?_;refine bP (α:={i:Nat//i≤l.length∧ ∀j,j<i→l[j]? ≠some x}) (fun i=>(fin [(0,.c (.slc (l.map iC))),(1,.c (.int .i64 x)),(7,.c (.int .i64 l.length)),(8,.c (.int .i64 i.1))],fob [])) 100 (fun i=>l.length-i.1) ⟨0,by omega,fun j h=>by omega⟩ (aM (by omega) (by simp[aW,fin_at,finA_at,upd_at,HV.men,HV.menL,HV.norm,HV.toC,HV.toCL]) (by simp[aX,fob_at,upd_at,none0_at,bI,HO.men,HV.men,HV.menL,HV.norm,HV.toC,HV.toCL])) ?_;rintro⟨i,hi,hno⟩;refine aC fun K hK=>aD (by kernel_rfl) ?_;simp (maxSteps:=4000000) only[↓sP,sA,tyS,simprocAttr,rpost_exit,rpost_normal,rpost_ret,hscope_exit,hscope_normal,hscope_ret,ithen_normal,ithen_exit,ithen_ret,iblk_normal,iblk_exit,iblk_ret];repeat refine AI ?_
 refine hK _ _ _ ?_;clear hK K;refine aC fun K hK=>?_;refine aJ (b:=decide ((i:Int)<l.length)) rfl (fun hb=>?_) (fun hb=>?_)
 ·
  have hlt:i<l.length:=by simpa using hb
  clear hb;refine aN ?_;simp (maxSteps:=4000000) only[↓sP,sA,tyS,simprocAttr,rpost_exit,rpost_normal,rpost_ret,hscope_exit,hscope_normal,hscope_ret,ithen_normal,ithen_exit,ithen_ret,iblk_normal,iblk_exit,iblk_ret];repeat refine AI ?_
  refine hK _ _ _ ?_;clear hK K;refine aC fun K hK=>?_;refine aO ?_;refine aC fun K hK=>aD (by kernel_rfl) ?_;simp (maxSteps:=4000000) only[↓sP,sA,tyS,simprocAttr,rpost_exit,rpost_normal,rpost_ret,hscope_exit,hscope_normal,hscope_ret,ithen_normal,ithen_exit,ithen_ret,iblk_normal,iblk_exit,iblk_ret];repeat refine AI ?_
  refine hK _ _ _ ?_;clear hK K;refine aC fun K hK=>aD (by kernel_rfl) ?_;simp only[sR,simprocAttr];iterate 6
   (refine aE (g:=none) rfl rfl fun K' hK'=>?_;simp only[sH,↓sP,sA,tyS,simprocAttr,rpost_exit,rpost_normal,rpost_ret,hscope_exit,hscope_normal,hscope_ret,ithen_normal,ithen_exit,ithen_ret,iblk_normal,iblk_exit,iblk_ret,Int.natCast_nonneg,Int.ofNat_lt,hlt,aU hlt,iC];(repeat refine AI ?_);refine hK' _ _ ?_;clear hK' K')
  simp only[sE,↓reduceIte,simprocAttr,rpost_exit,rpost_normal,rpost_ret,hscope_exit,hscope_normal,hscope_ret,ithen_normal,ithen_exit,ithen_ret,iblk_normal,iblk_exit,iblk_ret];repeat refine AI ?_
  refine hK _ _ _ ?_;clear hK K;refine aJ (b:=((x:Int)==(l[i]:Int))) rfl (fun hb=>?_) (fun hb=>?_)
  ·
   refine aC fun K hK=>aD (by kernel_rfl) ?_;simp (maxSteps:=4000000) only[↓sP,sA,tyS,simprocAttr,rpost_exit,rpost_normal,rpost_ret,hscope_exit,hscope_normal,hscope_ret,ithen_normal,ithen_exit,ithen_ret,iblk_normal,iblk_exit,iblk_ret];repeat refine AI ?_
   refine hK _ _ _ ?_;clear hK K;refine aH ?_;simp (maxSteps:=4000000) only[bK,Tryz.results103,bH,bJ,bG,↓sP,sA,tyS,simprocAttr,rpost_exit,rpost_normal,rpost_ret,hscope_exit,hscope_normal,hscope_ret,ithen_normal,ithen_exit,ithen_ret,iblk_normal,iblk_exit,iblk_ret];have hx:l[i]=x:=by
    have:(x:Int)=l[i]:=by simpa using hb
    omega
   exact aK [] (.int .i64 (i:Nat)) rfl (fun k h1 h2=>by
    have e1: ¬i<k:=fun h=>h1 i h (by rw[List.getElem?_eq_getElem hlt,hx]);have e2: ¬k<i:=fun h=>hno k h h2;rw[show k=i by omega])
  refine aN ?_;simp (maxSteps:=4000000) only[↓sP,sA,tyS,simprocAttr,rpost_exit,rpost_normal,rpost_ret,hscope_exit,hscope_normal,hscope_ret,ithen_normal,ithen_exit,ithen_ret,iblk_normal,iblk_exit,iblk_ret];repeat refine AI ?_
  refine hK _ _ _ ?_;clear hK K;refine aD (by kernel_rfl) ?_;simp (maxSteps:=4000000) only[↓sP,sA,tyS,simprocAttr,rpost_exit,rpost_normal,rpost_ret,hscope_exit,hscope_normal,hscope_ret,ithen_normal,ithen_exit,ithen_ret,iblk_normal,iblk_exit,iblk_ret,IntWalk.i64_in _ (show-9223372036854775808≤(i:Int)+1∧(i:Int)+1≤9223372036854775807 by omega)];refine⟨⟨i+1,by omega,fun j h=>?_⟩,aM (by omega) (by simp[aW,fin_at,finA_at,upd_at,HV.men,HV.menL,HV.norm,HV.toC,HV.toCL]) (by simp[aX,fob_at,upd_at,none0_at,bI,HO.men,HV.men,HV.menL,HV.norm,HV.toC,HV.toCL]),?_⟩
  ·
   by_cases e:j=i
   ·
    subst e;have hx: ¬(x:Int)=l[j]:=by simpa using hb
    rw[List.getElem?_eq_getElem hlt];intro h;cases h;exact hx rfl
   exact hno j (by omega)
  show l.length-(i+1)<l.length-i;omega
 have hie:i=l.length:=by simp at hb;omega
 subst hie;refine bB ?_;simp (maxSteps:=4000000) only[↓sP,sA,tyS,simprocAttr,rpost_exit,rpost_normal,rpost_ret,hscope_exit,hscope_normal,hscope_ret,ithen_normal,ithen_exit,ithen_ret,iblk_normal,iblk_exit,iblk_ret];clear hK K;repeat refine AI ?_
 refine hK _ _ _ ?_;clear hK K;refine aC fun K hK=>aD (by kernel_rfl) ?_;simp (maxSteps:=4000000) only[↓sP,sA,tyS,simprocAttr,rpost_exit,rpost_normal,rpost_ret,hscope_exit,hscope_normal,hscope_ret,ithen_normal,ithen_exit,ithen_ret,iblk_normal,iblk_exit,iblk_ret];repeat refine AI ?_
 refine hK _ _ _ ?_;clear hK K;refine aH ?_;simp (maxSteps:=4000000) only[bK,Tryz.results103,bH,bJ,bG,↓sP,sA,tyS,simprocAttr,rpost_exit,rpost_normal,rpost_ret,hscope_exit,hscope_normal,hscope_ret,ithen_normal,ithen_exit,ithen_ret,iblk_normal,iblk_exit,iblk_ret];exact aK [] (.int .i64 (-1)) rfl (fun k h1 h2=>by
  have:=(List.getElem?_eq_some_iff.1 h2).1;exact absurd h2 (hno k this))
end Go.Proofs.YthedbjfipmkpiaaGreatDoor
