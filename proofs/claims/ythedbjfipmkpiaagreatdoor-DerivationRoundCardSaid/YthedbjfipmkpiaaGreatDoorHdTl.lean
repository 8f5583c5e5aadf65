/- Part of a proof: walks of functions of the program, by contracts, and the rules they use. By an AI agent. -/
import Derived.Test.YthedbjfipmkpiaaGreatDoorPl11c
import Derived.Test.YthedbjfipmkpiaaGreatDoorHdTf
import Derived.Test.YthedbjfipmkpiaaGreatDoorHdSb
import Derived.Test.YthedbjfipmkpiaaGreatDoorHlIt
import Derived.Test.YthedbjfipmkpiaaGreatDoorPl31h
set_option linter.unusedSimpArgs false
set_option linter.unusedVariables false
set_option linter.defProp false
namespace Go.Proofs.YthedbjfipmkpiaaGreatDoor
open Go Go.Hl Go.Pl
set_option maxRecDepth 10000
set_option maxHeartbeats 16000000
def iC (n:Nat):CV:= .int .i64 n
theorem cO (l:List Nat):CV.denilL (l.map iC)=l.map iC:=bZ (fun _=>rfl) l
theorem cA7 (l:List Nd)(ht:IsTree l)(i:Nat)(hi:i<l.length):cE Tryz.prog 105 [.slc (l.map Nd.cv),.int .i64 i] (fun v=>v= .int .i64 (aft l i:Nat)):=by
 have hl:=ht.len;refine FW Tryz.func105 ?_;refine R0 ?_;refine aC fun K hK=>?_;refine R0 ?_;refine aN ?_;refine bH (α:={y:Nat×Nat//AftSt l i y.1 y.2∧y.1≤1+60*y.2}) (fun y=>(fin [(0,.c (.slc (l.map Nd.cv))),(1,.c (.int .i64 y.1.2)),(5,.c (.int .i64 y.1.1))],fob [])) 100 (fun y=>l.length-y.1.2) ⟨(1,i),⟨Nat.le_of_lt hi,rfl⟩,by omega⟩ (fF) ?_;rintro⟨⟨m,p⟩,hst,hm⟩;simp only at hst hm;have hp:=hst.1;refine aC fun K hK=>?_;refine R0 ?_;refine aK (b:=decide ((0:Int)<(m:Int))) rfl (fun hb=>?_) (fun hb=>?_)
 ·
  have hm1:0<m:=by simpa using hb
  have hpl:=hst.lt ht hi hm1;obtain⟨c1,c2,_,_⟩:=eS (ht.node _ (List.getElem_mem hpl));obtain⟨m',rfl⟩: ∃m',m=m'+1:=⟨m-1,by omega⟩;have hnx:=hst.next hpl;have hw1:IntKind.i64.wrap (((m'+1:Nat):Int)+(l[p].c-1))=((m'+l[p].c.toNat:Nat):Int):=by rw[cC _ (by omega)];omega
  have hw2:IntKind.i64.wrap ((p:Int)+1)=((p+1:Nat):Int):=by rw[cC _ (by omega)];rfl
  clear hb;refine aM ?_;refine T0 (hK _ _ _ ?_);clear hK K;refine aC fun K hK=>?_;refine aN ?_;refine Rg ?_;iterate 9 refine S0 ?_ (e:=fun _ h_=>by simp only[sH,↓sP,sA,tyS,simprocAttr,Int.natCast_nonneg,Int.ofNat_lt,hpl,bK hpl,cC (l[p].c-1) (by omega),hw1];exact AX h_)
  refine T2 (hK _ _ _ ?_);clear hK K;refine aE (by kernel_rfl) ?_;refine TQ hw2 ?_;refine⟨⟨(m'+l[p].c.toNat,p+1),hnx,by simp only;omega⟩,fF,?_⟩;show l.length-(p+1)<l.length-p;omega
 refine aZ (T3 ?_);clear hK K;refine AX (hK _ _ _ ?_);clear hK K;refine R0 ?_;refine aH (RT Tryz.results105 ?_);have hm0:m=0:=by simpa using hb
 subst hm0;exact aJ [] (.int .i64 p) rfl (by rw[hst.fin])
theorem aT2 (l:List Nd)(hn: ∀n∈l,n.q.t.length<2^63)(i:Int):cE Tryz.prog 75 [.slc (l.map Nd.cv),.int .i64 i] (fun v=>v= .slc ((nS l i).map iC)):=by
 refine FW Tryz.func75 ?_;refine R0 ?_;refine aC fun K hK=>?_;refine aC fun K hK=>Rg ?_;refine S0 ?_;refine HS rfl rfl fun K' hK'=>T5 ?_;refine C1 (bG4 l hn) ?_;rintro u rfl;refine AX (hK' _ _ ?_);clear hK' K';iterate 2 refine S0 ?_
 refine aG 8 rfl (fun h1_8=>?_) (fun h1_8=>?_)
 ·
  have F:=h1_8;iterate 4 refine SF ?_
  refine aG 12 rfl (fun h1_12=>?_) (fun h1_12=>?_)
  ·
   have F:=aI h1_8 h1_12;iterate 5 refine SF ?_
   refine T2 (hK _ _ _ ?_);clear hK K;refine CT rfl ?_;refine R0 ?_;refine aH (RT Tryz.results75 ?_);exact aJ [] (.slc []) rfl (by rw[jA (.inr (.inl (by simpa using h1_12)))];rfl)
  have F:=aI h1_8 h1_12;iterate 5 refine SF ?_
  refine aG 18 rfl (fun h1_18=>?_) (fun h1_18=>?_)
  · simp only[h1_18];refine T2 (hK _ _ _ ?_);clear hK K;refine CT rfl ?_;refine R0 ?_;refine aH (RT Tryz.results75 ?_);exact aJ [] (.slc []) rfl (by rw[jA (.inr (.inr (by simpa using h1_18)))];rfl)
  simp only[h1_18];refine T2 (hK _ _ _ ?_);clear hK K;refine CF rfl ?_;refine aM ?_;refine T0 (hK _ _ _ ?_);clear hK K;obtain⟨j,rfl⟩: ∃j:Nat,i=j:=⟨i.toNat,by simp at h1_12;omega⟩;have hj:j<l.length:=by simp at h1_18;omega
  have ht:=eT h1_8;have hcv:=pE h1_8 hj;have hl:=ht.len;obtain⟨c1,c2,_,_⟩:=eS (ht.node _ (List.getElem_mem hj));have hw2:IntKind.i64.wrap ((j:Int)+1)=((j+1:Nat):Int):=by rw[cC _ (by omega)];rfl
  clear h1_8 h1_12 h1_18;refine R0 ?_;refine aC fun K hK=>?_;have F:=hw2;refine RF ?_;refine aN ?_;refine jI 5 0 3 1 rfl rfl rfl rfl ?_;refine bH (α:={k:Nat//k≤l[j].c.toNat}) (fun k=>(fin [(0,.c (.slc (l.map Nd.cv))),(1,.c (.int .i64 j)),(5,.own 72 k.1),(6,.c (.int .i64 (cB l k.1 (j+1):Nat)))],fob [(72,.row 3 1 ((cY l k.1 (j+1)).map iC))])) 200 (fun k=>l[j].c.toNat-k.1) ⟨0,by omega⟩ (aO (by omega) (by simp[aX,fin_at,finA_at,upd_at,HV.men,HV.menL,HV.norm,HV.toC,HV.toCL,cY,cB]) (by simp[aY,fob_at,upd_at,none0_at,bO,HO.men,HV.men,HV.menL,HV.norm,HV.toC,HV.toCL,cY,cB])) ?_;rintro⟨k,hk⟩;have hkl:=iS l k (j+1);refine aC fun K hK=>?_;refine aC fun K hK=>Rg ?_;have F:=aI @Int.natCast_nonneg (aI @Int.ofNat_lt (aI hj (aI (nM hj) hkl)));iterate 8 refine SF ?_
  refine T2 (hK _ _ _ ?_);clear hK K;refine aK (b:=decide ((k:Int)<l[j].c)) rfl (fun hb=>?_) (fun hb=>?_)
  ·
   have hkc:k<l[j].c.toNat:=by simp only[decide_eq_true_eq]at hb;omega
   have hkp:=gQ ht hj hkc;have e:(cY l (k+1) (j+1)).map iC=(cY l k (j+1)).map iC++[CV.int .i64 (cB l k (j+1):Nat)]:=by rw[gA,List.map_append];rfl
   refine aM ?_;refine T0 (hK _ _ _ ?_);clear hK K;refine aC fun K hK=>?_;refine aN ?_;refine Rg ?_;have F:=hkl;iterate 5 refine SF ?_
   refine T2 (hK _ _ _ ?_);clear hK K;refine Rg ?_;iterate 2 refine S0 ?_
   refine HS rfl rfl fun K' hK'=>T5 ?_;refine C2 (cA7 l ht _ hkp) ?_;rintro u rfl;refine AX (hK' _ _ ?_);clear hK' K';refine S0 ?_;refine T4 ?_;refine⟨⟨k+1,hkc⟩,aO (by omega) (by simp[aX,fin_at,finA_at,upd_at,HV.men,HV.menL,HV.norm,HV.toC,HV.toCL,e,hkl,cK]) (by simp[aY,fob_at,upd_at,none0_at,bO,HO.men,HV.men,HV.menL,HV.norm,HV.toC,HV.toCL,e,hkl,cK]),?_⟩;show l[j].c.toNat-(k+1)<l[j].c.toNat-k;omega
  refine aZ (T3 ?_);clear hK K;refine AX (hK _ _ _ ?_);clear hK K;refine R0 ?_;refine aH (RT Tryz.results75 ?_);have hkc:k=l[j].c.toNat:=by simp only[decide_eq_false_iff_not]at hb;omega
  subst hkc;exact aJ [72] (.slc ((cY l l[j].c.toNat (j+1)).map iC)) (by simp[HV.close,fob_at,hkl,HV.norm,HV.toC,cO,CV.denil]) (by rw[hcv])
 have F:=h1_8;iterate 9 refine SF ?_
 refine T2 (hK _ _ _ ?_);clear hK K;refine CT rfl ?_;refine R0 ?_;refine aH (RT Tryz.results75 ?_);exact aJ [] (.slc []) rfl (by rw[jA (.inl h1_8)];rfl)
theorem uF (l:List Nd)(hn: ∀n∈l,n.q.t.length<2^63):cE Tryz.prog 29 [.slc (l.map Nd.cv)] (fun v=>v= .slc ((dN l).map iC)):=by
 refine FW Tryz.func29 ?_;refine R0 ?_;refine aC fun K hK=>?_;refine aC fun K hK=>Rg ?_;refine S0 ?_;refine HS rfl rfl fun K' hK'=>T5 ?_;refine C1 (bG4 l hn) ?_;rintro u rfl;refine AX (hK' _ _ ?_);clear hK' K';refine S0 ?_;refine T2 (hK _ _ _ ?_);clear hK K;refine aK (b:=!dU l) rfl (fun hb=>?_) (fun hb=>?_)
 · refine R0 ?_;refine aH (RT Tryz.results29 ?_);exact aJ [] (.slc []) rfl (by rw[vK (by simpa using hb)];rfl)
 have h8:dU l=true:=by simpa using hb
 have ht:=eT h8;have hlv:=kN h8;have hl:=ht.len;clear hb;refine aM ?_;refine T0 (hK _ _ _ ?_);clear hK K;refine R0 ?_;refine aC fun K hK=>?_;refine R0 ?_;refine aN ?_;refine jI 3 0 3 1 rfl rfl rfl rfl ?_;refine bH (α:={i:Nat//i≤l.length}) (fun i=>(fin [(3,.own 32 (eG 0 (l.take i.1)).length),(9,.c (.slc (l.map Nd.cv))),(10,.c (.int .i64 l.length)),(11,.c (.int .i64 i.1))],fob [(32,.row 3 1 ((eG 0 (l.take i.1)).map iC))])) 200 (fun i=>l.length-i.1) ⟨0,by omega⟩ (aO (by omega) (by simp[aX,fin_at,finA_at,upd_at,HV.men,HV.menL,HV.norm,HV.toC,HV.toCL,eG]) (by simp[aY,fob_at,upd_at,none0_at,bO,HO.men,HV.men,HV.menL,HV.norm,HV.toC,HV.toCL,eG])) ?_;rintro⟨i,hi⟩;have hfl:(eG 0 (l.take i)).length≤i:=by rw[gE];have:=bC7 (l.take i);simp at this;omega
 refine R0 ?_;refine aC fun K hK=>?_;refine aK (b:=decide ((i:Int)<l.length)) rfl (fun hb=>?_) (fun hb=>?_)
 ·
  have hlt:i<l.length:=by simpa using hb
  have e:=aX2 hlt;clear hb;refine aM ?_;refine T0 (hK _ _ _ ?_);clear hK K;refine aC fun K hK=>?_;refine aN ?_;refine aC fun K hK=>Rg ?_;have F:=aI @Int.natCast_nonneg (aI @Int.ofNat_lt (aI hlt (nM hlt)));iterate 6 refine SF ?_
  refine T2 (hK _ _ _ ?_);clear hK K;refine R0 ?_;refine aK (b:=_) rfl (fun hb=>?_) (fun hb=>?_)
  ·
   rw[if_pos (by simpa using hb)]at e;refine Rg ?_;iterate 5 refine S0 ?_
   refine T2 (hK _ _ _ ?_);clear hK K;refine aE (by kernel_rfl) ?_;simp only[↓sP,sA,tyS,simprocAttr,cC ((i:Int)+1) (by omega)];refine⟨⟨i+1,hlt⟩,aO (by omega) (by simp[aX,fin_at,finA_at,upd_at,HV.men,HV.menL,HV.norm,HV.toC,HV.toCL,e,iC]) (by simp[aY,fob_at,upd_at,none0_at,bO,HO.men,HV.men,HV.menL,HV.norm,HV.toC,HV.toCL,e,iC]),?_⟩;show l.length-(i+1)<l.length-i;omega
  rw[if_neg (by simpa using hb)]at e;refine aM ?_;refine T0 (hK _ _ _ ?_);clear hK K;refine aE (by kernel_rfl) ?_;simp only[↓sP,sA,tyS,simprocAttr,cC ((i:Int)+1) (by omega)];refine⟨⟨i+1,hlt⟩,aO (by omega) (by simp[aX,fin_at,finA_at,upd_at,HV.men,HV.menL,HV.norm,HV.toC,HV.toCL,e]) (by simp[aY,fob_at,upd_at,none0_at,bO,HO.men,HV.men,HV.menL,HV.norm,HV.toC,HV.toCL,e]),?_⟩;show l.length-(i+1)<l.length-i;omega
 refine aZ (T3 ?_);clear hK K;refine AX (hK _ _ _ ?_);clear hK K;refine R0 ?_;refine aH (RT Tryz.results29 ?_);have hei:i=l.length:=by simp only[decide_eq_false_iff_not]at hb;omega
 subst hei;rw[List.take_length];exact aJ [32] (.slc ((eG 0 l).map iC)) (by simp[HV.close,fob_at,HV.norm,HV.toC,cO,CV.denil]) (by rw[hlv])
theorem aT3 (l:List Nd)(ht:IsTree l)(i:Nat)(hi:i<l.length)(ih: ∀j,i<j→j<l.length→cE Tryz.prog 107 [.slc (l.map Nd.cv),.int .i64 j] (fun v=>v= .int .i64 (aft l j:Nat))):
  cE Tryz.prog 107 [.slc (l.map Nd.cv),.int .i64 i] (fun v=>v= .int .i64 (aft l i:Nat)):=by
 have hl:=ht.len;obtain⟨c1,c2,_,_⟩:=eS (ht.node _ (List.getElem_mem hi));have hw2:IntKind.i64.wrap ((i:Int)+1)=((i+1:Nat):Int):=by rw[cC _ (by omega)];rfl
 have hc:l[i].c=((l[i].c.toNat:Nat):Int):=by omega
 refine FW Tryz.func107 ?_;refine R0 ?_;refine aC fun K hK=>Rg ?_;have F:=aI @Int.natCast_nonneg (aI @Int.ofNat_lt (aI hi (nM hi)));iterate 6 refine SF ?_
 refine T2 (hK _ _ _ ?_);clear hK K;have F:=hw2;refine RF ?_;refine aC fun K hK=>?_;refine aN ?_;refine bH (α:={y:Nat×Nat//AftSt l i y.1 y.2∧y.1≤60∧i<y.2}) (fun y=>(fin [(0,.c (.slc (l.map Nd.cv))),(1,.c (.int .i64 y.1.2)),(5,.c (.int .i64 y.1.1))],fob [])) 100 (fun y=>y.1.1) ⟨(0+l[i].c.toNat,i+1),AftSt.next (m:=0) ⟨Nat.le_of_lt hi,rfl⟩ hi,by simp only;omega,by simp only;omega⟩ (aO (by omega) (by simp[aX,fin_at,finA_at,upd_at,HV.men,HV.menL,HV.norm,HV.toC,HV.toCL];omega) (by simp[aY,fob_at,upd_at,none0_at,bO,HO.men,HV.men,HV.menL,HV.norm,HV.toC,HV.toCL])) ?_;rintro⟨⟨m,p⟩,hst,hm,hip⟩;simp only at hst hm hip;have hp:=hst.1;refine aC fun K hK=>?_;refine R0 ?_;refine aK (b:=decide ((0:Int)<(m:Int))) rfl (fun hb=>?_) (fun hb=>?_)
 ·
  have hm1:0<m:=by simpa using hb
  have hpl:=hst.lt ht hi hm1;obtain⟨m',rfl⟩: ∃m',m=m'+1:=⟨m-1,by omega⟩;obtain⟨a1,a2,a3⟩:=fI ht hpl;have hw1:IntKind.i64.wrap (((m'+1:Nat):Int)-1)=((m':Nat):Int):=by rw[cC _ (by omega)];omega
  clear hb;refine aM ?_;refine T0 (hK _ _ _ ?_);clear hK K;refine aC fun K hK=>?_;refine aN ?_;refine Rg ?_;iterate 2 refine S0 ?_
  refine HS rfl rfl fun K' hK'=>T5 ?_;refine C2 (ih p hip hpl) ?_;rintro u rfl;refine AX (hK' _ _ ?_);clear hK' K';refine S0 ?_;refine T2 (hK _ _ _ ?_);clear hK K;refine aE (by kernel_rfl) ?_;refine TQ hw1 ?_;refine⟨⟨(m',aft l p),⟨a2,bI8 hst.2 a3⟩,by simp only;omega,by simp only;omega⟩,fF,?_⟩;show m'<m'+1;omega
 refine aZ (T3 ?_);clear hK K;refine AX (hK _ _ _ ?_);clear hK K;refine R0 ?_;refine aH (RT Tryz.results107 ?_);have hm0:m=0:=by simpa using hb
 subst hm0;exact aJ [] (.int .i64 p) rfl (by rw[hst.fin])
theorem pF (l:List Nd)(ht:IsTree l): ∀(f i:Nat),i<l.length→l.length-i≤f→cE Tryz.prog 107 [.slc (l.map Nd.cv),.int .i64 i] (fun v=>v= .int .i64 (aft l i:Nat))
 |0,i,h1,h2=>by omega
 |f+1,i,h1,h2=>aT3 l ht i h1 fun j h3 h4=>pF l ht f j h4 (by omega)
theorem aK4 (l:List Nd)(hn: ∀n∈l,n.q.t.length<2^63)(i:Int):cE Tryz.prog 78 [.slc (l.map Nd.cv),.int .i64 i] (fun v=>v= .slc ((nS l i).map iC)):=by
 refine FW Tryz.func78 ?_;refine R0 ?_;refine R0 ?_;refine aC fun K hK=>?_;refine aC fun K hK=>Rg ?_;refine S0 ?_;refine HS rfl rfl fun K' hK'=>T5 ?_;refine C1 (aT1 l hn) ?_;rintro u rfl;refine AX (hK' _ _ ?_);clear hK' K';iterate 2 refine S0 ?_
 refine aG 9 rfl (fun h2_9=>?_) (fun h2_9=>?_)
 ·
  have F:=h2_9;iterate 4 refine SF ?_
  refine aG 13 rfl (fun h2_13=>?_) (fun h2_13=>?_)
  ·
   have F:=aI h2_9 h2_13;iterate 5 refine SF ?_
   refine T2 (hK _ _ _ ?_);clear hK K;refine CT rfl ?_;refine R0 ?_;refine aH (RT Tryz.results78 ?_);exact aJ [] (.slc []) rfl (by rw[jA (.inr (.inl (by simpa using h2_13)))];rfl)
  have F:=aI h2_9 h2_13;iterate 5 refine SF ?_
  refine aG 19 rfl (fun h2_19=>?_) (fun h2_19=>?_)
  · simp only[h2_19];refine T2 (hK _ _ _ ?_);clear hK K;refine CT rfl ?_;refine R0 ?_;refine aH (RT Tryz.results78 ?_);exact aJ [] (.slc []) rfl (by rw[jA (.inr (.inr (by simpa using h2_19)))];rfl)
  simp only[h2_19];refine T2 (hK _ _ _ ?_);clear hK K;refine CF rfl ?_;refine aM ?_;refine T0 (hK _ _ _ ?_);clear hK K;obtain⟨j,rfl⟩: ∃j:Nat,i=j:=⟨i.toNat,by simp at h2_13;omega⟩;have hj:j<l.length:=by simp at h2_19;omega
  have ht:=eT h2_9;have hcv:=pE h2_9 hj;have hl:=ht.len;obtain⟨c1,c2,_,_⟩:=eS (ht.node _ (List.getElem_mem hj));have hw2:IntKind.i64.wrap ((j:Int)+1)=((j+1:Nat):Int):=by rw[cC _ (by omega)];rfl
  clear h2_9 h2_13 h2_19;have F:=hw2;refine RF ?_;refine aC fun K hK=>?_;refine R0 ?_;refine aN ?_;refine jI 5 0 3 1 rfl rfl rfl rfl ?_;refine bH (α:={k:Nat//k≤l[j].c.toNat}) (fun k=>(fin [(0,.c (.slc (l.map Nd.cv))),(1,.c (.int .i64 j)),(5,.own 76 k.1),(6,.c (.int .i64 (cB l k.1 (j+1):Nat))),(7,.c (.int .i64 k.1))],fob [(76,.row 3 1 ((cY l k.1 (j+1)).map iC))])) 200 (fun k=>l[j].c.toNat-k.1) ⟨0,by omega⟩ (aO (by omega) (by simp[aX,fin_at,finA_at,upd_at,HV.men,HV.menL,HV.norm,HV.toC,HV.toCL,cY,cB]) (by simp[aY,fob_at,upd_at,none0_at,bO,HO.men,HV.men,HV.menL,HV.norm,HV.toC,HV.toCL,cY,cB])) ?_;rintro⟨k,hk⟩;have hkl:=iS l k (j+1);refine aC fun K hK=>?_;refine aC fun K hK=>Rg ?_;have F:=aI @Int.natCast_nonneg (aI @Int.ofNat_lt (aI hj (nM hj)));iterate 7 refine SF ?_
  refine T2 (hK _ _ _ ?_);clear hK K;refine aK (b:=decide ((k:Int)<l[j].c)) rfl (fun hb=>?_) (fun hb=>?_)
  ·
   have hkc:k<l[j].c.toNat:=by simp only[decide_eq_true_eq]at hb;omega
   have hkp:=gQ ht hj hkc;have e:(cY l (k+1) (j+1)).map iC=(cY l k (j+1)).map iC++[CV.int .i64 (cB l k (j+1):Nat)]:=by rw[gA,List.map_append];rfl
   refine aM ?_;refine T0 (hK _ _ _ ?_);clear hK K;refine aC fun K hK=>?_;refine aN ?_;refine aC fun K hK=>Rg ?_;have F:=hkl;iterate 5 refine SF ?_
   refine T2 (hK _ _ _ ?_);clear hK K;refine Rg ?_;iterate 2 refine S0 ?_
   refine HS rfl rfl fun K' hK'=>T5 ?_;refine C2 (pF l ht _ _ hkp (Nat.le_refl _)) ?_;rintro u rfl;refine AX (hK' _ _ ?_);clear hK' K';refine S0 ?_;refine T2 (hK _ _ _ ?_);clear hK K;refine aE (by kernel_rfl) ?_;simp only[↓sP,sA,tyS,simprocAttr,cC ((k:Int)+1) (by omega)];refine⟨⟨k+1,hkc⟩,aO (by omega) (by simp[aX,fin_at,finA_at,upd_at,HV.men,HV.menL,HV.norm,HV.toC,HV.toCL,e,hkl,cK]) (by simp[aY,fob_at,upd_at,none0_at,bO,HO.men,HV.men,HV.menL,HV.norm,HV.toC,HV.toCL,e,hkl,cK]),?_⟩;show l[j].c.toNat-(k+1)<l[j].c.toNat-k;omega
  refine aZ (T3 ?_);clear hK K;refine AX (hK _ _ _ ?_);clear hK K;refine R0 ?_;refine aH (RT Tryz.results78 ?_);have hkc:k=l[j].c.toNat:=by simp only[decide_eq_false_iff_not]at hb;omega
  subst hkc;exact aJ [76] (.slc ((cY l l[j].c.toNat (j+1)).map iC)) (by simp[HV.close,fob_at,hkl,HV.norm,HV.toC,cO,CV.denil]) (by rw[hcv])
 have F:=h2_9;iterate 9 refine SF ?_
 refine T2 (hK _ _ _ ?_);clear hK K;refine CT rfl ?_;refine R0 ?_;refine aH (RT Tryz.results78 ?_);exact aJ [] (.slc []) rfl (by rw[jA (.inl h2_9)];rfl)
def bC (b:Bool):CV:= .bool b
theorem dT (l:List Bool):CV.denilL (l.map bC)=l.map bC:=bZ (fun _=>rfl) l
theorem aT4 (l:List Nd)(ht:IsTree l)(tr:List Bool)(htr:tr.length<2^63)(i:Nat)(hi:i<l.length)(ih: ∀j,i<j→j<l.length→cE Tryz.prog 77 [.slc (l.map Nd.cv),.int .i64 j,.slc (tr.map bC)] (fun v=>v= .bool (dK l tr j))):
  cE Tryz.prog 77 [.slc (l.map Nd.cv),.int .i64 i,.slc (tr.map bC)] (fun v=>v= .bool (dK l tr i)):=by
 have hl:=ht.len;obtain⟨c1,c2,_,_⟩:=eS (ht.node _ (List.getElem_mem hi));have hw2:IntKind.i64.wrap ((i:Int)+1)=((i+1:Nat):Int):=by rw[cC _ (by omega)];rfl
 have hc:l[i].c=((l[i].c.toNat:Nat):Int):=by omega
 refine FW Tryz.func77 ?_;refine R0 ?_;refine aC fun K hK=>Rg ?_;have F:=aI @Int.natCast_nonneg (aI @Int.ofNat_lt (aI hi (nM hi)));iterate 6 refine SF ?_
 refine T2 (hK _ _ _ ?_);clear hK K;refine aC fun K hK=>?_;refine R0 ?_;refine aK (b:=(l[i].k==1)) rfl (fun hb=>?_) (fun hb=>?_)
 ·
  refine R0 ?_;refine aC fun K hK=>?_;refine R0 ?_;refine aN ?_;have hk1:l[i].k=1:=by simpa using hb
  clear hb;refine bH (α:={j:Nat//j≤i}) (fun j=>(fin [(0,.c (.slc (l.map Nd.cv))),(1,.c (.int .i64 i)),(2,.c (.slc (tr.map bC))),(8,.c (.int .i64 (lv (l.take j.1):Nat))),(9,.c (.int .i64 j.1))],fob [])) 100 (fun j=>i-j.1) ⟨0,by omega⟩ (aO (by omega) (by simp[aX,fin_at,finA_at,upd_at,HV.men,HV.menL,HV.norm,HV.toC,HV.toCL,lv]) (by simp[aY,fob_at,upd_at,none0_at,bO,HO.men,HV.men,HV.menL,HV.norm,HV.toC,HV.toCL,lv])) ?_;rintro⟨j,hj⟩;have hlv:=zE l j;refine aC fun K hK=>?_;refine R0 ?_;refine aK (b:=decide ((j:Int)<i)) rfl (fun hb=>?_) (fun hb=>?_)
  ·
   have hji:j<i:=by simpa using hb
   have hjl:j<l.length:=by omega
   have e:=wE hjl;have hw3:IntKind.i64.wrap ((lv (l.take j):Int)+1)=((lv (l.take j)+1:Nat):Int):=by rw[cC _ (by omega)];rfl
   clear hb;refine aM ?_;refine T0 (hK _ _ _ ?_);clear hK K;refine aC fun K hK=>?_;refine aN ?_;refine aC fun K hK=>Rg ?_;have F:=aI @Int.natCast_nonneg (aI @Int.ofNat_lt (aI hjl (nM hjl)));iterate 6 refine SF ?_
   refine T2 (hK _ _ _ ?_);clear hK K;refine aK (b:=_) rfl (fun hb=>?_) (fun hb=>?_)
   · rw[if_pos (by simpa using hb)]at e;refine aE (by kernel_rfl) ?_;refine TQ hw3 ?_;refine AX (hK _ _ _ ?_);clear hK K;refine aE (by kernel_rfl) ?_;simp only[↓sP,sA,tyS,simprocAttr,cC ((j:Int)+1) (by omega)];refine⟨⟨j+1,hji⟩,aO (by omega) (by simp[aX,fin_at,finA_at,upd_at,HV.men,HV.menL,HV.norm,HV.toC,HV.toCL,e]) (by simp[aY,fob_at,upd_at,none0_at,bO,HO.men,HV.men,HV.menL,HV.norm,HV.toC,HV.toCL,e]),?_⟩;show i-(j+1)<i-j;omega
   rw[if_neg (by simpa using hb),Nat.add_zero]at e;refine aM ?_;refine T0 (hK _ _ _ ?_);clear hK K;refine aE (by kernel_rfl) ?_;simp only[↓sP,sA,tyS,simprocAttr,cC ((j:Int)+1) (by omega)];refine⟨⟨j+1,hji⟩,aO (by omega) (by simp[aX,fin_at,finA_at,upd_at,HV.men,HV.menL,HV.norm,HV.toC,HV.toCL,e]) (by simp[aY,fob_at,upd_at,none0_at,bO,HO.men,HV.men,HV.menL,HV.norm,HV.toC,HV.toCL,e]),?_⟩;show i-(j+1)<i-j;omega
  refine aZ (T3 ?_);clear hK K;refine AX (hK _ _ _ ?_);clear hK K;by_cases hlt:lv (l.take j)<tr.length
  ·
   have hji:j=i:=by simp only[decide_eq_false_iff_not]at hb;omega
   subst hji;have hva:=mK (tr:=tr) hi hk1;clear hb;refine aC fun K hK=>Rg ?_;iterate 11 refine S0 ?_ (e:=fun _ h_=>by simp only[sH,↓sP,sA,tyS,simprocAttr,Int.natCast_nonneg,Int.ofNat_lt,hlt,bK hlt,bC];exact AX h_)
   refine T2 (hK _ _ _ ?_);clear hK K;refine aH (RT Tryz.results77 ?_);exact aJ [] (.bool tr[lv (l.take j)]) rfl (by rw[hva];simp[hlt])
  have hji:j=i:=by simp only[decide_eq_false_iff_not]at hb;omega
  subst hji;have hva:=mK (tr:=tr) hi hk1;clear hb;have hlt':decide ((lv (l.take j):Int)<tr.length)=false:=by simp;omega
  refine aC fun K hK=>Rg ?_;have F:=hlt';iterate 11 refine SF ?_
  refine T2 (hK _ _ _ ?_);clear hK K;refine aH (RT Tryz.results77 ?_);exact aJ [] (.bool false) rfl (by rw[hva];simp[List.getD_eq_getElem?_getD,List.getElem?_eq_none (Nat.le_of_not_lt hlt)])
 refine aM ?_;refine T0 (hK _ _ _ ?_);clear hK K;refine aC fun K hK=>Rg ?_;have F:=hw2;iterate 4 refine SF ?_
 refine T2 (hK _ _ _ ?_);clear hK K;refine aC fun K hK=>?_;refine R0 ?_;refine aN ?_;have hk1:l[i].k≠1:=by simpa using hb
 have hvi:=vA (tr:=tr) hi hk1;have hkl:=rH ht (tr:=tr) hi;obtain⟨V,hV⟩: ∃V,V=evS (lv l) tr (l.drop (i+1)):=⟨_,rfl⟩;rw[←hV]at hvi hkl;clear hb;refine bH (α:={k:Nat//k≤l[i].c.toNat}) (fun k=>(fin [(0,.c (.slc (l.map Nd.cv))),(2,.c (.slc (tr.map bC))),(7,.ptr 20 0),(10,.c (.int .i64 (cnt (V.take k.1):Nat))),(11,.c (.int .i64 (cB l k.1 (i+1):Nat))),(12,.c (.int .i64 k.1))],fob [(20,.box 89 (.c l[i].cv))])) 200 (fun k=>l[i].c.toNat-k.1) ⟨0,by omega⟩ (aO (by omega) (by simp[aX,fin_at,finA_at,upd_at,HV.men,HV.menL,HV.norm,HV.toC,HV.toCL,cnt,cB,hw2]) (by simp[aY,fob_at,upd_at,none0_at,bO,HO.men,HV.men,HV.menL,HV.norm,HV.toC,HV.toCL,cnt,cB,hw2])) ?_;rintro⟨k,hk⟩;have hcn:cnt (V.take k)≤k:=by have:=aX4 (V.take k);simp at this;omega
 have hcn2:cnt (V.take k)≤60:=by omega
 refine aC fun K hK=>?_;refine aC fun K hK=>Rg ?_;iterate 4 refine S0 ?_
 refine T2 (hK _ _ _ ?_);clear hK K;refine aK (b:=decide ((k:Int)<l[i].c)) rfl (fun hb=>?_) (fun hb=>?_)
 ·
  have hkc:k<l[i].c.toNat:=by simp only[decide_eq_true_eq]at hb;omega
  have hkp:=gQ ht hi hkc;have hik:=(gB ht hi k hk).2.2;have hvk:=aC1 ht (tr:=tr) hi hkc;rw[←hV]at hvk;have hct:=lJ (l:=V) (k:=k) (by omega);have hw3:IntKind.i64.wrap ((cnt (V.take k):Int)+1)=((cnt (V.take k)+1:Nat):Int):=by rw[cC _ (by omega)];rfl
  clear hb;refine aM ?_;refine T0 (hK _ _ _ ?_);clear hK K;refine aC fun K hK=>?_;refine aN ?_;refine aC fun K hK=>?_;refine aC fun K hK=>Rg ?_;have F:=@dT;iterate 3 refine SF ?_
  refine HS rfl rfl fun K' hK'=>T6 ?_;refine C3 (ih _ (by omega) hkp) ?_;rintro u rfl;refine AX (hK' _ _ ?_);clear hK' K';refine T2 (hK _ _ _ ?_);clear hK K;refine aK (b:=dK l tr (cB l k (i+1))) rfl (fun hb=>?_) (fun hb=>?_)
  ·
   rw[hvk]at hb;rw[if_pos hb]at hct;refine aE (by kernel_rfl) ?_;refine TQ hw3 ?_;refine AX (hK _ _ _ ?_);clear hK K;refine Rg ?_;iterate 2 refine S0 ?_
   refine HS rfl rfl fun K' hK'=>T5 ?_;refine C2 (pF l ht _ _ hkp (Nat.le_refl _)) ?_;rintro u rfl;refine AX (hK' _ _ ?_);clear hK' K';refine S0 ?_;refine T2 (hK _ _ _ ?_);clear hK K;refine aE (by kernel_rfl) ?_;simp only[↓sP,sA,tyS,simprocAttr,cC ((k:Int)+1) (by omega)];refine⟨⟨k+1,hkc⟩,aO (by omega) (by simp[aX,fin_at,finA_at,upd_at,HV.men,HV.menL,HV.norm,HV.toC,HV.toCL,hct,cK]) (by simp[aY,fob_at,upd_at,none0_at,bO,HO.men,HV.men,HV.menL,HV.norm,HV.toC,HV.toCL,hct,cK]),?_⟩;show l[i].c.toNat-(k+1)<l[i].c.toNat-k;omega
  rw[hvk]at hb;rw[if_neg (by rw[hb];simp)]at hct;refine aM ?_;refine T0 (hK _ _ _ ?_);clear hK K;refine Rg ?_;iterate 2 refine S0 ?_
  refine HS rfl rfl fun K' hK'=>T5 ?_;refine C2 (pF l ht _ _ hkp (Nat.le_refl _)) ?_;rintro u rfl;refine AX (hK' _ _ ?_);clear hK' K';refine S0 ?_;refine T2 (hK _ _ _ ?_);clear hK K;refine aE (by kernel_rfl) ?_;simp only[↓sP,sA,tyS,simprocAttr,cC ((k:Int)+1) (by omega)];refine⟨⟨k+1,hkc⟩,aO (by omega) (by simp[aX,fin_at,finA_at,upd_at,HV.men,HV.menL,HV.norm,HV.toC,HV.toCL,hct,Nat.add_zero,cK]) (by simp[aY,fob_at,upd_at,none0_at,bO,HO.men,HV.men,HV.menL,HV.norm,HV.toC,HV.toCL,hct,Nat.add_zero,cK]),?_⟩;show l[i].c.toNat-(k+1)<l[i].c.toNat-k;omega
 refine aZ (T3 ?_);clear hK K;refine AX (hK _ _ _ ?_);clear hK K;refine aC fun K hK=>?_;have hkc:k=l[i].c.toNat:=by simp only[decide_eq_false_iff_not]at hb;omega
 subst hkc;have hlen:(V.take l[i].c.toNat).length=l[i].c.toNat:=by simp;omega
 clear hb;refine R0 ?_;refine aN ?_;refine R0 ?_;refine aK (b:=(l[i].k==2)) rfl (fun hb=>?_) (fun hb=>?_)
 ·
  refine aC fun K hK=>Rg ?_;iterate 5 refine S0 ?_
  refine T2 (hK _ _ _ ?_);clear hK K;refine aH (RT Tryz.results77 ?_);have h2:l[i].k=2:=by simpa using hb
  exact aJ [] (.bool _) rfl (by rw[hvi,iN,if_pos h2,hlen];congr 1;rw[Bool.eq_iff_iff];simp;omega)
 have h2:l[i].k≠2:=by simpa using hb
 refine R0 ?_;refine aK (b:=(l[i].k==3)) rfl (fun hb=>?_) (fun hb=>?_)
 ·
  refine R0 ?_;refine aH (RT Tryz.results77 ?_);have h3:l[i].k=3:=by simpa using hb
  exact aJ [] (.bool _) rfl (by rw[hvi,iN,if_neg h2,if_pos h3];congr 1;rw[Bool.eq_iff_iff];simp;omega)
 refine aM ?_;refine T0 (hK _ _ _ ?_);clear hK K;refine aC fun K hK=>Rg ?_;iterate 5 refine S0 ?_
 refine T2 (hK _ _ _ ?_);clear hK K;refine aH (RT Tryz.results77 ?_);have h3:l[i].k≠3:=by simpa using hb
 exact aJ [] (.bool _) rfl (by rw[hvi,iN,if_neg h2,if_neg h3])
theorem uG (l:List Nd)(ht:IsTree l)(tr:List Bool)(htr:tr.length<2^63): ∀(f i:Nat),i<l.length→l.length-i≤f→cE Tryz.prog 77 [.slc (l.map Nd.cv),.int .i64 i,.slc (tr.map bC)] (fun v=>v= .bool (dK l tr i))
 |0,i,h1,h2=>by omega
 |f+1,i,h1,h2=>aT4 l ht tr htr i h1 fun j h3 h4=>uG l ht tr htr f j h4 (by omega)
theorem cA8 (l:List Nd)(ht:IsTree l)(tr:List Bool)(htr:tr.length<2^63):cE Tryz.prog 77 [.slc (l.map Nd.cv),.int .i64 0,.slc (tr.map bC)] (fun v=>v= .bool (dK l tr 0)):=uG l ht tr htr l.length 0 ht.ne (Nat.le_refl _)
theorem cA9 (l:List Nd)(hn: ∀n∈l,n.q.t.length<2^63)(tr:List Bool)(htr:tr.length<2^63):cE Tryz.prog 39 [.slc (l.map Nd.cv),.slc (tr.map bC)] (fun v=>v= .bool (eH l tr)):=by
 refine FW Tryz.func39 ?_;refine R0 ?_;refine aC fun K hK=>Rg ?_;have F:=@dT;refine SF ?_;refine HS rfl rfl fun K' hK'=>T6 ?_;refine C1 (aT1 l hn) ?_;rintro u rfl;refine AX (hK' _ _ ?_);clear hK' K';refine SF ?_;refine aG 6 rfl (fun h1_6=>?_) (fun h1_6=>?_)
 ·
  have F:=aI @dT h1_6;iterate 2 refine SF ?_
  refine aF (g:=some (7,true)) rfl rfl fun K' hK'=>T6 ?_;refine C3 (cA8 l (eT h1_6) tr htr) ?_;rintro u rfl;refine AX (hK' _ _ ?_);clear hK' K';iterate 2 refine SF ?_
  refine T2 (hK _ _ _ ?_);clear hK K;refine aH (RT Tryz.results39 ?_);exact aJ [] (.bool _) rfl (by rw[eH,h1_6];rfl)
 have F:=aI @dT h1_6;iterate 5 refine SF ?_
 refine T2 (hK _ _ _ ?_);clear hK K;refine aH (RT Tryz.results39 ?_);exact aJ [] (.bool false) rfl (by rw[eH,h1_6];rfl)
theorem bO4 (l:List Nd)(hl:l.length<2^40):aJ0 Tryz.prog 79 [(26,.slc (l.map Nd.cv))] (bwL l):=by
 refine aC9 Tryz.func79 rfl (by kernel_rfl) (Nat.le_of_ble_eq_true rfl) rfl fun L J hS hY=>?_;have e0:kQ [(26,CV.slc (l.map Nd.cv))]=fob [(0,.box 26 (.c (.slc (l.map Nd.cv))))]:=by
  funext i
  match i with
  |0=>rfl
  |i+1=>simp[kQ,fob,upd]
 have e1:iL (List.range [((26:Nat),CV.slc (l.map Nd.cv))].length)=[.ptr 0 0]:=rfl;rw[e0,e1];refine fV fun K hK=>nW hS rfl (aE (by kernel_rfl) ?_);simp only[sR,simprocAttr];iterate 4 refine S0 ?_ (e:=fun _ h_=>by simp only[sH,↓sP,sA,tyS,simprocAttr,rI,cC ((l.length:Int)-1) (by omega),List.length_map];exact AX h_)
 simp only[sE,↓reduceIte,simprocAttr,rI];refine hK _ _ _ _ _ ?_;clear hK K;refine oV ?_;refine aP8 (α:={j:Nat//j≤l.length}) hS (fun j=>(fin [(0,.opq (.func (.yield L) #[] #[])),(1,.ptr 0 0),(3,.c (.int .i64 ((l.length:Int)-1-j.1)))],fob [(0,.box 26 (.c (.slc (l.map Nd.cv))))])) (fun j=>j.1) 100 (fun j=>l.length-j.1) ⟨0,Nat.zero_le _⟩ rfl (fF) rfl ?_;rintro⟨j,hj⟩;refine fV fun K hK=>?_;refine fV fun K1 hK1=>nW hS rfl (aE (by kernel_rfl) ?_);simp only[sR,simprocAttr];have F:=rI;iterate 2 refine SF ?_
 simp only[sE,↓reduceIte,simprocAttr,rI];refine hK1 _ _ _ _ _ ?_;clear hK1 K1;refine kI (b:=decide ((0:Int)≤(l.length:Int)-1-j)) rfl (fun hb=>?_) (fun hb=>?_)
 ·
  have hlt:j<l.length:=by simp at hb;omega
  have hi2:l.length-1-j<l.length:=by omega
  have hxl:j<(bwL l).length:=by rw[sT];exact hlt
  have hx:=cA3 hxl hi2;have hcast:(l.length:Int)-1-j=((l.length-1-j:Nat):Int):=by omega
  have hw1:IntKind.i64.wrap (((l.length-1-j:Nat):Int)-1)=(l.length:Int)-1-((j:Int)+1):=by rw[cC _ (by omega)];omega
  refine nX ?_;simp only[sE,↓reduceIte,simprocAttr,rI];refine hK _ _ _ _ _ ?_;clear hK K;refine fV fun K hK=>?_;refine oV ?_;refine fV fun K1 hK1=>tQ (l:=L) 6 hS hY rfl (by kernel_rfl) (by decide) ?_;simp only[sR,List.range',simprocAttr];have F:=aI rI (aI hcast (aI @List.length_map.{0,0} (aI @Int.natCast_nonneg (aI @Int.ofNat_lt (aI hi2 (nM hi2))))));iterate 6 refine SF ?_
  rw[hlex];refine⟨_,_,_,hxl,rfl,rfl,rfl,rfl,rfl,?_,?_,?_⟩
  · rw[hx];simp only[hcast];rfl
  ·
   simp only[sR,List.range',simprocAttr];have F:=rI;refine SF ?_;simp only[sE,↓reduceIte,simprocAttr,rI];refine hK1 _ _ _ _ _ ?_;clear hK1 K1;refine kI (b:=false) rfl (fun hb=>by cases hb) (fun _=>?_);refine nX ?_;simp only[sE,↓reduceIte,simprocAttr,rI];refine hK _ _ _ _ _ ?_;clear hK K;refine nW hS rfl (aE (by kernel_rfl) ?_);simp only[sR,simprocAttr];have F:=aI rI (aI hcast hw1);iterate 3 refine SF ?_
   simp only[sE,↓reduceIte,simprocAttr,rI];refine⟨⟨j+1,hlt⟩,fF,trivial,rfl,?_⟩;show l.length-(j+1)<l.length-j;omega
  simp only[sR,List.range',simprocAttr];have F:=rI;refine SF ?_;simp only[sE,↓reduceIte,simprocAttr,rI];refine hK1 _ _ _ _ _ ?_;clear hK1 K1;refine kI (b:=true) rfl (fun _=>?_) (fun hb=>by cases hb);refine bC9 ?_;simp only[sE,↓reduceIte,simprocAttr,rI];exact⟨by simp,fun h=>by cases h⟩
 have hji:j=l.length:=by simp at hb;omega
 refine aP7 ?_;simp only[sE,↓reduceIte,simprocAttr,rI];exact⟨by simp,fun _=>by rw[sT];exact hji⟩
end Go.Proofs.YthedbjfipmkpiaaGreatDoor
namespace Go.Pl
open Go Go.Hl
def mB (w:List Bool)(m:Nat)(b:Bool):List Bool:=w.take m++[b]++w.drop (m+1)
variable {b:Bool}{m:Nat}{w:List Bool}
theorem mC (h:m+1≤w.length):(mB w m b).length=w.length:=by simp[mB];omega
theorem aG1 :mB w w.length b=w++[b]:=by simp[mB]
theorem aG2 (h:m≤w.length):(mB w m b).take (m+1)=w.take m++[b]:=by grind[mB,List.take_of_length_le]
def bA3 (l:List Nd)(tr:List Bool)(p:Nat)(s:List Bool×Nat):List Bool×Nat:=
 if(l.getD p nd0).k=1 then(mB s.1 s.2 (tr.getD (lv (l.take p)) false),s.2+1)
 else(mB s.1 (s.2-(l.getD p nd0).c.toNat) (iN (l.getD p nd0) ((s.1.drop (s.2-(l.getD p nd0).c.toNat)).take (l.getD p nd0).c.toNat)),s.2-(l.getD p nd0).c.toNat+1)
def cN (l:List Nd)(tr:List Bool):Nat→List Bool×Nat
 |0=>([],0)
 |i+1=>bA3 l tr (l.length-1-i) (cN l tr i)
structure EvOk (l:List Nd)(tr:List Bool)(i:Nat):Prop where
 le:i≤l.length
 m:(cN l tr i).2=(evS (lv l) tr (l.drop (l.length-i))).length
 row:(cN l tr i).1.take (cN l tr i).2=(evS (lv l) tr (l.drop (l.length-i))).reverse
 fit:(cN l tr i).2≤(cN l tr i).1.length
 small:(cN l tr i).1.length≤i
theorem EvOk.zero (l:List Nd)(tr:List Bool):EvOk l tr 0:=⟨by omega,by simp[cN,evS],by simp[cN,evS],by simp[cN],by simp[cN]⟩
theorem aA0 (n:Nd)(l:List Bool):iN n l.reverse=iN n l:=by simp only[iN,aO4,List.length_reverse]
variable {c:Nat}{E:List Bool}
theorem cB0 :E.reverse.take (E.length-c)=(E.drop c).reverse:=by rw[List.reverse_drop]
theorem cB1 (h:c≤E.length):E.reverse.drop (E.length-c)=(E.take c).reverse:=by rw[List.reverse_take]
variable {i:Nat}{l:List Nd}
theorem EvOk.at_ {tr:List Bool}(hi:i<l.length):l.drop (l.length-(i+1))=l[l.length-1-i]'(by omega)::l.drop (l.length-i):=by grind[List.drop_eq_getElem_cons]
variable {tr:List Bool}
theorem EvOk.leaf (h:EvOk l tr i)(hi:i<l.length)(hk:(l[l.length-1-i]'(by omega)).k=1):
  EvOk l tr (i+1)∧cN l tr (i+1)=(mB (cN l tr i).1 (cN l tr i).2 (tr.getD (lv (l.take (l.length-1-i))) false),(cN l tr i).2+1):=by
 have hp:l.length-1-i<l.length:=by omega
 have hg:l.getD (l.length-1-i) nd0=l[l.length-1-i]:=by simp[hp]
 have e:cN l tr (i+1)=(mB (cN l tr i).1 (cN l tr i).2 (tr.getD (lv (l.take (l.length-1-i))) false),(cN l tr i).2+1):=by
  simp only[cN,bA3,hg,if_pos hk]
 have hT:=rG l (l.length-1-i);have hd:=EvOk.at_ (tr:=tr) hi;rw[show l.length-(i+1)=l.length-1-i from by omega]at hd;have hE:evS (lv l) tr (l.drop (l.length-(i+1)))=tr.getD (lv (l.take (l.length-1-i))) false::evS (lv l) tr (l.drop (l.length-i)):=by
  rw[show l.length-(i+1)=l.length-1-i from by omega,hd,evS,if_pos hk,←hd];congr 2;omega
 refine⟨⟨hi,?_,?_,?_,?_⟩,e⟩
 · rw[e,hE];simp[h.m]
 · rw[e,hE];simp only[List.reverse_cons];rw[aG2 h.fit,h.row]
 · rw[e];have:=h.fit;simp[mB];omega
 · rw[e];have:=h.fit;have:=h.small;simp[mB];omega
theorem EvOk.inner (ht:IsTree l)(h:EvOk l tr i)(hi:i<l.length)(hk:(l[l.length-1-i]'(by omega)).k≠1):
  (l[l.length-1-i]'(by omega)).c.toNat≤(cN l tr i).2∧EvOk l tr (i+1)∧
  cN l tr (i+1)=(mB (cN l tr i).1 ((cN l tr i).2-(l[l.length-1-i]'(by omega)).c.toNat) (iN (l[l.length-1-i]'(by omega)) (((cN l tr i).1.drop ((cN l tr i).2-(l[l.length-1-i]'(by omega)).c.toNat)).take (l[l.length-1-i]'(by omega)).c.toNat)),(cN l tr i).2-(l[l.length-1-i]'(by omega)).c.toNat+1):=by
 have hp:l.length-1-i<l.length:=by omega
 have hg:l.getD (l.length-1-i) nd0=l[l.length-1-i]:=by simp[hp]
 have e:cN l tr (i+1)=(mB (cN l tr i).1 ((cN l tr i).2-(l[l.length-1-i]'(by omega)).c.toNat) (iN (l[l.length-1-i]'(by omega)) (((cN l tr i).1.drop ((cN l tr i).2-(l[l.length-1-i]'(by omega)).c.toNat)).take (l[l.length-1-i]'(by omega)).c.toNat)),(cN l tr i).2-(l[l.length-1-i]'(by omega)).c.toNat+1):=by
  simp only[cN,bA3,hg,if_neg hk]
 have hkl:=rH ht (tr:=tr) hp;rw[show l.length-1-i+1=l.length-i from by omega]at hkl;obtain⟨_,_,_,c4⟩:=eS (ht.node _ (List.getElem_mem hp));have c5:=c4 hk;have c6:1≤l[l.length-1-i].c.toNat:=by omega
 have hd:=EvOk.at_ (tr:=tr) hi;have hm:=h.m;have hr:=h.row;have hf:=h.fit;have hs:=h.small;have hE:evS (lv l) tr (l.drop (l.length-(i+1)))=iN l[l.length-1-i] ((evS (lv l) tr (l.drop (l.length-i))).take l[l.length-1-i].c.toNat)::(evS (lv l) tr (l.drop (l.length-i))).drop l[l.length-1-i].c.toNat:=by
  rw[hd,evS,if_neg hk]
 generalize evS (lv l) tr (l.drop (l.length-i))=E at hm hr hkl hE;generalize l[l.length-1-i].c.toNat=c at*;have h1:(cN l tr i).1.take ((cN l tr i).2-c)=(E.drop c).reverse:=by
  rw[←cB0,←hr,List.take_take,hm,Nat.min_eq_left (by omega)]
 have h2:((cN l tr i).1.drop ((cN l tr i).2-c)).take c=(E.take c).reverse:=by
  rw[←cB1 hkl,←hr,List.drop_take,hm];congr 1;omega
 refine⟨by omega,⟨hi,?_,?_,?_,?_⟩,e⟩
 · rw[e,hE];simp only[List.length_cons,List.length_drop];omega
 · rw[e,hE];simp only[List.reverse_cons];rw[aG2 (by omega),h1,h2,aA0]
 · rw[e];simp only;rw[mC (by omega)];omega
 · rw[e];simp only;rw[mC (by omega)];omega
theorem EvOk.fin (ht:IsTree l)(h:EvOk l tr l.length):(cN l tr l.length).2=1∧ ∃h0:0<(cN l tr l.length).1.length,eH l tr=(cN l tr l.length).1[0]:=by
 have hl:=aI7 (T:=lv l) (tr:=tr) l 1 ht.node ht.skip;have hm:=h.m;have hr:=h.row;have hf:=h.fit;rw[Nat.sub_self,List.drop_zero]at hm hr;rw[hl]at hm;have h0:0<(cN l tr l.length).1.length:=by omega
 refine⟨hm,h0,?_⟩;have ht':=aS7 ht;obtain⟨x,hx⟩: ∃x,evS (lv l) tr l=[x]:=by
  match hE:evS (lv l) tr l,hl with
  |[x],_=>exact⟨x,rfl⟩
 rw[hx,hm]at hr;rw[eH,ht',hx];have:(cN l tr l.length).1[0]=x:=by
  have:=congrArg (·.head?) hr;simpa[List.head?_take,List.head?_eq_getElem?,h0]using this
 rw[this];rfl
end Go.Pl
namespace Go.Proofs.YthedbjfipmkpiaaGreatDoor
open Go Go.Hl Go.Pl
set_option maxRecDepth 10000
set_option maxHeartbeats 16000000
theorem cI8 (l:List Nd):bD0 Tryz.prog 42 79 [.slc (l.map Nd.cv)] [(26,.slc (l.map Nd.cv))]:=by
 refine FW Tryz.func42 ?_;have F:=rI;refine RF ?_;refine RF ?_;refine aH ?_;simp only[bS,Tryz.results42,bP,bR,bN,↓sP,sA,tyS,simprocAttr,rI];refine tS (gf:=79) (bs:=[(26,.slc (l.map Nd.cv))]) (ids:=[0]) rfl (by simp) (by decide) ?_ ?_
 ·
  intro j x hx
  match j,hx with
  |0,hx=>cases hx;rfl
 intro x hx;simp only[List.mem_cons,List.not_mem_nil,or_false]at hx;subst hx;exact congrArg CV.slc (denilL_Nd l)
theorem aT5 (n:Nd)(L:List Bool)(lo m:Nat)(hl:L.length<2^40)(h0:0<L.length)(hlo:lo≤m)(hm:m≤L.length):
  HGe Tryz.prog 43 [.c n.cv,.osl 0 L.length lo 1 m] [.row 4 1 (L.map bC)] (fun r os'=>r= .c (.bool (iN n ((L.drop lo).take (m-lo))))∧os'=[.row 4 1 (L.map bC)]):=by
 obtain⟨V,hV⟩: ∃V,V=(L.drop lo).take (m-lo):=⟨_,rfl⟩;have hVl:V.length=m-lo:=by rw[hV];simp;omega
 rw[←hV];have hrd:List.take (m-lo) (List.drop lo (L.map bC))=V.map bC:=by rw[hV,List.map_take,List.map_drop]
 refine bI (args:=[.c n.cv,.osl 0 L.length lo 1 m]) Tryz.func43 rfl (by kernel_rfl) (eZ rfl (by simp[dS,HO.men]) (by simp[HV.menL,HV.men])) (Nat.le_of_ble_eq_true rfl) ?_;have e0:lst [.row 4 1 (L.map bC)]=fob [(0,.row 4 1 (L.map bC))]:=by
  funext i
  match i with
  |0=>rfl
  |i+1=>simp[lst,fob,upd]
 show Hw _ _ 1 _ _ _ (lst _) 1;rw[e0];have F:=rI;refine RF ?_;refine RF ?_;refine aC fun K hK=>?_;refine R0 ?_ (e:=fun _ h_=>by simp only[↓sP,sA,tyS,simprocAttr,rI,hrd,List.length_map,h0,hlo,hm];exact AX h_);refine aN ?_;refine bH (α:={i:Nat//i≤V.length}) (fun i=>(fin [(1,.osl 0 L.length lo 1 m),(2,.ptr 1 0),(5,.c (.int .i64 (cnt (V.take i.1):Nat))),(8,.osl 0 L.length lo 1 m),(9,.c (.int .i64 V.length)),(10,.c (.int .i64 i.1))],fob [(0,.row 4 1 (L.map bC)),(1,.box 89 (.c n.cv))])) 100 (fun i=>V.length-i.1) ⟨0,by omega⟩ (aO (by omega) (by simp[aX,fin_at,finA_at,upd_at,HV.men,HV.menL,HV.norm,HV.toC,HV.toCL,cnt]) (by simp[aY,fob_at,upd_at,none0_at,bO,HO.men,HV.men,HV.menL,HV.norm,HV.toC,HV.toCL,cnt])) ?_;rintro⟨i,hi⟩;have hcn:cnt (V.take i)≤i:=by have:=aX4 (V.take i);simp at this;omega
 refine RF ?_;refine aC fun K hK=>?_;refine aK (b:=decide ((i:Int)<V.length)) rfl (fun hb=>?_) (fun hb=>?_)
 ·
  have hlt:i<V.length:=by simpa using hb
  have hct:=lJ (l:=V) (k:=i) hlt;have hw3:IntKind.i64.wrap ((cnt (V.take i):Int)+1)=((cnt (V.take i)+1:Nat):Int):=by rw[cC _ (by omega)];rfl
  have hli:lo+i<L.length:=by omega
  have hvi:L[lo+i]=V[i]:=by simp[hV]
  have hli2:lo+i<(L.map bC).length:=by simpa using hli
  have hml:i<m-lo:=by omega
  clear hb;refine aM ?_;refine TQ rI ?_;refine AX (hK _ _ _ ?_);clear hK K;refine aC fun K hK=>?_;refine aN ?_;refine R0 ?_ (e:=fun _ h_=>by simp only[↓sP,sA,tyS,simprocAttr,rI,List.length_map,Int.natCast_nonneg,Int.ofNat_lt,h0,hm,hml,hli,bK hli,bC];exact AX h_);refine RF ?_;refine aK (b:=L[lo+i]) rfl (fun hb=>?_) (fun hb=>?_)
  · rw[hvi]at hb;rw[if_pos (by simpa[hlt]using hb)]at hct;refine aE (by kernel_rfl) ?_;simp only[↓sP,sA,tyS,simprocAttr,rI,hw3];refine AX (hK _ _ _ ?_);clear hK K;refine aE (by kernel_rfl) ?_;simp only[↓sP,sA,tyS,simprocAttr,rI,cC ((i:Int)+1) (by omega)];refine⟨⟨i+1,hlt⟩,aO (by omega) (by simp[aX,fin_at,finA_at,upd_at,HV.men,HV.menL,HV.norm,HV.toC,HV.toCL,hct]) (by simp[aY,fob_at,upd_at,none0_at,bO,HO.men,HV.men,HV.menL,HV.norm,HV.toC,HV.toCL,hct]),?_⟩;show V.length-(i+1)<V.length-i;omega
  rw[hvi]at hb;rw[if_neg (by simp[hlt,hb])]at hct;refine aM ?_;refine TQ rI ?_;refine AX (hK _ _ _ ?_);clear hK K;refine aE (by kernel_rfl) ?_;simp only[↓sP,sA,tyS,simprocAttr,rI,cC ((i:Int)+1) (by omega)];refine⟨⟨i+1,hlt⟩,aO (by omega) (by simp[aX,fin_at,finA_at,upd_at,HV.men,HV.menL,HV.norm,HV.toC,HV.toCL,hct]) (by simp[aY,fob_at,upd_at,none0_at,bO,HO.men,HV.men,HV.menL,HV.norm,HV.toC,HV.toCL,hct]),?_⟩;show V.length-(i+1)<V.length-i;omega
 refine aZ ?_;refine TQ rI ?_;clear hK K;refine AX (hK _ _ _ ?_);clear hK K;refine aC fun K hK=>?_;have hei:i=V.length:=by simp only[decide_eq_false_iff_not]at hb;omega
 subst hei;rw[List.take_length]at hcn⊢;clear hb;refine RF ?_;refine aN ?_;refine RF ?_;refine aK (b:=(n.k==2)) rfl (fun hb=>?_) (fun hb=>?_)
 ·
  refine aC fun K hK=>Rg ?_;iterate 5 refine S0 ?_ (e:=fun _ h_=>by simp only[sH,↓sP,sA,tyS,simprocAttr,rI,hrd,List.length_map,h0,hlo,hm];exact AX h_)
  simp only[sE,↓reduceIte,simprocAttr,rI];refine AX (hK _ _ _ ?_);clear hK K;refine aH ?_;simp only[bS,Tryz.results43,bP,bR,bN,↓sP,sA,tyS,simprocAttr,rI];have h2:n.k=2:=by simpa using hb
  exact gU [] [] (.c (.bool ((cnt V:Int)==V.length))) [.row 4 1 (L.map bC)] rfl (by simp[HV.men]) ⟨⟨trivial,by simp,_,rfl,rfl⟩,trivial⟩ rfl List.nodup_nil (by simp) (by simp) ⟨by rw[iN,if_pos h2];congr 2;rw[Bool.eq_iff_iff];simp;omega,rfl⟩
 have h2:n.k≠2:=by simpa using hb
 refine RF ?_;refine aK (b:=(n.k==3)) rfl (fun hb=>?_) (fun hb=>?_)
 ·
  refine RF ?_;refine aH ?_;simp only[bS,Tryz.results43,bP,bR,bN,↓sP,sA,tyS,simprocAttr,rI];have h3:n.k=3:=by simpa using hb
  exact gU [] [] (.c (.bool (decide ((1:Int)≤cnt V)))) [.row 4 1 (L.map bC)] rfl (by simp[HV.men]) ⟨⟨trivial,by simp,_,rfl,rfl⟩,trivial⟩ rfl List.nodup_nil (by simp) (by simp) ⟨by rw[iN,if_neg h2,if_pos h3];congr 2;rw[Bool.eq_iff_iff];simp;omega,rfl⟩
 refine aM ?_;refine TQ rI ?_;refine AX (hK _ _ _ ?_);clear hK K;refine aC fun K hK=>Rg ?_;iterate 5 refine SF ?_
 simp only[sE,↓reduceIte,simprocAttr,rI];refine AX (hK _ _ _ ?_);clear hK K;refine aH ?_;simp only[bS,Tryz.results43,bP,bR,bN,↓sP,sA,tyS,simprocAttr,rI];have h3:n.k≠3:=by simpa using hb
 exact gU [] [] (.c (.bool (decide (n.n≤cnt V)))) [.row 4 1 (L.map bC)] rfl (by simp[HV.men]) ⟨⟨trivial,by simp,_,rfl,rfl⟩,trivial⟩ rfl List.nodup_nil (by simp) (by simp) ⟨by rw[iN,if_neg h2,if_neg h3],rfl⟩
theorem aV (id n sz m:Nat):(cI id n sz m).sto=true:=by unfold cI;split<;>rfl
theorem aS (id n sz m:Nat):(cI id n sz m).cells=1:=by unfold cI;split<;>rfl
theorem aR (id n sz m:Nat):(cI id n sz m).toC=none:=by unfold cI;split<;>rfl
theorem zF (id n sz m:Nat):(cI id n sz m= .junk)=False:=by unfold cI;split<;>simp
theorem cA (id n sz:Nat):cI id n sz n= .own id n:=by unfold cI;rw[if_pos rfl]
theorem bW {id n sz m:Nat}(h:m≠n):cI id n sz m= .osl id n 0 sz m:=by unfold cI;rw[if_neg h]
theorem bG {M:Nat→Prop}{id n sz m:Nat}(h:M id):(cI id n sz m).men M:=by unfold cI;split<;>exact h
theorem cI9 (l:List Nd)(hn: ∀n∈l,n.q.t.length<2^63)(tr:List Bool)(htr:tr.length<2^63):cE Tryz.prog 18 [.slc (l.map Nd.cv),.slc (tr.map bC)] (fun v=>v= .bool (eH l tr)):=by
 refine FW Tryz.func18 ?_;have F:=rI;refine RF ?_;refine aC fun K hK=>Rg ?_;refine SF ?_;refine HS rfl rfl fun K' hK'=>T6 ?_;refine C1 (uF l hn) ?_;rintro u rfl;refine AX (hK' _ _ ?_);clear hK' K';iterate 3 refine SF ?_
 simp only[sE,↓reduceIte,simprocAttr,rI];refine AX (hK _ _ _ ?_);clear hK K;refine aC fun K hK=>?_;refine RF ?_;refine aK (b:=(((dN l).length:Int)==0)) rfl (fun hb=>?_) (fun hb=>?_)
 ·
  refine RF ?_;refine aH ?_;simp only[bS,Tryz.results18,bP,bR,bN,↓sP,sA,tyS,simprocAttr,rI];have hlv:dN l=[]:=by simpa using hb
  have htf:dU l=false:=by
   cases h:dU l with
   |false=>rfl
   |true=>
    have h1:=aO3 (eT h);rw[kN h]at hlv;have h2:=gE l 0;rw[hlv]at h2;simp at h2;omega
  exact aJ [] (.bool false) rfl (by rw[eH,htf];rfl)
 have htt:dU l=true:=by
  cases h:dU l with
  |true=>rfl
  |false=>rw[vK h]at hb;simp at hb
 have ht:=eT htt;have hl:=ht.len;have hlen:(dN l).length=lv l:=by rw[kN htt,gE]
 rw[hlen];clear hb;refine aM ?_;refine TQ rI ?_;refine AX (hK _ _ _ ?_);clear hK K;refine RF ?_;refine aC fun K hK=>?_;refine aC fun K hK=>Rg ?_;refine S0 ?_ (e:=fun _ h_=>by simp only[sH,↓sP,sA,tyS,simprocAttr,rI,denilL_Nd,mZ,iL,List.range',List.map_cons,List.map_nil];exact AX h_);refine HS rfl rfl fun K' hK'=>?_;simp only[sH,↓sP,sA,tyS,simprocAttr,rI,denilL_Nd,mZ,iL,List.range',List.map_cons,List.map_nil];refine tR (args:=[_]) (cI8 l) (by simp) ⟨rfl,rfl,rfl,rfl⟩ ?_;refine AX (hK' _ _ ?_);clear hK' K';simp only[sE,↓reduceIte,simprocAttr,rI];refine AX (hK _ _ _ ?_);clear hK K;refine aN ?_;refine dX 36 0 4 1 rfl rfl rfl rfl ?_;refine aC8 (ids:=[44]) (fin [(3,.ptr 0 0),(5,.ptr 20 0),(6,.ptr 36 0)]) (fun i=>fob [(0,.box 37 (.c (.slc (tr.map bC)))),(20,.box 3 (.c (.int .i64 (lv (l.take (l.length-i)):Nat)))),(36,.box 37 (cI 48 (cN l tr i).1.length 1 (cN l tr i).2)),(48,.row 4 1 ((cN l tr i).1.map bC))]) 20000 (fun i=>EvOk l tr i) (EvOk.zero l tr) (bO4 l (by omega)) rfl rfl (by decide) ?_ ?_ ?_ ?_ ?_ rfl rfl ?_ ?_
 ·
  intro j x hx
  match j,hx with
  |0,hx=>cases hx;rfl
 · exact aO (by omega) (by simp[aX,fin_at,finA_at,upd_at,HV.men,HV.menL,HV.norm,HV.toC,HV.toCL,mZ,cN,cA,List.take_length]) (by simp[aY,fob_at,upd_at,none0_at,bO,HO.men,HV.men,HV.menL,HV.norm,HV.toC,HV.toCL,mZ,cN,cA,List.take_length])
 · intro id hid;simp only[List.mem_cons,List.not_mem_nil,or_false]at hid;subst hid;rfl
 · intro x hx;obtain⟨p,_,rfl⟩:=List.mem_map.1 hx;rfl
 · intro p hp;simp only[List.mem_cons,List.not_mem_nil,or_false]at hp;rcases hp with rfl|rfl<;>exact Nat.le_of_ble_eq_true rfl
 ·
  intro i hi hΦ K hK;have hi2:i<l.length:=by rw[←sT l];exact hi
  have hp:l.length-1-i<l.length:=by omega
  rw[cA3 hi hp];simp only[xO];obtain⟨w,hw⟩: ∃w,w=(cN l tr i).1:=⟨_,rfl⟩;obtain⟨m,hm⟩: ∃m,m=(cN l tr i).2:=⟨_,rfl⟩;have hfit:=hΦ.fit;have hsmall:=hΦ.small;rw[←hw,←hm]at hfit;rw[←hw]at hsmall;rw[←hw,←hm];refine aE (by kernel_rfl) ?_;refine TQ rI ?_;refine AX (hK _ _ _ ?_);clear hK K;refine aN ?_;refine aC fun K hK=>?_;refine RF ?_;refine aK (b:=(l[l.length-1-i].k==1)) rfl (fun hb=>?_) (fun hb=>?_)
  ·
   have hk1:l[l.length-1-i].k=1:=by simpa using hb
   obtain⟨hok,hst⟩:=hΦ.leaf hi2 hk1;rw[←hw,←hm]at hst;have hlv:=wE hp;rw[if_pos hk1,show l.length-1-i+1=l.length-i from by omega]at hlv;have hlb:=zE l (l.length-1-i);have hw1:IntKind.i64.wrap ((lv (l.take (l.length-i)):Int)-1)=((lv (l.take (l.length-1-i)):Nat):Int):=by rw[hlv,cC _ (by omega)];omega
   obtain⟨x,hx⟩: ∃x,x=lv (l.take (l.length-1-i)):=⟨_,rfl⟩;have hxl:l.length-(i+1)=l.length-1-i:=by omega
   rw[←hx]at hw1 hst;clear hb;have F:=aI rI hw1;refine RF ?_;by_cases hlt:x<tr.length
   ·
    by_cases hmw:m=w.length
    ·
     subst hmw;have hg:tr.getD x false=tr[x]:=by simp[hlt]
     refine aC fun K hK=>eE mixed [(0,[],[]),(1,[],[]),(2,[],[]),(3,[],[]),(4,[],[]),(5,[],[]),(6,[],[]),(7,[],[]),(8,[],[]),(9,[],[]),(10,[],[]),(11,[],[]),(12,[],[]),(13,[],[])] [0,0,0,4,14,30,62,62,254,510,1022,2046,4095,8191] (by kernel_rfl) (by kernel_rfl) (by kernel_rfl) (by kernel_rfl) rfl (by kernel_rfl) ?_;iterate 14 refine WG0 ?_ (e:=fun _ h_=>by simp only[sH,↓sP,sA,tyS,simprocAttr,rI,Int.natCast_nonneg,Int.ofNat_lt,hlt,bK hlt,bC,cA,aV,aS,aR];exact AX h_)
     simp only[sE,↓reduceIte,simprocAttr,rI];refine AX (hK _ _ _ ?_);clear hK K;refine aZ ?_;refine TQ rI ?_;clear hK K;rw[hg,aG1]at hst;refine⟨(show Fits 20000 _ _ (fin []) _ 20000 from aO (by omega) trivial ?_),hok⟩;rw[hst,hxl,←hx];simp[aY,fob_at,upd_at,none0_at,bO,HO.men,HV.men,HV.menL,HV.norm,HV.toC,HV.toCL,cA,bC]
    have hg:tr.getD x false=tr[x]:=by simp[hlt]
    have hmw2:m+1≤w.length:=by omega
    have hw0:0<w.length:=by omega
    have hrow:(mB w m tr[x]).map bC=(w.map bC).take m++[.bool tr[x]]++(w.map bC).drop (m+1):=by simp[mB,List.map_take,List.map_drop,bC]
    refine aC fun K hK=>eE mixed [(0,[],[]),(1,[],[]),(2,[],[]),(3,[],[]),(4,[],[]),(5,[],[]),(6,[],[]),(7,[],[]),(8,[],[]),(9,[],[]),(10,[],[]),(11,[],[]),(12,[],[]),(13,[],[])] [0,0,0,4,14,30,62,62,254,510,1022,2046,4095,8191] (by kernel_rfl) (by kernel_rfl) (by kernel_rfl) (by kernel_rfl) rfl (by kernel_rfl) ?_;iterate 12 refine WG0 ?_ (e:=fun _ h_=>by simp only[sH,↓sP,sA,tyS,simprocAttr,rI,Int.natCast_nonneg,Int.ofNat_lt,hlt,bK hlt,bC,bW hmw,aV,aS,aR,hw0,hmw2];exact AX h_)
    refine cL (g:=none) rfl rfl fun K' hK'=>?_;simp only[sN,↓hopH.eq_def,sH,↓sP,sA,tyS,simprocAttr,rI,Int.natCast_nonneg,Int.ofNat_lt,hlt,bK hlt,bC,bW hmw,aV,aS,aR,hw0,hmw2];refine AX (hK' _ _ ?_);clear hK' K';refine WG0 ?_ (e:=fun _ h_=>by simp only[sH,↓sP,sA,tyS,simprocAttr,rI,Int.natCast_nonneg,Int.ofNat_lt,hlt,bK hlt,bC,bW hmw,aV,aS,aR,hw0,hmw2];exact AX h_);simp only[sE,↓reduceIte,simprocAttr,rI];refine AX (hK _ _ _ ?_);clear hK K;refine aZ ?_;refine TQ rI ?_;clear hK K;rw[hg]at hst;refine⟨(show Fits 20000 _ _ (fin []) _ 20000 from aO (by omega) trivial ?_),hok⟩;rw[hst,hxl,←hx];simp[aY,fob_at,upd_at,none0_at,bO,HO.men,HV.men,HV.menL,HV.norm,HV.toC,HV.toCL,mC hmw2,hrow,bG,aR]
   by_cases hmw:m=w.length
   ·
    subst hmw;have hg:tr.getD x false=false:=by simp[List.getD_eq_getElem?_getD,List.getElem?_eq_none (Nat.le_of_not_lt hlt)]
    have hlt':decide ((x:Int)<tr.length)=false:=by simp;omega
    refine aC fun K hK=>eE mixed [(0,[],[]),(1,[],[]),(2,[],[]),(3,[],[]),(4,[],[]),(5,[],[]),(6,[],[]),(7,[],[]),(8,[],[]),(9,[],[]),(10,[],[]),(11,[],[]),(12,[],[]),(13,[],[])] [0,0,0,4,14,30,62,62,254,510,1022,2046,4095,8191] (by kernel_rfl) (by kernel_rfl) (by kernel_rfl) (by kernel_rfl) rfl (by kernel_rfl) ?_;have F:=aI rI (aI hlt' (aI @cA (aI @aV (aI @aS @aR))));iterate 14 refine WGF ?_
    simp only[sE,↓reduceIte,simprocAttr,rI];refine AX (hK _ _ _ ?_);clear hK K;refine aZ ?_;refine TQ rI ?_;clear hK K;rw[hg,aG1]at hst;refine⟨(show Fits 20000 _ _ (fin []) _ 20000 from aO (by omega) trivial ?_),hok⟩;rw[hst,hxl,←hx];simp[aY,fob_at,upd_at,none0_at,bO,HO.men,HV.men,HV.menL,HV.norm,HV.toC,HV.toCL,cA,bC]
   have hg:tr.getD x false=false:=by simp[List.getD_eq_getElem?_getD,List.getElem?_eq_none (Nat.le_of_not_lt hlt)]
   have hlt':decide ((x:Int)<tr.length)=false:=by simp;omega
   have hmw2:m+1≤w.length:=by omega
   have hw0:0<w.length:=by omega
   have hrow:(mB w m false).map bC=(w.map bC).take m++[.bool false]++(w.map bC).drop (m+1):=by simp[mB,List.map_take,List.map_drop,bC]
   refine aC fun K hK=>eE mixed [(0,[],[]),(1,[],[]),(2,[],[]),(3,[],[]),(4,[],[]),(5,[],[]),(6,[],[]),(7,[],[]),(8,[],[]),(9,[],[]),(10,[],[]),(11,[],[]),(12,[],[]),(13,[],[])] [0,0,0,4,14,30,62,62,254,510,1022,2046,4095,8191] (by kernel_rfl) (by kernel_rfl) (by kernel_rfl) (by kernel_rfl) rfl (by kernel_rfl) ?_;iterate 12 refine WG0 ?_ (e:=fun _ h_=>by simp only[sH,↓sP,sA,tyS,simprocAttr,rI,hlt',bW hmw,aV,aS,aR,hw0,hmw2];exact AX h_)
   refine cL (g:=none) rfl rfl fun K' hK'=>?_;simp only[sN,↓hopH.eq_def,sH,↓sP,sA,tyS,simprocAttr,rI,hlt',bW hmw,aV,aS,aR,hw0,hmw2];refine AX (hK' _ _ ?_);clear hK' K';refine WG0 ?_ (e:=fun _ h_=>by simp only[sH,↓sP,sA,tyS,simprocAttr,rI,hlt',bW hmw,aV,aS,aR,hw0,hmw2];exact AX h_);simp only[sE,↓reduceIte,simprocAttr,rI];refine AX (hK _ _ _ ?_);clear hK K;refine aZ ?_;refine TQ rI ?_;clear hK K;rw[hg]at hst;refine⟨(show Fits 20000 _ _ (fin []) _ 20000 from aO (by omega) trivial ?_),hok⟩;rw[hst,hxl,←hx];simp[aY,fob_at,upd_at,none0_at,bO,HO.men,HV.men,HV.menL,HV.norm,HV.toC,HV.toCL,mC hmw2,hrow,bG,aR]
  have hk1:l[l.length-1-i].k≠1:=by simpa using hb
  obtain⟨hcm,hok,hst⟩:=hΦ.inner ht hi2 hk1;rw[←hw,←hm]at hst;rw[←hm]at hcm;obtain⟨c1,c2,c3,c4⟩:=eS (ht.node _ (List.getElem_mem hp));have c5:=c4 hk1;have hlv:=wE hp;rw[if_neg hk1,Nat.add_zero,show l.length-1-i+1=l.length-i from by omega]at hlv;have hxl:l.length-(i+1)=l.length-1-i:=by omega
  obtain⟨f,hf⟩: ∃f,f=m-l[l.length-1-i].c.toNat:=⟨_,rfl⟩;have hfc:m-f=l[l.length-1-i].c.toNat:=by omega
  rw[←hf,←hfc]at hst;have hw2:IntKind.i64.wrap ((m:Int)-l[l.length-1-i].c)=(f:Int):=by rw[cC _ (by omega)];omega
  have hf1:f+1≤w.length:=by omega
  have hfw:f≤w.length:=by omega
  have hfm:f≤m:=by omega
  have hw0:0<w.length:=by omega
  obtain⟨h,hh⟩: ∃h,h=iN l[l.length-1-i] ((w.drop f).take (m-f)):=⟨_,rfl⟩;rw[←hh]at hst;have hrow:(mB w f h).map bC=(w.map bC).take f++[.bool h]++(w.map bC).drop (f+1):=by simp[mB,List.map_take,List.map_drop,bC]
  clear hb;refine aM ?_;refine TQ rI ?_;refine AX (hK _ _ _ ?_);clear hK K;by_cases hmw:m=w.length
  ·
   rw[←hmw]at hw0 hf1 hfw;refine aC fun K hK=>Rg ?_;iterate 6 refine S0 ?_ (e:=fun _ h_=>by simp only[sH,↓sP,sA,tyS,simprocAttr,rI,cA,←hmw,List.length_map,hw2];exact AX h_)
   simp only[sE,↓reduceIte,simprocAttr,rI];refine AX (hK _ _ _ ?_);clear hK K;refine eE mixed [(0,[],[]),(1,[],[]),(2,[],[]),(3,[],[]),(4,[],[]),(5,[],[]),(6,[],[]),(7,[],[0,1,2]),(8,[],[]),(9,[],[]),(10,[],[])] [0,0,3,0,0,0,48,120,248,511,1023] (by kernel_rfl) (by kernel_rfl) (by kernel_rfl) (by kernel_rfl) rfl (by kernel_rfl) ?_;iterate 7 refine WG0 ?_ (e:=fun _ h_=>by simp only[sH,↓sP,sA,tyS,simprocAttr,rI,cA,aV,aS,aR,←hmw,List.length_map,Int.natCast_nonneg,Int.ofNat_le,hfw];exact AX h_)
   refine pN (g:=none) rfl rfl fun K' hK'=>?_;simp only[sN,↓hopH.eq_def,sH,↓sP,sA,tyS,simprocAttr,rI,cA,aV,aS,aR,←hmw,List.length_map,Int.natCast_nonneg,Int.ofNat_le,hfw];refine aO9 [48] (aT5 l[l.length-1-i] w f m (by omega) (by omega) (by omega) (by omega)) (by first|rfl|(rw[←hmw];rfl)) ⟨rfl,trivial⟩ (by simp) ?_ ?_ ?_ ?_ ?_
   ·
    intro j hj
    match j,hj with
    |0,_=>exact .inr ⟨by decide,fun r os' h=>by rw[h.2]⟩
   · exact⟨rfl,rfl,rfl,rfl⟩
   · simp[dS,HO.men]
   · simp[HV.menL,HV.men]
   rintro r os' ⟨rfl,rfl⟩;rw[←hh,show∀n ob,jD (sub [48] n) ob 0 [.row 4 1 (w.map bC)]=upd ob 48 (some (.row 4 1 (w.map bC)))from fun _ _=>rfl,show∀n b,HV.ren (sub [48] n) (.c b)= .c b from fun _ _=>rfl];refine AX (hK' _ _ ?_);clear hK' K';refine WG0 ?_ (e:=fun _ h_=>by simp only[sH,↓sP,sA,tyS,simprocAttr,rI,cA,aV,aS,aR,←hmw,List.length_map,Int.natCast_nonneg,Int.ofNat_le,hfw];exact AX h_);refine cL (g:=none) rfl rfl fun K' hK'=>?_;simp only[sN,↓hopH.eq_def,sH,↓sP,sA,tyS,simprocAttr,rI,cA,aV,aS,aR,←hmw,List.length_map,Int.natCast_nonneg,Int.ofNat_le,hfw];refine AX (hK' _ _ ?_);clear hK' K';refine WG0 ?_ (e:=fun _ h_=>by simp only[sH,↓sP,sA,tyS,simprocAttr,rI,cA,aV,aS,aR,←hmw,List.length_map,Int.natCast_nonneg,Int.ofNat_le,hfw];exact AX h_);simp only[sE,↓reduceIte,simprocAttr,rI];refine⟨(show Fits 20000 _ _ (fin []) _ 20000 from aO (by omega) trivial ?_),hok⟩;rw[hst,hxl,hlv];simp[aY,fob_at,upd_at,none0_at,bO,HO.men,HV.men,HV.menL,HV.norm,HV.toC,HV.toCL,mC (show f+1≤w.length by omega),hrow,bG,aR,←hmw]
  refine aC fun K hK=>Rg ?_;iterate 6 refine S0 ?_ (e:=fun _ h_=>by simp only[sH,↓sP,sA,tyS,simprocAttr,rI,bW hmw,List.length_map,hw0,hfit,Nat.zero_le,List.length_take,List.length_drop,Nat.sub_zero,Nat.min_eq_left hfit,hw2];exact AX h_)
  simp only[sE,↓reduceIte,simprocAttr,rI];refine AX (hK _ _ _ ?_);clear hK K;refine eE mixed [(0,[],[]),(1,[],[]),(2,[],[]),(3,[],[]),(4,[],[]),(5,[],[]),(6,[],[]),(7,[],[0,1,2]),(8,[],[]),(9,[],[]),(10,[],[])] [0,0,3,0,0,0,48,120,248,511,1023] (by kernel_rfl) (by kernel_rfl) (by kernel_rfl) (by kernel_rfl) rfl (by kernel_rfl) ?_;iterate 2 refine WG0 ?_ (e:=fun _ h_=>by simp only[sH,↓sP,sA,tyS,simprocAttr,rI,aV,aS,aR,bW hmw,List.length_map,Int.natCast_nonneg,Int.ofNat_le,hfw,hfm];exact AX h_)
  refine cL (g:=none) rfl rfl fun K' hK'=>?_;simp only[sN,↓hopH.eq_def,sH,↓sP,sA,tyS,simprocAttr,rI,aV,aS,aR,bW hmw,List.length_map,Int.natCast_nonneg,Int.ofNat_le,hfw,hfm];refine AX (hK' _ _ ?_);clear hK' K';iterate 3 refine WG0 ?_ (e:=fun _ h_=>by simp only[sH,↓sP,sA,tyS,simprocAttr,rI,aV,aS,aR,bW hmw,List.length_map,Int.natCast_nonneg,Int.ofNat_le,hfw,hfm];exact AX h_)
  refine cL (g:=none) rfl rfl fun K' hK'=>?_;simp only[sN,↓hopH.eq_def,sH,↓sP,sA,tyS,simprocAttr,rI,aV,aS,aR,bW hmw,List.length_map,Int.natCast_nonneg,Int.ofNat_le,hfw,hfm];refine AX (hK' _ _ ?_);clear hK' K';refine pN (g:=none) rfl rfl fun K' hK'=>?_;simp only[sN,↓hopH.eq_def,sH,↓sP,sA,tyS,simprocAttr,rI,aV,aS,aR,bW hmw,List.length_map,Int.natCast_nonneg,Int.ofNat_le,hfw,hfm];refine aO9 [48] (aT5 l[l.length-1-i] w f m (by omega) (by omega) (by omega) (by omega)) (by first|rfl|(rw[←hmw];rfl)) ⟨rfl,trivial⟩ (by simp) ?_ ?_ ?_ ?_ ?_
  ·
   intro j hj
   match j,hj with
   |0,_=>exact .inr ⟨by decide,fun r os' h=>by rw[h.2]⟩
  · exact⟨rfl,rfl,rfl,rfl⟩
  · simp[dS,HO.men]
  · simp[HV.menL,HV.men]
  rintro r os' ⟨rfl,rfl⟩;rw[←hh,show∀n ob,jD (sub [48] n) ob 0 [.row 4 1 (w.map bC)]=upd ob 48 (some (.row 4 1 (w.map bC)))from fun _ _=>rfl,show∀n b,HV.ren (sub [48] n) (.c b)= .c b from fun _ _=>rfl];refine AX (hK' _ _ ?_);clear hK' K';refine WG0 ?_ (e:=fun _ h_=>by simp only[sH,↓sP,sA,tyS,simprocAttr,rI,aV,aS,aR,bW hmw,List.length_map,Int.natCast_nonneg,Int.ofNat_le,hfw,hfm];exact AX h_);refine cL (g:=none) rfl rfl fun K' hK'=>?_;simp only[sN,↓hopH.eq_def,sH,↓sP,sA,tyS,simprocAttr,rI,aV,aS,aR,bW hmw,List.length_map,Int.natCast_nonneg,Int.ofNat_le,hfw,hfm];refine AX (hK' _ _ ?_);clear hK' K';refine WG0 ?_ (e:=fun _ h_=>by simp only[sH,↓sP,sA,tyS,simprocAttr,rI,aV,aS,aR,bW hmw,List.length_map,Int.natCast_nonneg,Int.ofNat_le,hfw,hfm];exact AX h_);simp only[sE,↓reduceIte,simprocAttr,rI];refine⟨(show Fits 20000 _ _ (fin []) _ 20000 from aO (by omega) trivial ?_),hok⟩;rw[hst,hxl,hlv];simp[aY,fob_at,upd_at,none0_at,bO,HO.men,HV.men,HV.menL,HV.norm,HV.toC,HV.toCL,mC hf1,hrow,bG,aR]
 intro hΦ;simp only[sE,↓reduceIte,simprocAttr,rI];have hfin:=hΦ;rw[sT]at hfin;obtain⟨h1,h0,h2⟩:=hfin.fin ht;rw[sT,h1];obtain⟨w,hw⟩: ∃w,w=(cN l tr l.length).1:=⟨_,rfl⟩;rw[←hw]at h0;have h3:eH l tr=w[0]:=by rw[h2];simp only[hw]
 rw[←hw];refine AX (hK _ _ _ ?_);clear hK K;by_cases hw1:w.length=1
 ·
  rw[hw1];refine aC fun K hK=>Rg ?_;iterate 4 refine S0 ?_ (e:=fun _ h_=>by simp only[sH,↓sP,sA,tyS,simprocAttr,rI,cA,bK h0,bC,Nat.lt_irrefl];exact AX h_)
  simp only[sE,↓reduceIte,simprocAttr,rI];refine AX (hK _ _ _ ?_);clear hK K;refine aH ?_;simp only[bS,Tryz.results18,bP,bR,bN,↓sP,sA,tyS,simprocAttr,rI];exact aJ [] (.bool w[0]) rfl (by rw[h3])
 refine aC fun K hK=>Rg ?_;iterate 4 refine S0 ?_ (e:=fun _ h_=>by simp only[sH,↓sP,sA,tyS,simprocAttr,rI,bW (Ne.symm hw1),bK h0,bC,h0];exact AX h_)
 simp only[sE,↓reduceIte,simprocAttr,rI];refine AX (hK _ _ _ ?_);clear hK K;refine aH ?_;simp only[bS,Tryz.results18,bP,bR,bN,↓sP,sA,tyS,simprocAttr,rI];exact aJ [] (.bool w[0]) rfl (by rw[h3])
end Go.Proofs.YthedbjfipmkpiaaGreatDoor
