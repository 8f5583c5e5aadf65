/- Part of a proof: walks of functions of the program, by contracts, and the rules they use. By an AI agent. -/
import Derived.Test.YthedbjfipmkpiaaGreatDoorHdSq
import Derived.Test.YthedbjfipmkpiaaGreatDoorHdTf
import Derived.Test.YthedbjfipmkpiaaGreatDoorHdSb
import Derived.Test.YthedbjfipmkpiaaGreatDoorPl28g
set_option linter.unusedSimpArgs false
set_option linter.unusedVariables false
set_option linter.defProp false
namespace Go.Proofs.YthedbjfipmkpiaaGreatDoor
open Go Go.Hl Go.Pl
set_option maxRecDepth 10000
set_option maxHeartbeats 2000000
def iC (n:Nat):CV:= .int .i64 n
theorem cJ (l:List Nat):CV.denilL (l.map iC)=l.map iC:=bU (fun _=>rfl) l
theorem bV8 (l:List Nd)(ht:IsTree l)(i:Nat)(hi:i<l.length):dB Tryz.prog 105 [.slc (l.map Nd.cv),.int .i64 i] (fun v=>v= .int .i64 (aft l i:Nat)):=by
 have hl:=ht.len;refine bD Tryz.func105 rfl (by kernel_rfl) (bH _) (Nat.le_of_ble_eq_true rfl) ?_;refine R0 ?_;refine aE fun K hK=>?_;refine R0 ?_;refine aP ?_;refine bR (α:={y:Nat×Nat//AftSt l i y.1 y.2∧y.1≤1+60*y.2}) (fun y=>(fin [(0,.c (.slc (l.map Nd.cv))),(1,.c (.int .i64 y.1.2)),(5,.c (.int .i64 y.1.1))],fob [])) 100 (fun y=>l.length-y.1.2) ⟨(1,i),⟨Nat.le_of_lt hi,rfl⟩,by omega⟩ (fF) ?_;rintro⟨⟨m,p⟩,hst,hm⟩;simp only at hst hm;have hp:=hst.1;refine aE fun K hK=>?_;refine R0 ?_;refine aG (b:=decide ((0:Int)<(m:Int))) rfl (fun hb=>?_) (fun hb=>?_)
 ·
  have hm1:0<m:=by simpa using hb
  have hpl:=hst.lt ht hi hm1;obtain⟨c1,c2,_,_⟩:=gF (ht.node _ (List.getElem_mem hpl));obtain⟨m',rfl⟩: ∃m',m=m'+1:=⟨m-1,by omega⟩;have hnx:=hst.next hpl;have hw1:IntKind.i64.wrap (((m'+1:Nat):Int)+(l[p].c-1))=((m'+l[p].c.toNat:Nat):Int):=by rw[dN _ (by omega)];omega
  have hw2:IntKind.i64.wrap ((p:Int)+1)=((p+1:Nat):Int):=by rw[dN _ (by omega)];rfl
  clear hb;refine aK ?_;refine T0 (hK _ _ _ ?_);clear hK K;refine aE fun K hK=>?_;refine aP ?_;refine aD (by kernel_rfl) ?_;simp only[sR,simprocAttr];iterate 9 refine S0 ?_ (e:=fun _ h_=>by simp only[sH,↓sP,sA,tyS,simprocAttr,Int.natCast_nonneg,Int.ofNat_lt,hpl,bA hpl,dN (l[p].c-1) (by omega),hw1];exact AX h_)
  refine T2 (hK _ _ _ ?_);clear hK K;refine aD (by kernel_rfl) ?_;simp only[↓sP,sA,tyS,simprocAttr,hw2];refine⟨⟨(m'+l[p].c.toNat,p+1),hnx,by simp only;omega⟩,fF,?_⟩;show l.length-(p+1)<l.length-p;omega
 refine bK ?_;simp only[↓sP,sA,tyS,simprocAttr];clear hK K;refine AX (hK _ _ _ ?_);clear hK K;refine R0 ?_;refine aJ ?_;simp only[aT,Tryz.results105,aR,aS,aQ,↓sP,sA,tyS,simprocAttr];have hm0:m=0:=by simpa using hb
 subst hm0;exact aW [] (.int .i64 p) rfl (by rw[hst.fin])
theorem aO7 (l:List Nd)(hn: ∀n∈l,n.q.t.length<2^63)(i:Int):dB Tryz.prog 75 [.slc (l.map Nd.cv),.int .i64 i] (fun v=>v= .slc ((sI l i).map iC)):=by
 refine bD Tryz.func75 rfl (by kernel_rfl) (bH _) (Nat.le_of_ble_eq_true rfl) ?_;refine R0 ?_;refine aE fun K hK=>?_;refine aE fun K hK=>Rg ?_;refine S0 ?_;refine aC (g:=none) rfl rfl fun K' hK'=>?_;simp only[sH,↓sP,sA,tyS,simprocAttr];refine aX (args:=[_]) (bB3 l hn) ⟨rfl,rfl,rfl,rfl⟩ ?_;rintro u rfl;refine AX (hK' _ _ ?_);clear hK' K';iterate 2 refine S0 ?_
 refine aL 8 rfl (fun h1_8=>?_) (fun h1_8=>?_)
 ·
  iterate 4 refine S0 ?_ (e:=fun _ h_=>by simp only[sH,↓sP,sA,tyS,simprocAttr,h1_8];exact AX h_)
  refine aL 12 rfl (fun h1_12=>?_) (fun h1_12=>?_)
  ·
   iterate 5 refine S0 ?_ (e:=fun _ h_=>by simp only[sH,↓sP,sA,tyS,simprocAttr,h1_8,h1_12];exact AX h_)
   refine T2 (hK _ _ _ ?_);clear hK K;refine aG (b:=true) rfl (fun hb=>?_) (fun hb=>?_)
   · refine R0 ?_;refine aJ ?_;simp only[aT,Tryz.results75,aR,aS,aQ,↓sP,sA,tyS,simprocAttr];exact aW [] (.slc []) rfl (by rw[pT (.inr (.inl (by simpa using h1_12)))];rfl)
   cases hb
  iterate 5 refine S0 ?_ (e:=fun _ h_=>by simp only[sH,↓sP,sA,tyS,simprocAttr,h1_8,h1_12];exact AX h_)
  refine aL 18 rfl (fun h1_18=>?_) (fun h1_18=>?_)
  ·
   simp only[h1_18];refine T2 (hK _ _ _ ?_);clear hK K;refine aG (b:=true) rfl (fun hb=>?_) (fun hb=>?_)
   · refine R0 ?_;refine aJ ?_;simp only[aT,Tryz.results75,aR,aS,aQ,↓sP,sA,tyS,simprocAttr];exact aW [] (.slc []) rfl (by rw[pT (.inr (.inr (by simpa using h1_18)))];rfl)
   cases hb
  simp only[h1_18];refine T2 (hK _ _ _ ?_);clear hK K;refine aG (b:=false) rfl (fun hb=>?_) (fun hb=>?_)
  · cases hb
  refine aK ?_;refine T0 (hK _ _ _ ?_);clear hK K;obtain⟨j,rfl⟩: ∃j:Nat,i=j:=⟨i.toNat,by simp at h1_12;omega⟩;have hj:j<l.length:=by simp at h1_18;omega
  have ht:=gC h1_8;have hcv:=aB9 h1_8 hj;have hl:=ht.len;obtain⟨c1,c2,_,_⟩:=gF (ht.node _ (List.getElem_mem hj));have hw2:IntKind.i64.wrap ((j:Int)+1)=((j+1:Nat):Int):=by rw[dN _ (by omega)];rfl
  clear h1_8 h1_12 h1_18;refine R0 ?_;refine aE fun K hK=>?_;refine R0 ?_ (e:=fun _ h_=>by simp only[↓sP,sA,tyS,simprocAttr,hw2];exact AX h_);refine aP ?_;refine jJ 5 0 3 1 rfl rfl rfl rfl ?_;refine bR (α:={k:Nat//k≤l[j].c.toNat}) (fun k=>(fin [(0,.c (.slc (l.map Nd.cv))),(1,.c (.int .i64 j)),(5,.own 72 k.1),(6,.c (.int .i64 (cZ l k.1 (j+1):Nat)))],fob [(72,.row 3 1 ((eH l k.1 (j+1)).map iC))])) 200 (fun k=>l[j].c.toNat-k.1) ⟨0,by omega⟩ (aI (by omega) (by simp[aY,fin_at,finA_at,upd_at,HV.men,HV.menL,HV.norm,HV.toC,HV.toCL,eH,cZ]) (by simp[bB,fob_at,upd_at,none0_at,bN,HO.men,HV.men,HV.menL,HV.norm,HV.toC,HV.toCL,eH,cZ])) ?_;rintro⟨k,hk⟩;have hkl:=kZ l k (j+1);refine aE fun K hK=>?_;refine aE fun K hK=>Rg ?_;iterate 8 refine S0 ?_ (e:=fun _ h_=>by simp only[sH,↓sP,sA,tyS,simprocAttr,Int.natCast_nonneg,Int.ofNat_lt,hj,bA hj,hkl];exact AX h_)
  refine T2 (hK _ _ _ ?_);clear hK K;refine aG (b:=decide ((k:Int)<l[j].c)) rfl (fun hb=>?_) (fun hb=>?_)
  ·
   have hkc:k<l[j].c.toNat:=by simp only[decide_eq_true_eq]at hb;omega
   have hkp:=jL ht hj hkc;have e:(eH l (k+1) (j+1)).map iC=(eH l k (j+1)).map iC++[CV.int .i64 (cZ l k (j+1):Nat)]:=by rw[gY,List.map_append];rfl
   refine aK ?_;refine T0 (hK _ _ _ ?_);clear hK K;refine aE fun K hK=>?_;refine aP ?_;refine aD (by kernel_rfl) ?_;simp only[sR,simprocAttr];iterate 5 refine S0 ?_ (e:=fun _ h_=>by simp only[sH,↓sP,sA,tyS,simprocAttr,hkl];exact AX h_)
   refine T2 (hK _ _ _ ?_);clear hK K;refine aD (by kernel_rfl) ?_;simp only[sR,simprocAttr];iterate 2 refine S0 ?_
   refine aC (g:=none) rfl rfl fun K' hK'=>?_;simp only[sH,↓sP,sA,tyS,simprocAttr];refine aX (args:=[_,_]) (bV8 l ht _ hkp) ⟨rfl,rfl,rfl,rfl⟩ ?_;rintro u rfl;refine AX (hK' _ _ ?_);clear hK' K';refine S0 ?_;simp only[sE,↓reduceIte,simprocAttr];refine⟨⟨k+1,hkc⟩,aI (by omega) (by simp[aY,fin_at,finA_at,upd_at,HV.men,HV.menL,HV.norm,HV.toC,HV.toCL,e,hkl,eG]) (by simp[bB,fob_at,upd_at,none0_at,bN,HO.men,HV.men,HV.menL,HV.norm,HV.toC,HV.toCL,e,hkl,eG]),?_⟩;show l[j].c.toNat-(k+1)<l[j].c.toNat-k;omega
  refine bK ?_;simp only[↓sP,sA,tyS,simprocAttr];clear hK K;refine AX (hK _ _ _ ?_);clear hK K;refine R0 ?_;refine aJ ?_;simp only[aT,Tryz.results75,aR,aS,aQ,↓sP,sA,tyS,simprocAttr];have hkc:k=l[j].c.toNat:=by simp only[decide_eq_false_iff_not]at hb;omega
  subst hkc;exact aW [72] (.slc ((eH l l[j].c.toNat (j+1)).map iC)) (by simp[HV.close,fob_at,hkl,HV.norm,HV.toC,cJ,CV.denil]) (by rw[hcv])
 iterate 9 refine S0 ?_ (e:=fun _ h_=>by simp only[sH,↓sP,sA,tyS,simprocAttr,h1_8];exact AX h_)
 refine T2 (hK _ _ _ ?_);clear hK K;refine aG (b:=true) rfl (fun hb=>?_) (fun hb=>?_)
 · refine R0 ?_;refine aJ ?_;simp only[aT,Tryz.results75,aR,aS,aQ,↓sP,sA,tyS,simprocAttr];exact aW [] (.slc []) rfl (by rw[pT (.inl h1_8)];rfl)
 cases hb
theorem oC (l:List Nd)(hn: ∀n∈l,n.q.t.length<2^63):dB Tryz.prog 29 [.slc (l.map Nd.cv)] (fun v=>v= .slc ((dA l).map iC)):=by
 refine bD Tryz.func29 rfl (by kernel_rfl) (bH _) (Nat.le_of_ble_eq_true rfl) ?_;refine R0 ?_;refine aE fun K hK=>?_;refine aE fun K hK=>Rg ?_;refine S0 ?_;refine aC (g:=none) rfl rfl fun K' hK'=>?_;simp only[sH,↓sP,sA,tyS,simprocAttr];refine aX (args:=[_]) (bB3 l hn) ⟨rfl,rfl,rfl,rfl⟩ ?_;rintro u rfl;refine AX (hK' _ _ ?_);clear hK' K';refine S0 ?_;refine T2 (hK _ _ _ ?_);clear hK K;refine aG (b:=!dZ l) rfl (fun hb=>?_) (fun hb=>?_)
 · refine R0 ?_;refine aJ ?_;simp only[aT,Tryz.results29,aR,aS,aQ,↓sP,sA,tyS,simprocAttr];exact aW [] (.slc []) rfl (by rw[uA (by simpa using hb)];rfl)
 have h8:dZ l=true:=by simpa using hb
 have ht:=gC h8;have hlv:=iF h8;have hl:=ht.len;clear hb;refine aK ?_;refine T0 (hK _ _ _ ?_);clear hK K;refine R0 ?_;refine aE fun K hK=>?_;refine R0 ?_;refine aP ?_;refine jJ 3 0 3 1 rfl rfl rfl rfl ?_;refine bR (α:={i:Nat//i≤l.length}) (fun i=>(fin [(3,.own 32 (dC 0 (l.take i.1)).length),(9,.c (.slc (l.map Nd.cv))),(10,.c (.int .i64 l.length)),(11,.c (.int .i64 i.1))],fob [(32,.row 3 1 ((dC 0 (l.take i.1)).map iC))])) 200 (fun i=>l.length-i.1) ⟨0,by omega⟩ (aI (by omega) (by simp[aY,fin_at,finA_at,upd_at,HV.men,HV.menL,HV.norm,HV.toC,HV.toCL,dC]) (by simp[bB,fob_at,upd_at,none0_at,bN,HO.men,HV.men,HV.menL,HV.norm,HV.toC,HV.toCL,dC])) ?_;rintro⟨i,hi⟩;have hfl:(dC 0 (l.take i)).length≤i:=by rw[fP];have:=bN3 (l.take i);simp at this;omega
 refine R0 ?_;refine aE fun K hK=>?_;refine aG (b:=decide ((i:Int)<l.length)) rfl (fun hb=>?_) (fun hb=>?_)
 ·
  have hlt:i<l.length:=by simpa using hb
  have e:=aS7 hlt;clear hb;refine aK ?_;refine T0 (hK _ _ _ ?_);clear hK K;refine aE fun K hK=>?_;refine aP ?_;refine aE fun K hK=>Rg ?_;iterate 6 refine S0 ?_ (e:=fun _ h_=>by simp only[sH,↓sP,sA,tyS,simprocAttr,Int.natCast_nonneg,Int.ofNat_lt,hlt,bA hlt];exact AX h_)
  refine T2 (hK _ _ _ ?_);clear hK K;refine R0 ?_;refine aG (b:=_) rfl (fun hb=>?_) (fun hb=>?_)
  ·
   rw[if_pos (by simpa using hb)]at e;refine aD (by kernel_rfl) ?_;simp only[sR,simprocAttr];iterate 5 refine S0 ?_
   refine T2 (hK _ _ _ ?_);clear hK K;refine aD (by kernel_rfl) ?_;simp only[↓sP,sA,tyS,simprocAttr,dN ((i:Int)+1) (by omega)];refine⟨⟨i+1,hlt⟩,aI (by omega) (by simp[aY,fin_at,finA_at,upd_at,HV.men,HV.menL,HV.norm,HV.toC,HV.toCL,e,iC]) (by simp[bB,fob_at,upd_at,none0_at,bN,HO.men,HV.men,HV.menL,HV.norm,HV.toC,HV.toCL,e,iC]),?_⟩;show l.length-(i+1)<l.length-i;omega
  rw[if_neg (by simpa using hb)]at e;refine aK ?_;refine T0 (hK _ _ _ ?_);clear hK K;refine aD (by kernel_rfl) ?_;simp only[↓sP,sA,tyS,simprocAttr,dN ((i:Int)+1) (by omega)];refine⟨⟨i+1,hlt⟩,aI (by omega) (by simp[aY,fin_at,finA_at,upd_at,HV.men,HV.menL,HV.norm,HV.toC,HV.toCL,e]) (by simp[bB,fob_at,upd_at,none0_at,bN,HO.men,HV.men,HV.menL,HV.norm,HV.toC,HV.toCL,e]),?_⟩;show l.length-(i+1)<l.length-i;omega
 refine bK ?_;simp only[↓sP,sA,tyS,simprocAttr];clear hK K;refine AX (hK _ _ _ ?_);clear hK K;refine R0 ?_;refine aJ ?_;simp only[aT,Tryz.results29,aR,aS,aQ,↓sP,sA,tyS,simprocAttr];have hei:i=l.length:=by simp only[decide_eq_false_iff_not]at hb;omega
 subst hei;rw[List.take_length];exact aW [32] (.slc ((dC 0 l).map iC)) (by simp[HV.close,fob_at,HV.norm,HV.toC,cJ,CV.denil]) (by rw[hlv])
def bC (b:Bool):CV:= .bool b
theorem oD (l:List Bool):CV.denilL (l.map bC)=l.map bC:=bU (fun _=>rfl) l
theorem bJ7 (l:List Nd)(hl:l.length<2^40):aF4 Tryz.prog 79 [(26,.slc (l.map Nd.cv))] (bwL l):=by
 refine aA6 Tryz.func79 rfl (by kernel_rfl) (Nat.le_of_ble_eq_true rfl) rfl fun L J hS hY=>?_;have e0:jZ [(26,CV.slc (l.map Nd.cv))]=fob [(0,.box 26 (.c (.slc (l.map Nd.cv))))]:=by
  funext i
  match i with
  |0=>rfl
  |i+1=>simp[jZ,fob,upd]
 have e1:gS (List.range [((26:Nat),CV.slc (l.map Nd.cv))].length)=[.ptr 0 0]:=rfl;rw[e0,e1];refine fH fun K hK=>nE hS rfl (aD (by kernel_rfl) ?_);simp only[sR,simprocAttr];iterate 4
  (refine aC (g:=none) rfl rfl fun K' hK'=>?_;simp only[sH,↓sP,sA,tyS,simprocAttr,rpost_exit,rpost_normal,rpost_ret,hscope_exit,hscope_normal,hscope_ret,ithen_normal,ithen_exit,ithen_ret,iblk_normal,iblk_exit,iblk_ret,dN ((l.length:Int)-1) (by omega),List.length_map];(repeat refine AI ?_);refine hK' _ _ ?_;clear hK' K')
 simp only[sE,↓reduceIte,simprocAttr,rpost_exit,rpost_normal,rpost_ret,hscope_exit,hscope_normal,hscope_ret,ithen_normal,ithen_exit,ithen_ret,iblk_normal,iblk_exit,iblk_ret];refine hK _ _ _ _ _ ?_;clear hK K;refine nV ?_;refine aN4 (α:={j:Nat//j≤l.length}) hS (fun j=>(fin [(0,.opq (.func (.yield L) #[] #[])),(1,.ptr 0 0),(3,.c (.int .i64 ((l.length:Int)-1-j.1)))],fob [(0,.box 26 (.c (.slc (l.map Nd.cv))))])) (fun j=>j.1) 100 (fun j=>l.length-j.1) ⟨0,Nat.zero_le _⟩ rfl (aI (by omega) (by simp[aY,fin_at,finA_at,upd_at,HV.men,HV.menL,HV.norm,HV.toC,HV.toCL]) (by simp[bB,fob_at,upd_at,none0_at,bN,HO.men,HV.men,HV.menL,HV.norm,HV.toC,HV.toCL])) rfl ?_;rintro⟨j,hj⟩;refine fH fun K hK=>?_;refine fH fun K1 hK1=>nE hS rfl (aD (by kernel_rfl) ?_);simp only[sR,simprocAttr];iterate 2
  (refine aC (g:=none) rfl rfl fun K' hK'=>?_;simp only[sH,↓sP,sA,tyS,simprocAttr,rpost_exit,rpost_normal,rpost_ret,hscope_exit,hscope_normal,hscope_ret,ithen_normal,ithen_exit,ithen_ret,iblk_normal,iblk_exit,iblk_ret];(repeat refine AI ?_);refine hK' _ _ ?_;clear hK' K')
 simp only[sE,↓reduceIte,simprocAttr,rpost_exit,rpost_normal,rpost_ret,hscope_exit,hscope_normal,hscope_ret,ithen_normal,ithen_exit,ithen_ret,iblk_normal,iblk_exit,iblk_ret];refine hK1 _ _ _ _ _ ?_;clear hK1 K1;refine jR (b:=decide ((0:Int)≤(l.length:Int)-1-j)) rfl (fun hb=>?_) (fun hb=>?_)
 ·
  have hlt:j<l.length:=by simp at hb;omega
  have hi2:l.length-1-j<l.length:=by omega
  have hxl:j<(bwL l).length:=by rw[rK];exact hlt
  have hx:=bV5 hxl hi2;have hcast:(l.length:Int)-1-j=((l.length-1-j:Nat):Int):=by omega
  have hw1:IntKind.i64.wrap (((l.length-1-j:Nat):Int)-1)=(l.length:Int)-1-((j:Int)+1):=by rw[dN _ (by omega)];omega
  refine nF ?_;simp only[sE,↓reduceIte,simprocAttr,rpost_exit,rpost_normal,rpost_ret,hscope_exit,hscope_normal,hscope_ret,ithen_normal,ithen_exit,ithen_ret,iblk_normal,iblk_exit,iblk_ret];refine hK _ _ _ _ _ ?_;clear hK K;refine fH fun K hK=>?_;refine nV ?_;refine fH fun K1 hK1=>sW (l:=L) 6 hS hY rfl (by kernel_rfl) (by decide) ?_;simp only[sR,List.range',simprocAttr];iterate 6
   (refine aC (g:=none) rfl rfl fun K' hK'=>?_;simp only[sH,↓sP,sA,tyS,simprocAttr,rpost_exit,rpost_normal,rpost_ret,hscope_exit,hscope_normal,hscope_ret,ithen_normal,ithen_exit,ithen_ret,iblk_normal,iblk_exit,iblk_ret,hcast,List.length_map,Int.natCast_nonneg,Int.ofNat_lt,hi2,bA hi2];(repeat refine AI ?_);refine hK' _ _ ?_;clear hK' K')
  rw[hlex];refine⟨_,_,_,hxl,rfl,rfl,rfl,rfl,rfl,?_,?_,?_⟩
  · rw[hx];simp only[hcast];rfl
  ·
   simp only[sR,List.range',simprocAttr];refine aC (g:=none) rfl rfl fun K' hK'=>?_;simp (maxSteps:=4000000) only[sH,↓sP,sA,tyS,simprocAttr,rpost_exit,rpost_normal,rpost_ret,hscope_exit,hscope_normal,hscope_ret,ithen_normal,ithen_exit,ithen_ret,iblk_normal,iblk_exit,iblk_ret];repeat refine AI ?_
   refine hK' _ _ ?_;clear hK' K';simp only[sE,↓reduceIte,simprocAttr,rpost_exit,rpost_normal,rpost_ret,hscope_exit,hscope_normal,hscope_ret,ithen_normal,ithen_exit,ithen_ret,iblk_normal,iblk_exit,iblk_ret];refine hK1 _ _ _ _ _ ?_;clear hK1 K1;refine jR (b:=false) rfl (fun hb=>by cases hb) (fun _=>?_);refine nF ?_;simp only[sE,↓reduceIte,simprocAttr,rpost_exit,rpost_normal,rpost_ret,hscope_exit,hscope_normal,hscope_ret,ithen_normal,ithen_exit,ithen_ret,iblk_normal,iblk_exit,iblk_ret];refine hK _ _ _ _ _ ?_;clear hK K;refine nE hS rfl (aD (by kernel_rfl) ?_);simp only[sR,simprocAttr];iterate 3
    (refine aC (g:=none) rfl rfl fun K' hK'=>?_;simp only[sH,↓sP,sA,tyS,simprocAttr,rpost_exit,rpost_normal,rpost_ret,hscope_exit,hscope_normal,hscope_ret,ithen_normal,ithen_exit,ithen_ret,iblk_normal,iblk_exit,iblk_ret,hcast,hw1];(repeat refine AI ?_);refine hK' _ _ ?_;clear hK' K')
   simp only[sE,↓reduceIte,simprocAttr,rpost_exit,rpost_normal,rpost_ret,hscope_exit,hscope_normal,hscope_ret,ithen_normal,ithen_exit,ithen_ret,iblk_normal,iblk_exit,iblk_ret];refine⟨⟨j+1,hlt⟩,aI (by omega) (by simp[aY,fin_at,finA_at,upd_at,HV.men,HV.menL,HV.norm,HV.toC,HV.toCL]) (by simp[bB,fob_at,upd_at,none0_at,bN,HO.men,HV.men,HV.menL,HV.norm,HV.toC,HV.toCL]),trivial,rfl,?_⟩;show l.length-(j+1)<l.length-j;omega
  simp only[sR,List.range',simprocAttr];refine aC (g:=none) rfl rfl fun K' hK'=>?_;simp (maxSteps:=4000000) only[sH,↓sP,sA,tyS,simprocAttr,rpost_exit,rpost_normal,rpost_ret,hscope_exit,hscope_normal,hscope_ret,ithen_normal,ithen_exit,ithen_ret,iblk_normal,iblk_exit,iblk_ret];repeat refine AI ?_
  refine hK' _ _ ?_;clear hK' K';simp only[sE,↓reduceIte,simprocAttr,rpost_exit,rpost_normal,rpost_ret,hscope_exit,hscope_normal,hscope_ret,ithen_normal,ithen_exit,ithen_ret,iblk_normal,iblk_exit,iblk_ret];refine hK1 _ _ _ _ _ ?_;clear hK1 K1;refine jR (b:=true) rfl (fun _=>?_) (fun hb=>by cases hb);refine aZ4 ?_;simp only[sE,↓reduceIte,simprocAttr,rpost_exit,rpost_normal,rpost_ret,hscope_exit,hscope_normal,hscope_ret,ithen_normal,ithen_exit,ithen_ret,iblk_normal,iblk_exit,iblk_ret];exact⟨by simp,fun h=>by cases h⟩
 have hji:j=l.length:=by simp at hb;omega
 refine aN3 ?_;simp only[sE,↓reduceIte,simprocAttr,rpost_exit,rpost_normal,rpost_ret,hscope_exit,hscope_normal,hscope_ret,ithen_normal,ithen_exit,ithen_ret,iblk_normal,iblk_exit,iblk_ret];exact⟨by simp,fun _=>by rw[rK];exact hji⟩
end Go.Proofs.YthedbjfipmkpiaaGreatDoor
namespace Go.Pl
open Go Go.Hl
def lF (w:List Bool)(m:Nat)(b:Bool):List Bool:=w.take m++[b]++w.drop (m+1)
variable {b:Bool}{m:Nat}{w:List Bool}
theorem lG (h:m+1≤w.length):(lF w m b).length=w.length:=by simp[lF];omega
theorem aC0 :lF w w.length b=w++[b]:=by simp[lF]
theorem aC1 (h:m≤w.length):(lF w m b).take (m+1)=w.take m++[b]:=by grind[lF,List.take_of_length_le]
def aV2 (l:List Nd)(tr:List Bool)(p:Nat)(s:List Bool×Nat):List Bool×Nat:=
 if(l.getD p nd0).k=1 then(lF s.1 s.2 (tr.getD (lv (l.take p)) false),s.2+1)
 else(lF s.1 (s.2-(l.getD p nd0).c.toNat) (jM (l.getD p nd0) ((s.1.drop (s.2-(l.getD p nd0).c.toNat)).take (l.getD p nd0).c.toNat)),s.2-(l.getD p nd0).c.toNat+1)
def cI (l:List Nd)(tr:List Bool):Nat→List Bool×Nat
 |0=>([],0)
 |i+1=>aV2 l tr (l.length-1-i) (cI l tr i)
structure EvOk (l:List Nd)(tr:List Bool)(i:Nat):Prop where
 le:i≤l.length
 m:(cI l tr i).2=(evS (lv l) tr (l.drop (l.length-i))).length
 row:(cI l tr i).1.take (cI l tr i).2=(evS (lv l) tr (l.drop (l.length-i))).reverse
 fit:(cI l tr i).2≤(cI l tr i).1.length
 small:(cI l tr i).1.length≤i
theorem EvOk.zero (l:List Nd)(tr:List Bool):EvOk l tr 0:=⟨by omega,by simp[cI,evS],by simp[cI,evS],by simp[cI],by simp[cI]⟩
theorem yL (n:Nd)(l:List Bool):jM n l.reverse=jM n l:=by simp only[jM,aK5,List.length_reverse]
variable {c:Nat}{E:List Bool}
theorem bV9 :E.reverse.take (E.length-c)=(E.drop c).reverse:=by rw[List.reverse_drop]
theorem bW0 (h:c≤E.length):E.reverse.drop (E.length-c)=(E.take c).reverse:=by rw[List.reverse_take]
variable {i:Nat}{l:List Nd}
theorem EvOk.at_ {tr:List Bool}(hi:i<l.length):l.drop (l.length-(i+1))=l[l.length-1-i]'(by omega)::l.drop (l.length-i):=by grind[List.drop_eq_getElem_cons]
variable {tr:List Bool}
theorem EvOk.leaf (h:EvOk l tr i)(hi:i<l.length)(hk:(l[l.length-1-i]'(by omega)).k=1):
  EvOk l tr (i+1)∧cI l tr (i+1)=(lF (cI l tr i).1 (cI l tr i).2 (tr.getD (lv (l.take (l.length-1-i))) false),(cI l tr i).2+1):=by
 have hp:l.length-1-i<l.length:=by omega
 have hg:l.getD (l.length-1-i) nd0=l[l.length-1-i]:=by simp[hp]
 have e:cI l tr (i+1)=(lF (cI l tr i).1 (cI l tr i).2 (tr.getD (lv (l.take (l.length-1-i))) false),(cI l tr i).2+1):=by
  simp only[cI,aV2,hg,if_pos hk]
 have hT:=qJ l (l.length-1-i);have hd:=EvOk.at_ (tr:=tr) hi;rw[show l.length-(i+1)=l.length-1-i from by omega]at hd;have hE:evS (lv l) tr (l.drop (l.length-(i+1)))=tr.getD (lv (l.take (l.length-1-i))) false::evS (lv l) tr (l.drop (l.length-i)):=by
  rw[show l.length-(i+1)=l.length-1-i from by omega,hd,evS,if_pos hk,←hd];congr 2;omega
 refine⟨⟨hi,?_,?_,?_,?_⟩,e⟩
 · rw[e,hE];simp[h.m]
 · rw[e,hE];simp only[List.reverse_cons];rw[aC1 h.fit,h.row]
 · rw[e];have:=h.fit;simp[lF];omega
 · rw[e];have:=h.fit;have:=h.small;simp[lF];omega
theorem EvOk.inner (ht:IsTree l)(h:EvOk l tr i)(hi:i<l.length)(hk:(l[l.length-1-i]'(by omega)).k≠1):
  (l[l.length-1-i]'(by omega)).c.toNat≤(cI l tr i).2∧EvOk l tr (i+1)∧
  cI l tr (i+1)=(lF (cI l tr i).1 ((cI l tr i).2-(l[l.length-1-i]'(by omega)).c.toNat) (jM (l[l.length-1-i]'(by omega)) (((cI l tr i).1.drop ((cI l tr i).2-(l[l.length-1-i]'(by omega)).c.toNat)).take (l[l.length-1-i]'(by omega)).c.toNat)),(cI l tr i).2-(l[l.length-1-i]'(by omega)).c.toNat+1):=by
 have hp:l.length-1-i<l.length:=by omega
 have hg:l.getD (l.length-1-i) nd0=l[l.length-1-i]:=by simp[hp]
 have e:cI l tr (i+1)=(lF (cI l tr i).1 ((cI l tr i).2-(l[l.length-1-i]'(by omega)).c.toNat) (jM (l[l.length-1-i]'(by omega)) (((cI l tr i).1.drop ((cI l tr i).2-(l[l.length-1-i]'(by omega)).c.toNat)).take (l[l.length-1-i]'(by omega)).c.toNat)),(cI l tr i).2-(l[l.length-1-i]'(by omega)).c.toNat+1):=by
  simp only[cI,aV2,hg,if_neg hk]
 have hkl:=vV ht (tr:=tr) hp;rw[show l.length-1-i+1=l.length-i from by omega]at hkl;obtain⟨_,_,_,c4⟩:=gF (ht.node _ (List.getElem_mem hp));have c5:=c4 hk;have c6:1≤l[l.length-1-i].c.toNat:=by omega
 have hd:=EvOk.at_ (tr:=tr) hi;have hm:=h.m;have hr:=h.row;have hf:=h.fit;have hs:=h.small;have hE:evS (lv l) tr (l.drop (l.length-(i+1)))=jM l[l.length-1-i] ((evS (lv l) tr (l.drop (l.length-i))).take l[l.length-1-i].c.toNat)::(evS (lv l) tr (l.drop (l.length-i))).drop l[l.length-1-i].c.toNat:=by
  rw[hd,evS,if_neg hk]
 generalize evS (lv l) tr (l.drop (l.length-i))=E at hm hr hkl hE;generalize l[l.length-1-i].c.toNat=c at*;have h1:(cI l tr i).1.take ((cI l tr i).2-c)=(E.drop c).reverse:=by
  rw[←bV9,←hr,List.take_take,hm,Nat.min_eq_left (by omega)]
 have h2:((cI l tr i).1.drop ((cI l tr i).2-c)).take c=(E.take c).reverse:=by
  rw[←bW0 hkl,←hr,List.drop_take,hm];congr 1;omega
 refine⟨by omega,⟨hi,?_,?_,?_,?_⟩,e⟩
 · rw[e,hE];simp only[List.length_cons,List.length_drop];omega
 · rw[e,hE];simp only[List.reverse_cons];rw[aC1 (by omega),h1,h2,yL]
 · rw[e];simp only;rw[lG (by omega)];omega
 · rw[e];simp only;rw[lG (by omega)];omega
theorem EvOk.fin (ht:IsTree l)(h:EvOk l tr l.length):(cI l tr l.length).2=1∧ ∃h0:0<(cI l tr l.length).1.length,evalV l tr=(cI l tr l.length).1[0]:=by
 have hl:=aE6 (T:=lv l) (tr:=tr) l 1 ht.node ht.skip;have hm:=h.m;have hr:=h.row;have hf:=h.fit;rw[Nat.sub_self,List.drop_zero]at hm hr;rw[hl]at hm;have h0:0<(cI l tr l.length).1.length:=by omega
 refine⟨hm,h0,?_⟩;have ht':=xK ht;obtain⟨x,hx⟩: ∃x,evS (lv l) tr l=[x]:=by
  match hE:evS (lv l) tr l,hl with
  |[x],_=>exact⟨x,rfl⟩
 rw[hx,hm]at hr;rw[evalV,ht',hx];have:(cI l tr l.length).1[0]=x:=by
  have:=congrArg (·.head?) hr;simpa[List.head?_take,List.head?_eq_getElem?,h0]using this
 rw[this];rfl
end Go.Pl
namespace Go.Proofs.YthedbjfipmkpiaaGreatDoor
open Go Go.Hl Go.Pl
set_option maxRecDepth 10000
set_option maxHeartbeats 2000000
theorem cD6 (l:List Nd):aZ5 Tryz.prog 42 79 [.slc (l.map Nd.cv)] [(26,.slc (l.map Nd.cv))]:=by
 refine bD Tryz.func42 rfl (by kernel_rfl) (bH _) (Nat.le_of_ble_eq_true rfl) ?_;refine aE fun K hK=>aD (by kernel_rfl) ?_;simp (maxSteps:=4000000) only[↓sP,sA,tyS,simprocAttr,rpost_exit,rpost_normal,rpost_ret,hscope_exit,hscope_normal,hscope_ret,ithen_normal,ithen_exit,ithen_ret,iblk_normal,iblk_exit,iblk_ret];repeat refine AI ?_
 refine hK _ _ _ ?_;clear hK K;refine aE fun K hK=>aD (by kernel_rfl) ?_;simp (maxSteps:=4000000) only[↓sP,sA,tyS,simprocAttr,rpost_exit,rpost_normal,rpost_ret,hscope_exit,hscope_normal,hscope_ret,ithen_normal,ithen_exit,ithen_ret,iblk_normal,iblk_exit,iblk_ret];repeat refine AI ?_
 refine hK _ _ _ ?_;clear hK K;refine aJ ?_;simp (maxSteps:=4000000) only[aT,Tryz.results42,aR,aS,aQ,↓sP,sA,tyS,simprocAttr,rpost_exit,rpost_normal,rpost_ret,hscope_exit,hscope_normal,hscope_ret,ithen_normal,ithen_exit,ithen_ret,iblk_normal,iblk_exit,iblk_ret];refine sY (gf:=79) (bs:=[(26,.slc (l.map Nd.cv))]) (ids:=[0]) rfl (by simp) (by decide) ?_ ?_
 ·
  intro j x hx
  match j,hx with
  |0,hx=>cases hx;rfl
 intro x hx;simp only[List.mem_cons,List.not_mem_nil,or_false]at hx;subst hx;exact congrArg CV.slc (denilL_Nd l)
theorem aO8 (n:Nd)(L:List Bool)(lo m:Nat)(hl:L.length<2^40)(h0:0<L.length)(hlo:lo≤m)(hm:m≤L.length):
  HGe Tryz.prog 43 [.c n.cv,.osl 0 L.length lo 1 m] [.row 4 1 (L.map bC)] (fun r os'=>r= .c (.bool (jM n ((L.drop lo).take (m-lo))))∧os'=[.row 4 1 (L.map bC)]):=by
 obtain⟨V,hV⟩: ∃V,V=(L.drop lo).take (m-lo):=⟨_,rfl⟩;have hVl:V.length=m-lo:=by rw[hV];simp;omega
 rw[←hV];have hrd:List.take (m-lo) (List.drop lo (L.map bC))=V.map bC:=by rw[hV,List.map_take,List.map_drop]
 refine bD (args:=[.c n.cv,.osl 0 L.length lo 1 m]) Tryz.func43 rfl (by kernel_rfl) (eX rfl (by simp[dU,HO.men]) (by simp[HV.menL,HV.men])) (Nat.le_of_ble_eq_true rfl) ?_;have e0:lst [.row 4 1 (L.map bC)]=fob [(0,.row 4 1 (L.map bC))]:=by
  funext i
  match i with
  |0=>rfl
  |i+1=>simp[lst,fob,upd]
 show Hw _ _ 1 _ _ _ (lst _) 1;rw[e0];refine aE fun K hK=>aD (by kernel_rfl) ?_;simp (maxSteps:=4000000) only[↓sP,sA,tyS,simprocAttr,rpost_exit,rpost_normal,rpost_ret,hscope_exit,hscope_normal,hscope_ret,ithen_normal,ithen_exit,ithen_ret,iblk_normal,iblk_exit,iblk_ret];repeat refine AI ?_
 refine hK _ _ _ ?_;clear hK K;refine aE fun K hK=>aD (by kernel_rfl) ?_;simp (maxSteps:=4000000) only[↓sP,sA,tyS,simprocAttr,rpost_exit,rpost_normal,rpost_ret,hscope_exit,hscope_normal,hscope_ret,ithen_normal,ithen_exit,ithen_ret,iblk_normal,iblk_exit,iblk_ret];repeat refine AI ?_
 refine hK _ _ _ ?_;clear hK K;refine aE fun K hK=>?_;refine aE fun K hK=>aD (by kernel_rfl) ?_;simp (maxSteps:=4000000) only[↓sP,sA,tyS,simprocAttr,rpost_exit,rpost_normal,rpost_ret,hscope_exit,hscope_normal,hscope_ret,ithen_normal,ithen_exit,ithen_ret,iblk_normal,iblk_exit,iblk_ret,hrd,List.length_map,h0,hlo,hm];repeat refine AI ?_
 refine hK _ _ _ ?_;clear hK K;refine aP ?_;refine bR (α:={i:Nat//i≤V.length}) (fun i=>(fin [(1,.osl 0 L.length lo 1 m),(2,.ptr 1 0),(5,.c (.int .i64 (cnt (V.take i.1):Nat))),(8,.osl 0 L.length lo 1 m),(9,.c (.int .i64 V.length)),(10,.c (.int .i64 i.1))],fob [(0,.row 4 1 (L.map bC)),(1,.box 89 (.c n.cv))])) 100 (fun i=>V.length-i.1) ⟨0,by omega⟩ (aI (by omega) (by simp[aY,fin_at,finA_at,upd_at,HV.men,HV.menL,HV.norm,HV.toC,HV.toCL,cnt]) (by simp[bB,fob_at,upd_at,none0_at,bN,HO.men,HV.men,HV.menL,HV.norm,HV.toC,HV.toCL,cnt])) ?_;rintro⟨i,hi⟩;have hcn:cnt (V.take i)≤i:=by have:=bN6 (V.take i);simp at this;omega
 refine aE fun K hK=>aD (by kernel_rfl) ?_;simp (maxSteps:=4000000) only[↓sP,sA,tyS,simprocAttr,rpost_exit,rpost_normal,rpost_ret,hscope_exit,hscope_normal,hscope_ret,ithen_normal,ithen_exit,ithen_ret,iblk_normal,iblk_exit,iblk_ret];repeat refine AI ?_
 refine hK _ _ _ ?_;clear hK K;refine aE fun K hK=>?_;refine aG (b:=decide ((i:Int)<V.length)) rfl (fun hb=>?_) (fun hb=>?_)
 ·
  have hlt:i<V.length:=by simpa using hb
  have hct:=oV (l:=V) (k:=i) hlt;have hw3:IntKind.i64.wrap ((cnt (V.take i):Int)+1)=((cnt (V.take i)+1:Nat):Int):=by rw[dN _ (by omega)];rfl
  have hli:lo+i<L.length:=by omega
  have hvi:L[lo+i]=V[i]:=by simp[hV]
  have hli2:lo+i<(L.map bC).length:=by simpa using hli
  have hml:i<m-lo:=by omega
  clear hb;refine aK ?_;simp (maxSteps:=4000000) only[↓sP,sA,tyS,simprocAttr,rpost_exit,rpost_normal,rpost_ret,hscope_exit,hscope_normal,hscope_ret,ithen_normal,ithen_exit,ithen_ret,iblk_normal,iblk_exit,iblk_ret];repeat refine AI ?_
  refine hK _ _ _ ?_;clear hK K;refine aE fun K hK=>?_;refine aP ?_;refine aE fun K hK=>aD (by kernel_rfl) ?_;simp (maxSteps:=4000000) only[↓sP,sA,tyS,simprocAttr,rpost_exit,rpost_normal,rpost_ret,hscope_exit,hscope_normal,hscope_ret,ithen_normal,ithen_exit,ithen_ret,iblk_normal,iblk_exit,iblk_ret,List.length_map,Int.natCast_nonneg,Int.ofNat_lt,h0,hm,hml,hli,bA hli,bC];repeat refine AI ?_
  refine hK _ _ _ ?_;clear hK K;refine aE fun K hK=>aD (by kernel_rfl) ?_;simp (maxSteps:=4000000) only[↓sP,sA,tyS,simprocAttr,rpost_exit,rpost_normal,rpost_ret,hscope_exit,hscope_normal,hscope_ret,ithen_normal,ithen_exit,ithen_ret,iblk_normal,iblk_exit,iblk_ret];repeat refine AI ?_
  refine hK _ _ _ ?_;clear hK K;refine aG (b:=L[lo+i]) rfl (fun hb=>?_) (fun hb=>?_)
  ·
   rw[hvi]at hb;rw[if_pos (by simpa[hlt]using hb)]at hct;refine aD (by kernel_rfl) ?_;simp (maxSteps:=4000000) only[↓sP,sA,tyS,simprocAttr,rpost_exit,rpost_normal,rpost_ret,hscope_exit,hscope_normal,hscope_ret,ithen_normal,ithen_exit,ithen_ret,iblk_normal,iblk_exit,iblk_ret,hw3];repeat refine AI ?_
   refine hK _ _ _ ?_;clear hK K;refine aD (by kernel_rfl) ?_;simp (maxSteps:=4000000) only[↓sP,sA,tyS,simprocAttr,rpost_exit,rpost_normal,rpost_ret,hscope_exit,hscope_normal,hscope_ret,ithen_normal,ithen_exit,ithen_ret,iblk_normal,iblk_exit,iblk_ret,dN ((i:Int)+1) (by omega)];refine⟨⟨i+1,hlt⟩,aI (by omega) (by simp[aY,fin_at,finA_at,upd_at,HV.men,HV.menL,HV.norm,HV.toC,HV.toCL,hct]) (by simp[bB,fob_at,upd_at,none0_at,bN,HO.men,HV.men,HV.menL,HV.norm,HV.toC,HV.toCL,hct]),?_⟩;show V.length-(i+1)<V.length-i;omega
  rw[hvi]at hb;rw[if_neg (by simp[hlt,hb])]at hct;refine aK ?_;simp (maxSteps:=4000000) only[↓sP,sA,tyS,simprocAttr,rpost_exit,rpost_normal,rpost_ret,hscope_exit,hscope_normal,hscope_ret,ithen_normal,ithen_exit,ithen_ret,iblk_normal,iblk_exit,iblk_ret];repeat refine AI ?_
  refine hK _ _ _ ?_;clear hK K;refine aD (by kernel_rfl) ?_;simp (maxSteps:=4000000) only[↓sP,sA,tyS,simprocAttr,rpost_exit,rpost_normal,rpost_ret,hscope_exit,hscope_normal,hscope_ret,ithen_normal,ithen_exit,ithen_ret,iblk_normal,iblk_exit,iblk_ret,dN ((i:Int)+1) (by omega)];refine⟨⟨i+1,hlt⟩,aI (by omega) (by simp[aY,fin_at,finA_at,upd_at,HV.men,HV.menL,HV.norm,HV.toC,HV.toCL,hct]) (by simp[bB,fob_at,upd_at,none0_at,bN,HO.men,HV.men,HV.menL,HV.norm,HV.toC,HV.toCL,hct]),?_⟩;show V.length-(i+1)<V.length-i;omega
 refine bK ?_;simp (maxSteps:=4000000) only[↓sP,sA,tyS,simprocAttr,rpost_exit,rpost_normal,rpost_ret,hscope_exit,hscope_normal,hscope_ret,ithen_normal,ithen_exit,ithen_ret,iblk_normal,iblk_exit,iblk_ret];clear hK K;repeat refine AI ?_
 refine hK _ _ _ ?_;clear hK K;refine aE fun K hK=>?_;have hei:i=V.length:=by simp only[decide_eq_false_iff_not]at hb;omega
 subst hei;rw[List.take_length]at hcn⊢;clear hb;refine aE fun K hK=>aD (by kernel_rfl) ?_;simp (maxSteps:=4000000) only[↓sP,sA,tyS,simprocAttr,rpost_exit,rpost_normal,rpost_ret,hscope_exit,hscope_normal,hscope_ret,ithen_normal,ithen_exit,ithen_ret,iblk_normal,iblk_exit,iblk_ret];repeat refine AI ?_
 refine hK _ _ _ ?_;clear hK K;refine aP ?_;refine aE fun K hK=>aD (by kernel_rfl) ?_;simp (maxSteps:=4000000) only[↓sP,sA,tyS,simprocAttr,rpost_exit,rpost_normal,rpost_ret,hscope_exit,hscope_normal,hscope_ret,ithen_normal,ithen_exit,ithen_ret,iblk_normal,iblk_exit,iblk_ret];repeat refine AI ?_
 refine hK _ _ _ ?_;clear hK K;refine aG (b:=(n.k==2)) rfl (fun hb=>?_) (fun hb=>?_)
 ·
  refine aE fun K hK=>aD (by kernel_rfl) ?_;simp only[sR,simprocAttr];iterate 5
   (refine aC (g:=none) rfl rfl fun K' hK'=>?_;simp only[sH,↓sP,sA,tyS,simprocAttr,rpost_exit,rpost_normal,rpost_ret,hscope_exit,hscope_normal,hscope_ret,ithen_normal,ithen_exit,ithen_ret,iblk_normal,iblk_exit,iblk_ret,hrd,List.length_map,h0,hlo,hm];(repeat refine AI ?_);refine hK' _ _ ?_;clear hK' K')
  simp only[sE,↓reduceIte,simprocAttr,rpost_exit,rpost_normal,rpost_ret,hscope_exit,hscope_normal,hscope_ret,ithen_normal,ithen_exit,ithen_ret,iblk_normal,iblk_exit,iblk_ret];repeat refine AI ?_
  refine hK _ _ _ ?_;clear hK K;refine aJ ?_;simp (maxSteps:=4000000) only[aT,Tryz.results43,aR,aS,aQ,↓sP,sA,tyS,simprocAttr,rpost_exit,rpost_normal,rpost_ret,hscope_exit,hscope_normal,hscope_ret,ithen_normal,ithen_exit,ithen_ret,iblk_normal,iblk_exit,iblk_ret];have h2:n.k=2:=by simpa using hb
  exact gR [] [] (.c (.bool ((cnt V:Int)==V.length))) [.row 4 1 (L.map bC)] rfl (by simp[HV.men]) ⟨⟨trivial,by simp,_,rfl,rfl⟩,trivial⟩ rfl List.nodup_nil (by simp) (by simp) ⟨by rw[jM,if_pos h2];congr 2;rw[Bool.eq_iff_iff];simp;omega,rfl⟩
 have h2:n.k≠2:=by simpa using hb
 refine aE fun K hK=>aD (by kernel_rfl) ?_;simp (maxSteps:=4000000) only[↓sP,sA,tyS,simprocAttr,rpost_exit,rpost_normal,rpost_ret,hscope_exit,hscope_normal,hscope_ret,ithen_normal,ithen_exit,ithen_ret,iblk_normal,iblk_exit,iblk_ret];repeat refine AI ?_
 refine hK _ _ _ ?_;clear hK K;refine aG (b:=(n.k==3)) rfl (fun hb=>?_) (fun hb=>?_)
 ·
  refine aE fun K hK=>aD (by kernel_rfl) ?_;simp (maxSteps:=4000000) only[↓sP,sA,tyS,simprocAttr,rpost_exit,rpost_normal,rpost_ret,hscope_exit,hscope_normal,hscope_ret,ithen_normal,ithen_exit,ithen_ret,iblk_normal,iblk_exit,iblk_ret];repeat refine AI ?_
  refine hK _ _ _ ?_;clear hK K;refine aJ ?_;simp (maxSteps:=4000000) only[aT,Tryz.results43,aR,aS,aQ,↓sP,sA,tyS,simprocAttr,rpost_exit,rpost_normal,rpost_ret,hscope_exit,hscope_normal,hscope_ret,ithen_normal,ithen_exit,ithen_ret,iblk_normal,iblk_exit,iblk_ret];have h3:n.k=3:=by simpa using hb
  exact gR [] [] (.c (.bool (decide ((1:Int)≤cnt V)))) [.row 4 1 (L.map bC)] rfl (by simp[HV.men]) ⟨⟨trivial,by simp,_,rfl,rfl⟩,trivial⟩ rfl List.nodup_nil (by simp) (by simp) ⟨by rw[jM,if_neg h2,if_pos h3];congr 2;rw[Bool.eq_iff_iff];simp;omega,rfl⟩
 refine aK ?_;simp (maxSteps:=4000000) only[↓sP,sA,tyS,simprocAttr,rpost_exit,rpost_normal,rpost_ret,hscope_exit,hscope_normal,hscope_ret,ithen_normal,ithen_exit,ithen_ret,iblk_normal,iblk_exit,iblk_ret];repeat refine AI ?_
 refine hK _ _ _ ?_;clear hK K;refine aE fun K hK=>aD (by kernel_rfl) ?_;simp only[sR,simprocAttr];iterate 5
  (refine aC (g:=none) rfl rfl fun K' hK'=>?_;simp only[sH,↓sP,sA,tyS,simprocAttr,rpost_exit,rpost_normal,rpost_ret,hscope_exit,hscope_normal,hscope_ret,ithen_normal,ithen_exit,ithen_ret,iblk_normal,iblk_exit,iblk_ret];(repeat refine AI ?_);refine hK' _ _ ?_;clear hK' K')
 simp only[sE,↓reduceIte,simprocAttr,rpost_exit,rpost_normal,rpost_ret,hscope_exit,hscope_normal,hscope_ret,ithen_normal,ithen_exit,ithen_ret,iblk_normal,iblk_exit,iblk_ret];repeat refine AI ?_
 refine hK _ _ _ ?_;clear hK K;refine aJ ?_;simp (maxSteps:=4000000) only[aT,Tryz.results43,aR,aS,aQ,↓sP,sA,tyS,simprocAttr,rpost_exit,rpost_normal,rpost_ret,hscope_exit,hscope_normal,hscope_ret,ithen_normal,ithen_exit,ithen_ret,iblk_normal,iblk_exit,iblk_ret];have h3:n.k≠3:=by simpa using hb
 exact gR [] [] (.c (.bool (decide (n.n≤cnt V)))) [.row 4 1 (L.map bC)] rfl (by simp[HV.men]) ⟨⟨trivial,by simp,_,rfl,rfl⟩,trivial⟩ rfl List.nodup_nil (by simp) (by simp) ⟨by rw[jM,if_neg h2,if_neg h3],rfl⟩
set_option maxHeartbeats 4000000
theorem aZ (id n sz m:Nat):(cD id n sz m).sto=true:=by unfold cD;split<;>rfl
theorem aU (id n sz m:Nat):(cD id n sz m).cells=1:=by unfold cD;split<;>rfl
theorem aO (id n sz m:Nat):(cD id n sz m).toC=none:=by unfold cD;split<;>rfl
theorem xP (id n sz m:Nat):(cD id n sz m= .junk)=False:=by unfold cD;split<;>simp
theorem cB (id n sz:Nat):cD id n sz n= .own id n:=by unfold cD;rw[if_pos rfl]
theorem bW {id n sz m:Nat}(h:m≠n):cD id n sz m= .osl id n 0 sz m:=by unfold cD;rw[if_neg h]
theorem bO {M:Nat→Prop}{id n sz m:Nat}(h:M id):(cD id n sz m).men M:=by unfold cD;split<;>exact h
theorem aG3 (l:List Nd)(hn: ∀n∈l,n.q.t.length<2^63)(tr:List Bool)(htr:tr.length<2^63):dB Tryz.prog 18 [.slc (l.map Nd.cv),.slc (tr.map bC)] (fun v=>v= .bool (evalV l tr)):=by
 refine bD Tryz.func18 rfl (by kernel_rfl) (bH _) (Nat.le_of_ble_eq_true rfl) ?_;refine R0 ?_ (e:=fun _ h_=>by simp only[↓sP,sA,tyS,simprocAttr,rI];exact AX h_);refine aE fun K hK=>Rg ?_;refine S0 ?_ (e:=fun _ h_=>by simp only[sH,↓sP,sA,tyS,simprocAttr,rI];exact AX h_);refine aC (g:=none) rfl rfl fun K' hK'=>?_;simp only[sH,↓sP,sA,tyS,simprocAttr,rI];refine aX (args:=[_]) (oC l hn) ⟨rfl,rfl,rfl,rfl⟩ ?_;rintro u rfl;refine AX (hK' _ _ ?_);clear hK' K';iterate 3 refine S0 ?_ (e:=fun _ h_=>by simp only[sH,↓sP,sA,tyS,simprocAttr,rI];exact AX h_)
 simp only[sE,↓reduceIte,simprocAttr,rI];refine AX (hK _ _ _ ?_);clear hK K;refine aE fun K hK=>?_;refine R0 ?_ (e:=fun _ h_=>by simp only[↓sP,sA,tyS,simprocAttr,rI];exact AX h_);refine aG (b:=(((dA l).length:Int)==0)) rfl (fun hb=>?_) (fun hb=>?_)
 ·
  refine R0 ?_ (e:=fun _ h_=>by simp only[↓sP,sA,tyS,simprocAttr,rI];exact AX h_);refine aJ ?_;simp only[aT,Tryz.results18,aR,aS,aQ,↓sP,sA,tyS,simprocAttr,rI];have hlv:dA l=[]:=by simpa using hb
  have htf:dZ l=false:=by
   cases h:dZ l with
   |false=>rfl
   |true=>
    have h1:=aK4 (gC h);rw[iF h]at hlv;have h2:=fP l 0;rw[hlv]at h2;simp at h2;omega
  exact aW [] (.bool false) rfl (by rw[evalV,htf];rfl)
 have htt:dZ l=true:=by
  cases h:dZ l with
  |true=>rfl
  |false=>rw[uA h]at hb;simp at hb
 have ht:=gC htt;have hl:=ht.len;have hlen:(dA l).length=lv l:=by rw[iF htt,fP]
 rw[hlen];clear hb;refine aK ?_;simp only[↓sP,sA,tyS,simprocAttr,rI];refine AX (hK _ _ _ ?_);clear hK K;refine R0 ?_ (e:=fun _ h_=>by simp only[↓sP,sA,tyS,simprocAttr,rI];exact AX h_);refine aE fun K hK=>?_;refine aE fun K hK=>Rg ?_;refine S0 ?_ (e:=fun _ h_=>by simp only[sH,↓sP,sA,tyS,simprocAttr,rI,denilL_Nd,mG,gS,List.range',List.map_cons,List.map_nil];exact AX h_);refine aC (g:=none) rfl rfl fun K' hK'=>?_;simp only[sH,↓sP,sA,tyS,simprocAttr,rI,denilL_Nd,mG,gS,List.range',List.map_cons,List.map_nil];refine sX (args:=[_]) (cD6 l) (by simp) ⟨rfl,rfl,rfl,rfl⟩ ?_;refine AX (hK' _ _ ?_);clear hK' K';simp only[sE,↓reduceIte,simprocAttr,rI];refine AX (hK _ _ _ ?_);clear hK K;refine aP ?_;refine dX 36 0 4 1 rfl rfl rfl rfl ?_;refine aA5 (ids:=[44]) (fin [(3,.ptr 0 0),(5,.ptr 20 0),(6,.ptr 36 0)]) (fun i=>fob [(0,.box 37 (.c (.slc (tr.map bC)))),(20,.box 3 (.c (.int .i64 (lv (l.take (l.length-i)):Nat)))),(36,.box 37 (cD 48 (cI l tr i).1.length 1 (cI l tr i).2)),(48,.row 4 1 ((cI l tr i).1.map bC))]) 20000 (fun i=>EvOk l tr i) (EvOk.zero l tr) (bJ7 l (by omega)) rfl rfl (by decide) ?_ ?_ ?_ ?_ ?_ rfl rfl ?_ ?_
 ·
  intro j x hx
  match j,hx with
  |0,hx=>cases hx;rfl
 · exact aI (by omega) (by simp[aY,fin_at,finA_at,upd_at,HV.men,HV.menL,HV.norm,HV.toC,HV.toCL,mG,cI,cB,List.take_length]) (by simp[bB,fob_at,upd_at,none0_at,bN,HO.men,HV.men,HV.menL,HV.norm,HV.toC,HV.toCL,mG,cI,cB,List.take_length])
 · intro id hid;simp only[List.mem_cons,List.not_mem_nil,or_false]at hid;subst hid;rfl
 · intro x hx;obtain⟨p,_,rfl⟩:=List.mem_map.1 hx;rfl
 · intro p hp;simp only[List.mem_cons,List.not_mem_nil,or_false]at hp;rcases hp with rfl|rfl<;>exact Nat.le_of_ble_eq_true rfl
 ·
  intro i hi hΦ K hK;have hi2:i<l.length:=by rw[←rK l];exact hi
  have hp:l.length-1-i<l.length:=by omega
  rw[bV5 hi hp];simp only[wV];obtain⟨w,hw⟩: ∃w,w=(cI l tr i).1:=⟨_,rfl⟩;obtain⟨m,hm⟩: ∃m,m=(cI l tr i).2:=⟨_,rfl⟩;have hfit:=hΦ.fit;have hsmall:=hΦ.small;rw[←hw,←hm]at hfit;rw[←hw]at hsmall;rw[←hw,←hm];refine aD (by kernel_rfl) ?_;simp only[↓sP,sA,tyS,simprocAttr,rI];refine AX (hK _ _ _ ?_);clear hK K;refine aP ?_;refine aE fun K hK=>?_;refine R0 ?_ (e:=fun _ h_=>by simp only[↓sP,sA,tyS,simprocAttr,rI];exact AX h_);refine aG (b:=(l[l.length-1-i].k==1)) rfl (fun hb=>?_) (fun hb=>?_)
  ·
   have hk1:l[l.length-1-i].k=1:=by simpa using hb
   obtain⟨hok,hst⟩:=hΦ.leaf hi2 hk1;rw[←hw,←hm]at hst;have hlv:=bB2 hp;rw[if_pos hk1,show l.length-1-i+1=l.length-i from by omega]at hlv;have hlb:=aV1 l (l.length-1-i);have hw1:IntKind.i64.wrap ((lv (l.take (l.length-i)):Int)-1)=((lv (l.take (l.length-1-i)):Nat):Int):=by rw[hlv,dN _ (by omega)];omega
   obtain⟨x,hx⟩: ∃x,x=lv (l.take (l.length-1-i)):=⟨_,rfl⟩;have hxl:l.length-(i+1)=l.length-1-i:=by omega
   rw[←hx]at hw1 hst;clear hb;refine R0 ?_ (e:=fun _ h_=>by simp only[↓sP,sA,tyS,simprocAttr,rI,hw1];exact AX h_);by_cases hlt:x<tr.length
   ·
    by_cases hmw:m=w.length
    ·
     subst hmw;have hg:tr.getD x false=tr[x]:=by simp[hlt]
     refine aE fun K hK=>dT mixed [(0,[],[]),(1,[],[]),(2,[],[]),(3,[],[]),(4,[],[]),(5,[],[]),(6,[],[]),(7,[],[]),(8,[],[]),(9,[],[]),(10,[],[]),(11,[],[]),(12,[],[]),(13,[],[])] [0,0,0,4,14,30,62,62,254,510,1022,2046,4095,8191] (by kernel_rfl) (by kernel_rfl) (by kernel_rfl) (by kernel_rfl) rfl (by kernel_rfl) ?_;iterate 14 refine WG0 ?_ (e:=fun _ h_=>by simp only[sH,↓sP,sA,tyS,simprocAttr,rI,Int.natCast_nonneg,Int.ofNat_lt,hlt,bA hlt,bC,cB,aZ,aU,aO];exact AX h_)
     simp only[sE,↓reduceIte,simprocAttr,rI];refine AX (hK _ _ _ ?_);clear hK K;refine bK ?_;simp only[↓sP,sA,tyS,simprocAttr,rI];clear hK K;rw[hg,aC0]at hst;refine⟨(show Fits 20000 _ _ (fin []) _ 20000 from aI (by omega) trivial ?_),hok⟩;rw[hst,hxl,←hx];simp[bB,fob_at,upd_at,none0_at,bN,HO.men,HV.men,HV.menL,HV.norm,HV.toC,HV.toCL,cB,bC]
    have hg:tr.getD x false=tr[x]:=by simp[hlt]
    have hmw2:m+1≤w.length:=by omega
    have hw0:0<w.length:=by omega
    have hrow:(lF w m tr[x]).map bC=(w.map bC).take m++[.bool tr[x]]++(w.map bC).drop (m+1):=by simp[lF,List.map_take,List.map_drop,bC]
    refine aE fun K hK=>dT mixed [(0,[],[]),(1,[],[]),(2,[],[]),(3,[],[]),(4,[],[]),(5,[],[]),(6,[],[]),(7,[],[]),(8,[],[]),(9,[],[]),(10,[],[]),(11,[],[]),(12,[],[]),(13,[],[])] [0,0,0,4,14,30,62,62,254,510,1022,2046,4095,8191] (by kernel_rfl) (by kernel_rfl) (by kernel_rfl) (by kernel_rfl) rfl (by kernel_rfl) ?_;iterate 12 refine WG0 ?_ (e:=fun _ h_=>by simp only[sH,↓sP,sA,tyS,simprocAttr,rI,Int.natCast_nonneg,Int.ofNat_lt,hlt,bA hlt,bC,bW hmw,aZ,aU,aO,hw0,hmw2];exact AX h_)
    refine cG (g:=none) rfl rfl fun K' hK'=>?_;simp only[sN,↓hopH.eq_def,sH,↓sP,sA,tyS,simprocAttr,rI,Int.natCast_nonneg,Int.ofNat_lt,hlt,bA hlt,bC,bW hmw,aZ,aU,aO,hw0,hmw2];refine AX (hK' _ _ ?_);clear hK' K';refine WG0 ?_ (e:=fun _ h_=>by simp only[sH,↓sP,sA,tyS,simprocAttr,rI,Int.natCast_nonneg,Int.ofNat_lt,hlt,bA hlt,bC,bW hmw,aZ,aU,aO,hw0,hmw2];exact AX h_);simp only[sE,↓reduceIte,simprocAttr,rI];refine AX (hK _ _ _ ?_);clear hK K;refine bK ?_;simp only[↓sP,sA,tyS,simprocAttr,rI];clear hK K;rw[hg]at hst;refine⟨(show Fits 20000 _ _ (fin []) _ 20000 from aI (by omega) trivial ?_),hok⟩;rw[hst,hxl,←hx];simp[bB,fob_at,upd_at,none0_at,bN,HO.men,HV.men,HV.menL,HV.norm,HV.toC,HV.toCL,lG hmw2,hrow,bO,aO]
   by_cases hmw:m=w.length
   ·
    subst hmw;have hg:tr.getD x false=false:=by simp[List.getD_eq_getElem?_getD,List.getElem?_eq_none (Nat.le_of_not_lt hlt)]
    have hlt':decide ((x:Int)<tr.length)=false:=by simp;omega
    refine aE fun K hK=>dT mixed [(0,[],[]),(1,[],[]),(2,[],[]),(3,[],[]),(4,[],[]),(5,[],[]),(6,[],[]),(7,[],[]),(8,[],[]),(9,[],[]),(10,[],[]),(11,[],[]),(12,[],[]),(13,[],[])] [0,0,0,4,14,30,62,62,254,510,1022,2046,4095,8191] (by kernel_rfl) (by kernel_rfl) (by kernel_rfl) (by kernel_rfl) rfl (by kernel_rfl) ?_;iterate 14 refine WG0 ?_ (e:=fun _ h_=>by simp only[sH,↓sP,sA,tyS,simprocAttr,rI,hlt',cB,aZ,aU,aO];exact AX h_)
    simp only[sE,↓reduceIte,simprocAttr,rI];refine AX (hK _ _ _ ?_);clear hK K;refine bK ?_;simp only[↓sP,sA,tyS,simprocAttr,rI];clear hK K;rw[hg,aC0]at hst;refine⟨(show Fits 20000 _ _ (fin []) _ 20000 from aI (by omega) trivial ?_),hok⟩;rw[hst,hxl,←hx];simp[bB,fob_at,upd_at,none0_at,bN,HO.men,HV.men,HV.menL,HV.norm,HV.toC,HV.toCL,cB,bC]
   have hg:tr.getD x false=false:=by simp[List.getD_eq_getElem?_getD,List.getElem?_eq_none (Nat.le_of_not_lt hlt)]
   have hlt':decide ((x:Int)<tr.length)=false:=by simp;omega
   have hmw2:m+1≤w.length:=by omega
   have hw0:0<w.length:=by omega
   have hrow:(lF w m false).map bC=(w.map bC).take m++[.bool false]++(w.map bC).drop (m+1):=by simp[lF,List.map_take,List.map_drop,bC]
   refine aE fun K hK=>dT mixed [(0,[],[]),(1,[],[]),(2,[],[]),(3,[],[]),(4,[],[]),(5,[],[]),(6,[],[]),(7,[],[]),(8,[],[]),(9,[],[]),(10,[],[]),(11,[],[]),(12,[],[]),(13,[],[])] [0,0,0,4,14,30,62,62,254,510,1022,2046,4095,8191] (by kernel_rfl) (by kernel_rfl) (by kernel_rfl) (by kernel_rfl) rfl (by kernel_rfl) ?_;iterate 12 refine WG0 ?_ (e:=fun _ h_=>by simp only[sH,↓sP,sA,tyS,simprocAttr,rI,hlt',bW hmw,aZ,aU,aO,hw0,hmw2];exact AX h_)
   refine cG (g:=none) rfl rfl fun K' hK'=>?_;simp only[sN,↓hopH.eq_def,sH,↓sP,sA,tyS,simprocAttr,rI,hlt',bW hmw,aZ,aU,aO,hw0,hmw2];refine AX (hK' _ _ ?_);clear hK' K';refine WG0 ?_ (e:=fun _ h_=>by simp only[sH,↓sP,sA,tyS,simprocAttr,rI,hlt',bW hmw,aZ,aU,aO,hw0,hmw2];exact AX h_);simp only[sE,↓reduceIte,simprocAttr,rI];refine AX (hK _ _ _ ?_);clear hK K;refine bK ?_;simp only[↓sP,sA,tyS,simprocAttr,rI];clear hK K;rw[hg]at hst;refine⟨(show Fits 20000 _ _ (fin []) _ 20000 from aI (by omega) trivial ?_),hok⟩;rw[hst,hxl,←hx];simp[bB,fob_at,upd_at,none0_at,bN,HO.men,HV.men,HV.menL,HV.norm,HV.toC,HV.toCL,lG hmw2,hrow,bO,aO]
  have hk1:l[l.length-1-i].k≠1:=by simpa using hb
  obtain⟨hcm,hok,hst⟩:=hΦ.inner ht hi2 hk1;rw[←hw,←hm]at hst;rw[←hm]at hcm;obtain⟨c1,c2,c3,c4⟩:=gF (ht.node _ (List.getElem_mem hp));have c5:=c4 hk1;have hlv:=bB2 hp;rw[if_neg hk1,Nat.add_zero,show l.length-1-i+1=l.length-i from by omega]at hlv;have hxl:l.length-(i+1)=l.length-1-i:=by omega
  obtain⟨f,hf⟩: ∃f,f=m-l[l.length-1-i].c.toNat:=⟨_,rfl⟩;have hfc:m-f=l[l.length-1-i].c.toNat:=by omega
  rw[←hf,←hfc]at hst;have hw2:IntKind.i64.wrap ((m:Int)-l[l.length-1-i].c)=(f:Int):=by rw[dN _ (by omega)];omega
  have hf1:f+1≤w.length:=by omega
  have hfw:f≤w.length:=by omega
  have hfm:f≤m:=by omega
  have hw0:0<w.length:=by omega
  obtain⟨h,hh⟩: ∃h,h=jM l[l.length-1-i] ((w.drop f).take (m-f)):=⟨_,rfl⟩;rw[←hh]at hst;have hrow:(lF w f h).map bC=(w.map bC).take f++[.bool h]++(w.map bC).drop (f+1):=by simp[lF,List.map_take,List.map_drop,bC]
  clear hb;refine aK ?_;simp only[↓sP,sA,tyS,simprocAttr,rI];refine AX (hK _ _ _ ?_);clear hK K;by_cases hmw:m=w.length
  ·
   rw[←hmw]at hw0 hf1 hfw;refine aE fun K hK=>Rg ?_;iterate 6 refine S0 ?_ (e:=fun _ h_=>by simp only[sH,↓sP,sA,tyS,simprocAttr,rI,cB,←hmw,List.length_map,hw2];exact AX h_)
   simp only[sE,↓reduceIte,simprocAttr,rI];refine AX (hK _ _ _ ?_);clear hK K;refine dT mixed [(0,[],[]),(1,[],[]),(2,[],[]),(3,[],[]),(4,[],[]),(5,[],[]),(6,[],[]),(7,[],[0,1,2]),(8,[],[]),(9,[],[]),(10,[],[])] [0,0,3,0,0,0,48,120,248,511,1023] (by kernel_rfl) (by kernel_rfl) (by kernel_rfl) (by kernel_rfl) rfl (by kernel_rfl) ?_;iterate 7 refine WG0 ?_ (e:=fun _ h_=>by simp only[sH,↓sP,sA,tyS,simprocAttr,rI,cB,aZ,aU,aO,←hmw,List.length_map,Int.natCast_nonneg,Int.ofNat_le,hfw];exact AX h_)
   refine oL (g:=none) rfl rfl fun K' hK'=>?_;simp only[sN,↓hopH.eq_def,sH,↓sP,sA,tyS,simprocAttr,rI,cB,aZ,aU,aO,←hmw,List.length_map,Int.natCast_nonneg,Int.ofNat_le,hfw];refine aL1 [48] (aO8 l[l.length-1-i] w f m (by omega) (by omega) (by omega) (by omega)) (by first|rfl|(rw[←hmw];rfl)) ⟨rfl,trivial⟩ (by simp) ?_ ?_ ?_ ?_ ?_
   ·
    intro j hj
    match j,hj with
    |0,_=>exact .inr ⟨by decide,fun r os' h=>by rw[h.2]⟩
   · exact⟨rfl,rfl,rfl,rfl⟩
   · simp[dU,HO.men]
   · simp[HV.menL,HV.men]
   rintro r os' ⟨rfl,rfl⟩;rw[←hh,show∀n ob,iX (sub [48] n) ob 0 [.row 4 1 (w.map bC)]=upd ob 48 (some (.row 4 1 (w.map bC)))from fun _ _=>rfl,show∀n b,HV.ren (sub [48] n) (.c b)= .c b from fun _ _=>rfl];refine AX (hK' _ _ ?_);clear hK' K';refine WG0 ?_ (e:=fun _ h_=>by simp only[sH,↓sP,sA,tyS,simprocAttr,rI,cB,aZ,aU,aO,←hmw,List.length_map,Int.natCast_nonneg,Int.ofNat_le,hfw];exact AX h_);refine cG (g:=none) rfl rfl fun K' hK'=>?_;simp only[sN,↓hopH.eq_def,sH,↓sP,sA,tyS,simprocAttr,rI,cB,aZ,aU,aO,←hmw,List.length_map,Int.natCast_nonneg,Int.ofNat_le,hfw];refine AX (hK' _ _ ?_);clear hK' K';refine WG0 ?_ (e:=fun _ h_=>by simp only[sH,↓sP,sA,tyS,simprocAttr,rI,cB,aZ,aU,aO,←hmw,List.length_map,Int.natCast_nonneg,Int.ofNat_le,hfw];exact AX h_);simp only[sE,↓reduceIte,simprocAttr,rI];refine⟨(show Fits 20000 _ _ (fin []) _ 20000 from aI (by omega) trivial ?_),hok⟩;rw[hst,hxl,hlv];simp[bB,fob_at,upd_at,none0_at,bN,HO.men,HV.men,HV.menL,HV.norm,HV.toC,HV.toCL,lG (show f+1≤w.length by omega),hrow,bO,aO,←hmw]
  refine aE fun K hK=>Rg ?_;iterate 6 refine S0 ?_ (e:=fun _ h_=>by simp only[sH,↓sP,sA,tyS,simprocAttr,rI,bW hmw,List.length_map,hw0,hfit,Nat.zero_le,List.length_take,List.length_drop,Nat.sub_zero,Nat.min_eq_left hfit,hw2];exact AX h_)
  simp only[sE,↓reduceIte,simprocAttr,rI];refine AX (hK _ _ _ ?_);clear hK K;refine dT mixed [(0,[],[]),(1,[],[]),(2,[],[]),(3,[],[]),(4,[],[]),(5,[],[]),(6,[],[]),(7,[],[0,1,2]),(8,[],[]),(9,[],[]),(10,[],[])] [0,0,3,0,0,0,48,120,248,511,1023] (by kernel_rfl) (by kernel_rfl) (by kernel_rfl) (by kernel_rfl) rfl (by kernel_rfl) ?_;iterate 2 refine WG0 ?_ (e:=fun _ h_=>by simp only[sH,↓sP,sA,tyS,simprocAttr,rI,aZ,aU,aO,bW hmw,List.length_map,Int.natCast_nonneg,Int.ofNat_le,hfw,hfm];exact AX h_)
  refine cG (g:=none) rfl rfl fun K' hK'=>?_;simp only[sN,↓hopH.eq_def,sH,↓sP,sA,tyS,simprocAttr,rI,aZ,aU,aO,bW hmw,List.length_map,Int.natCast_nonneg,Int.ofNat_le,hfw,hfm];refine AX (hK' _ _ ?_);clear hK' K';iterate 3 refine WG0 ?_ (e:=fun _ h_=>by simp only[sH,↓sP,sA,tyS,simprocAttr,rI,aZ,aU,aO,bW hmw,List.length_map,Int.natCast_nonneg,Int.ofNat_le,hfw,hfm];exact AX h_)
  refine cG (g:=none) rfl rfl fun K' hK'=>?_;simp only[sN,↓hopH.eq_def,sH,↓sP,sA,tyS,simprocAttr,rI,aZ,aU,aO,bW hmw,List.length_map,Int.natCast_nonneg,Int.ofNat_le,hfw,hfm];refine AX (hK' _ _ ?_);clear hK' K';refine oL (g:=none) rfl rfl fun K' hK'=>?_;simp only[sN,↓hopH.eq_def,sH,↓sP,sA,tyS,simprocAttr,rI,aZ,aU,aO,bW hmw,List.length_map,Int.natCast_nonneg,Int.ofNat_le,hfw,hfm];refine aL1 [48] (aO8 l[l.length-1-i] w f m (by omega) (by omega) (by omega) (by omega)) (by first|rfl|(rw[←hmw];rfl)) ⟨rfl,trivial⟩ (by simp) ?_ ?_ ?_ ?_ ?_
  ·
   intro j hj
   match j,hj with
   |0,_=>exact .inr ⟨by decide,fun r os' h=>by rw[h.2]⟩
  · exact⟨rfl,rfl,rfl,rfl⟩
  · simp[dU,HO.men]
  · simp[HV.menL,HV.men]
  rintro r os' ⟨rfl,rfl⟩;rw[←hh,show∀n ob,iX (sub [48] n) ob 0 [.row 4 1 (w.map bC)]=upd ob 48 (some (.row 4 1 (w.map bC)))from fun _ _=>rfl,show∀n b,HV.ren (sub [48] n) (.c b)= .c b from fun _ _=>rfl];refine AX (hK' _ _ ?_);clear hK' K';refine WG0 ?_ (e:=fun _ h_=>by simp only[sH,↓sP,sA,tyS,simprocAttr,rI,aZ,aU,aO,bW hmw,List.length_map,Int.natCast_nonneg,Int.ofNat_le,hfw,hfm];exact AX h_);refine cG (g:=none) rfl rfl fun K' hK'=>?_;simp only[sN,↓hopH.eq_def,sH,↓sP,sA,tyS,simprocAttr,rI,aZ,aU,aO,bW hmw,List.length_map,Int.natCast_nonneg,Int.ofNat_le,hfw,hfm];refine AX (hK' _ _ ?_);clear hK' K';refine WG0 ?_ (e:=fun _ h_=>by simp only[sH,↓sP,sA,tyS,simprocAttr,rI,aZ,aU,aO,bW hmw,List.length_map,Int.natCast_nonneg,Int.ofNat_le,hfw,hfm];exact AX h_);simp only[sE,↓reduceIte,simprocAttr,rI];refine⟨(show Fits 20000 _ _ (fin []) _ 20000 from aI (by omega) trivial ?_),hok⟩;rw[hst,hxl,hlv];simp[bB,fob_at,upd_at,none0_at,bN,HO.men,HV.men,HV.menL,HV.norm,HV.toC,HV.toCL,lG hf1,hrow,bO,aO]
 intro hΦ;simp only[sE,↓reduceIte,simprocAttr,rI];have hfin:=hΦ;rw[rK]at hfin;obtain⟨h1,h0,h2⟩:=hfin.fin ht;rw[rK,h1];obtain⟨w,hw⟩: ∃w,w=(cI l tr l.length).1:=⟨_,rfl⟩;rw[←hw]at h0;have h3:evalV l tr=w[0]:=by rw[h2];simp only[hw]
 rw[←hw];refine AX (hK _ _ _ ?_);clear hK K;by_cases hw1:w.length=1
 ·
  rw[hw1];refine aE fun K hK=>Rg ?_;iterate 4 refine S0 ?_ (e:=fun _ h_=>by simp only[sH,↓sP,sA,tyS,simprocAttr,rI,cB,bA h0,bC,Nat.lt_irrefl];exact AX h_)
  simp only[sE,↓reduceIte,simprocAttr,rI];refine AX (hK _ _ _ ?_);clear hK K;refine aJ ?_;simp only[aT,Tryz.results18,aR,aS,aQ,↓sP,sA,tyS,simprocAttr,rI];exact aW [] (.bool w[0]) rfl (by rw[h3])
 refine aE fun K hK=>Rg ?_;iterate 4 refine S0 ?_ (e:=fun _ h_=>by simp only[sH,↓sP,sA,tyS,simprocAttr,rI,bW (Ne.symm hw1),bA h0,bC,h0];exact AX h_)
 simp only[sE,↓reduceIte,simprocAttr,rI];refine AX (hK _ _ _ ?_);clear hK K;refine aJ ?_;simp only[aT,Tryz.results18,aR,aS,aQ,↓sP,sA,tyS,simprocAttr,rI];exact aW [] (.bool w[0]) rfl (by rw[h3])
end Go.Proofs.YthedbjfipmkpiaaGreatDoor
