/- Part of a proof: walks of functions of the program, by contracts, and the rules they use. By an AI agent. -/
import Derived.Test.YtlgckianjabghaaGreatDoorHpTk
set_option maxRecDepth 10000
set_option maxHeartbeats 16000000
set_option linter.unusedSimpArgs false
set_option linter.unusedVariables false
set_option linter.defProp false
namespace Go.Pl
open Go Go.Hl
def nC (w:List Bool)(m:Nat)(b:Bool):List Bool:=w.take m++[b]++w.drop (m+1)
variable {b:Bool}{m:Nat}{w:List Bool}
theorem nD (h:m+1≤w.length):(nC w m b).length=w.length:=by simp[nC];omega
theorem aI0 :nC w w.length b=w++[b]:=by simp[nC]
theorem aI1 (h:m≤w.length):(nC w m b).take (m+1)=w.take m++[b]:=by grind[nC,List.take_of_length_le]
def bF1 (l:List Nd)(tr:List Bool)(p:Nat)(s:List Bool×Nat):List Bool×Nat:=
 if(l.getD p nd0).k=1 then(nC s.1 s.2 (tr.getD (lv (l.take p)) false),s.2+1)
 else(nC s.1 (s.2-(l.getD p nd0).c.toNat) (mW (l.getD p nd0) ((s.1.drop (s.2-(l.getD p nd0).c.toNat)).take (l.getD p nd0).c.toNat)),s.2-(l.getD p nd0).c.toNat+1)
def cV (l:List Nd)(tr:List Bool):Nat→List Bool×Nat
 |0=>([],0)
 |i+1=>bF1 l tr (l.length-1-i) (cV l tr i)
structure EvOk (l:List Nd)(tr:List Bool)(i:Nat):Prop where
 le:i≤l.length
 m:(cV l tr i).2=(evS (lv l) tr (l.drop (l.length-i))).length
 row:(cV l tr i).1.take (cV l tr i).2=(evS (lv l) tr (l.drop (l.length-i))).reverse
 fit:(cV l tr i).2≤(cV l tr i).1.length
 small:(cV l tr i).1.length≤i
theorem EvOk.zero (l:List Nd)(tr:List Bool):EvOk l tr 0:=⟨by omega,by simp[cV,evS],by simp[cV,evS],by simp[cV],by simp[cV]⟩
theorem aB9 (n:Nd)(l:List Bool):mW n l.reverse=mW n l:=by simp only[mW,aU7,List.length_reverse]
variable {c:Nat}{E:List Bool}
theorem cE8 :E.reverse.take (E.length-c)=(E.drop c).reverse:=by rw[List.reverse_drop]
theorem cE9 (h:c≤E.length):E.reverse.drop (E.length-c)=(E.take c).reverse:=by rw[List.reverse_take]
variable {i:Nat}{l:List Nd}
theorem EvOk.at_ {tr:List Bool}(hi:i<l.length):l.drop (l.length-(i+1))=l[l.length-1-i]'(by omega)::l.drop (l.length-i):=by grind[List.drop_eq_getElem_cons]
variable {tr:List Bool}
theorem EvOk.leaf (h:EvOk l tr i)(hi:i<l.length)(hk:(l[l.length-1-i]'(by omega)).k=1):
  EvOk l tr (i+1)∧cV l tr (i+1)=(nC (cV l tr i).1 (cV l tr i).2 (tr.getD (lv (l.take (l.length-1-i))) false),(cV l tr i).2+1):=by
 have hp:l.length-1-i<l.length:=by omega
 have hg:l.getD (l.length-1-i) nd0=l[l.length-1-i]:=by simp[hp]
 have e:cV l tr (i+1)=(nC (cV l tr i).1 (cV l tr i).2 (tr.getD (lv (l.take (l.length-1-i))) false),(cV l tr i).2+1):=by
  simp only[cV,bF1,hg,B6 hk]
 have hT:=aL8 l (l.length-1-i);have hd:=EvOk.at_ (tr:=tr) hi;rw[show l.length-(i+1)=l.length-1-i from by omega]at hd;have hE:evS (lv l) tr (l.drop (l.length-(i+1)))=tr.getD (lv (l.take (l.length-1-i))) false::evS (lv l) tr (l.drop (l.length-i)):=by
  rw[show l.length-(i+1)=l.length-1-i from by omega,hd,evS,B6 hk,←hd];congr 2;omega
 refine⟨⟨hi,?_,?_,?_,?_⟩,e⟩
 · rw[e,hE];simp[h.m]
 · rw[e,hE];simp only[BS];rw[aI1 h.fit,h.row]
 · rw[e];have:=h.fit;simp[nC];omega
 · rw[e];have:=h.fit;have:=h.small;simp[nC];omega
theorem EvOk.inner (ht:IsTree l)(h:EvOk l tr i)(hi:i<l.length)(hk:(l[l.length-1-i]'(by omega)).k≠1):
  (l[l.length-1-i]'(by omega)).c.toNat≤(cV l tr i).2∧EvOk l tr (i+1)∧
  cV l tr (i+1)=(nC (cV l tr i).1 ((cV l tr i).2-(l[l.length-1-i]'(by omega)).c.toNat) (mW (l[l.length-1-i]'(by omega)) (((cV l tr i).1.drop ((cV l tr i).2-(l[l.length-1-i]'(by omega)).c.toNat)).take (l[l.length-1-i]'(by omega)).c.toNat)),(cV l tr i).2-(l[l.length-1-i]'(by omega)).c.toNat+1):=by
 have hp:l.length-1-i<l.length:=by omega
 have hg:l.getD (l.length-1-i) nd0=l[l.length-1-i]:=by simp[hp]
 have e:cV l tr (i+1)=(nC (cV l tr i).1 ((cV l tr i).2-(l[l.length-1-i]'(by omega)).c.toNat) (mW (l[l.length-1-i]'(by omega)) (((cV l tr i).1.drop ((cV l tr i).2-(l[l.length-1-i]'(by omega)).c.toNat)).take (l[l.length-1-i]'(by omega)).c.toNat)),(cV l tr i).2-(l[l.length-1-i]'(by omega)).c.toNat+1):=by
  simp only[cV,bF1,hg,A7 hk]
 have hkl:=bY5 ht (tr:=tr) hp;rw[show l.length-1-i+1=l.length-i from by omega]at hkl;obtain⟨_,_,_,c4⟩:=eF (ht.node _ (C0 hp));have c5:=c4 hk;have c6:1≤l[l.length-1-i].c.toNat:=by omega
 have hd:=EvOk.at_ (tr:=tr) hi;have hm:=h.m;have hr:=h.row;have hf:=h.fit;have hs:=h.small;have hE:evS (lv l) tr (l.drop (l.length-(i+1)))=mW l[l.length-1-i] ((evS (lv l) tr (l.drop (l.length-i))).take l[l.length-1-i].c.toNat)::(evS (lv l) tr (l.drop (l.length-i))).drop l[l.length-1-i].c.toNat:=by
  rw[hd,evS,A7 hk]
 generalize evS (lv l) tr (l.drop (l.length-i))=E at hm hr hkl hE;generalize l[l.length-1-i].c.toNat=c at*;have h1:(cV l tr i).1.take ((cV l tr i).2-c)=(E.drop c).reverse:=by
  rw[←cE8,←hr,R9,hm,G5 (by omega)]
 have h2:((cV l tr i).1.drop ((cV l tr i).2-c)).take c=(E.take c).reverse:=by
  rw[←cE9 hkl,←hr,AJ,hm];congr 1;omega
 refine⟨by omega,⟨hi,?_,?_,?_,?_⟩,e⟩
 · rw[e,hE];simp only[B0,B8];omega
 · rw[e,hE];simp only[BS];rw[aI1 (by omega),h1,h2,aB9]
 · rw[e];simp only;rw[nD (by omega)];omega
 · rw[e];simp only;rw[nD (by omega)];omega
theorem EvOk.fin (ht:IsTree l)(h:EvOk l tr l.length):(cV l tr l.length).2=1∧ ∃h0:0<(cV l tr l.length).1.length,zA l tr=(cV l tr l.length).1[0]:=by
 have hl:=aL7 (T:=lv l) (tr:=tr) l 1 ht.node ht.skip;have hm:=h.m;have hr:=h.row;have hf:=h.fit;rw[U8,L7]at hm hr;rw[hl]at hm;have h0:0<(cV l tr l.length).1.length:=by omega
 refine⟨hm,h0,?_⟩;have ht':=aV8 ht;obtain⟨x,hx⟩: ∃x,evS (lv l) tr l=[x]:=by
  match hE:evS (lv l) tr l,hl with
  |[x],_=>exact⟨x,rfl⟩
 rw[hx,hm]at hr;rw[zA,ht',hx];have:(cV l tr l.length).1[0]=x:=by
  have:=congrArg (·.head?) hr;simpa[List.head?_take,List.head?_eq_getElem?,h0]using this
 rw[this];rfl
end Go.Pl
namespace Go.Proofs.YtlgckianjabghaaGreatDoor
open Go Go.Hl Go.Pl
theorem aY (id n sz m:Nat):(cL id n sz m).sto=true:=by unfold cL;split<;>rfl
theorem aS (id n sz m:Nat):(cL id n sz m).cells=1:=by unfold cL;split<;>rfl
theorem aN (id n sz m:Nat):(cL id n sz m).toC=none:=by unfold cL;split<;>rfl
theorem bD (id n sz:Nat):cL id n sz n= .own id n:=by unfold cL;rw[B6 rfl]
theorem bE {id n sz m:Nat}(h:m≠n):cL id n sz m= .osl id n 0 sz m:=by unfold cL;rw[A7 h]
variable {M:Nat→Prop}
theorem bA {id n sz m:Nat}(h:M id):(cL id n sz m).men M:=by unfold cL;split<;>exact h
theorem bL0 (l:List Nd)(hn: ∀n∈l,n.q.t.length<2^63)(tr:List Bool)(htr:tr.length<2^63):cG Tryz.prog 32 [.slc (l.map Nd.cv),.slc (tr.map bC)] (fun v=>v= .bool (zA l tr)):=by
 refine FW Tryz.func32 ?_;have F:=rI;refine AU ?_;refine SCF (aH3 l hn) ?_;iterate 3 refine SF ?_
 refine RE ?_;refine aC fun K hK=>?_;refine RF ?_;refine aF (b:=(((kM l).length:Int)==0)) rfl (fun hb=>?_) (fun hb=>?_)
 ·
  refine RF ?_;refine aE ?_;simp only[gI,Tryz.results32,fV,gH,fJ,↓sP,sA,tyS,simprocAttr,rI];have hlv:kM l=[]:=by simpa using hb
  have htf:eB l=false:=by
   cases h:eB l with
   |false=>rfl
   |true=>
    have h1:=aU6 (mQ h);rw[rY h]at hlv;have h2:=mV l 0;rw[hlv]at h2;simp at h2;omega
  exact aK [] (.bool false) rfl (by rw[zA,htf];rfl)
 have htt:eB l=true:=by
  cases h:eB l with
  |true=>rfl
  |false=>rw[wN h]at hb;simp at hb
 have ht:=mQ htt;have hl:=ht.len;have hlen:(kM l).length=lv l:=by rw[rY htt,mV]
 rw[hlen];clear hb;refine aJ ?_;refine TQ rI ?_;refine AX (hK _ _ _ ?_);clear hK K;refine RF ?_;refine aC fun K hK=>?_;refine aC fun K hK=>Rg ?_;refine S0 ?_ (e:=fun _ h_=>by simp only[sH,↓sP,sA,tyS,simprocAttr,rI,denilL_Nd,oW,iZ,List.range',D0,H1];exact AX h_);refine HS rfl rfl fun K' hK'=>?_;simp only[sH,↓sP,sA,tyS,simprocAttr,rI,denilL_Nd,oW,iZ,List.range',D0,H1];refine uY (args:=[_]) (cM9 l) (by simp) ⟨rfl,rfl,rfl,rfl⟩ ?_;refine AX (hK' _ _ ?_);clear hK' K';simp only[sE,↓reduceIte,simprocAttr,rI];refine AX (hK _ _ _ ?_);clear hK K;refine aM ?_;refine pY 36 0 4 1 rfl rfl rfl rfl ?_;refine aE7 (ids:=[44]) (fin [(3,.ptr 0 0),(5,.ptr 20 0),(6,.ptr 36 0)]) (fun i=>fob [(0,.box 78 (.c (.slc (tr.map bC)))),(20,.box 3 (.c (.int .i64 (lv (l.take (l.length-i)):Nat)))),(36,.box 78 (cL 48 (cV l tr i).1.length 1 (cV l tr i).2)),(48,.row 4 1 ((cV l tr i).1.map bC))]) 20000 (fun i=>EvOk l tr i) (EvOk.zero l tr) (bS7 l (by omega)) rfl rfl (by decide) ?_ ?_ ?_ ?_ ?_ rfl rfl ?_ ?_
 ·
  intro j x hx
  match j,hx with
  |0,hx=>cases hx;rfl
 · exact fG (by simp[oW,cV,bD,E2])
 · intro id hid;simp only[E9,I7,P1]at hid;subst hid;rfl
 · intro x hx;obtain⟨p,_,rfl⟩:=L3.1 hx;rfl
 · intro p hp;simp only[E9,I7,P1]at hp;rcases hp with rfl|rfl<;>exact C4 rfl
 ·
  intro i hi hΦ K hK;have hi2:i<l.length:=by rw[←tW l];exact hi
  have hp:l.length-1-i<l.length:=by omega
  rw[cC0 hi hp];simp only[yS];obtain⟨w,hw⟩: ∃w,w=(cV l tr i).1:=⟨_,rfl⟩;obtain⟨m,hm⟩: ∃m,m=(cV l tr i).2:=⟨_,rfl⟩;have hfit:=hΦ.fit;have hsmall:=hΦ.small;rw[←hw,←hm]at hfit;rw[←hw]at hsmall;rw[←hw,←hm];refine aL (by kernel_rfl) ?_;refine TQ rI ?_;refine AX (hK _ _ _ ?_);clear hK K;refine aM ?_;refine aC fun K hK=>?_;refine RF ?_;refine aF (b:=(l[l.length-1-i].k==1)) rfl (fun hb=>?_) (fun hb=>?_)
  ·
   have hk1:l[l.length-1-i].k=1:=by simpa using hb
   obtain⟨hok,hst⟩:=hΦ.leaf hi2 hk1;rw[←hw,←hm]at hst;have hlv:=bJ7 hp;rw[B6 hk1,show l.length-1-i+1=l.length-i from by omega]at hlv;have hlb:=bD8 l (l.length-1-i);have hw1:IntKind.i64.wrap ((lv (l.take (l.length-i)):Int)-1)=((lv (l.take (l.length-1-i)):Nat):Int):=by rw[hlv,cS _ (by omega)];omega
   obtain⟨x,hx⟩: ∃x,x=lv (l.take (l.length-1-i)):=⟨_,rfl⟩;have hxl:l.length-(i+1)=l.length-1-i:=by omega
   rw[←hx]at hw1 hst;clear hb;have F:=aI rI hw1;refine RF ?_;by_cases hlt:x<tr.length
   ·
    by_cases hmw:m=w.length
    ·
     subst hmw;have hg:tr.getD x false=tr[x]:=by simp[hlt]
     refine aC fun K hK=>cP mixed [(0,[],[]),(1,[],[]),(2,[],[]),(3,[],[]),(4,[],[]),(5,[],[]),(6,[],[]),(7,[],[]),(8,[],[]),(9,[],[]),(10,[],[]),(11,[],[]),(12,[],[]),(13,[],[])] [0,0,0,4,14,30,62,62,254,510,1022,2046,4095,8191] (by kernel_rfl) (by kernel_rfl) (by kernel_rfl) (by kernel_rfl) rfl (by kernel_rfl) ?_;iterate 14 refine WG0 ?_ (e:=fun _ h_=>by simp only[sH,↓sP,sA,tyS,simprocAttr,rI,A0,A4,hlt,aV hlt,bC,bD,aY,aS,aN];exact AX h_)
     simp only[sE,↓reduceIte,simprocAttr,rI];refine AX (hK _ _ _ ?_);clear hK K;refine bG ?_;refine TQ rI ?_;clear hK K;rw[hg,aI0]at hst;refine⟨(show Fits 20000 _ _ (fin []) _ 20000 from aP (by omega) trivial ?_),hok⟩;rw[hst,hxl,←hx];simp[bD,bC]
    have hg:tr.getD x false=tr[x]:=by simp[hlt]
    have hmw2:m+1≤w.length:=by omega
    have hw0:0<w.length:=by omega
    have hrow:(nC w m tr[x]).map bC=(w.map bC).take m++[.bool tr[x]]++(w.map bC).drop (m+1):=by simp[nC,K3,M1,bC]
    refine aC fun K hK=>cP mixed [(0,[],[]),(1,[],[]),(2,[],[]),(3,[],[]),(4,[],[]),(5,[],[]),(6,[],[]),(7,[],[]),(8,[],[]),(9,[],[]),(10,[],[]),(11,[],[]),(12,[],[]),(13,[],[])] [0,0,0,4,14,30,62,62,254,510,1022,2046,4095,8191] (by kernel_rfl) (by kernel_rfl) (by kernel_rfl) (by kernel_rfl) rfl (by kernel_rfl) ?_;iterate 12 refine WG0 ?_ (e:=fun _ h_=>by simp only[sH,↓sP,sA,tyS,simprocAttr,rI,A0,A4,hlt,aV hlt,bC,bE hmw,aY,aS,aN,hw0,hmw2];exact AX h_)
    refine bF (g:=none) rfl rfl fun K' hK'=>?_;simp only[sN,↓hopH.eq_def,sH,↓sP,sA,tyS,simprocAttr,rI,A0,A4,hlt,aV hlt,bC,bE hmw,aY,aS,aN,hw0,hmw2];refine AX (hK' _ _ ?_);clear hK' K';refine WG0 ?_ (e:=fun _ h_=>by simp only[sH,↓sP,sA,tyS,simprocAttr,rI,A0,A4,hlt,aV hlt,bC,bE hmw,aY,aS,aN,hw0,hmw2];exact AX h_);simp only[sE,↓reduceIte,simprocAttr,rI];refine AX (hK _ _ _ ?_);clear hK K;refine bG ?_;refine TQ rI ?_;clear hK K;rw[hg]at hst;refine⟨(show Fits 20000 _ _ (fin []) _ 20000 from aP (by omega) trivial ?_),hok⟩;rw[hst,hxl,←hx];simp[nD hmw2,hrow,bA,aN]
   by_cases hmw:m=w.length
   ·
    subst hmw;have hg:tr.getD x false=false:=by simp[C7,P5 (Nat.le_of_not_lt hlt)]
    have hlt':decide ((x:Int)<tr.length)=false:=by simp;omega
    refine aC fun K hK=>cP mixed [(0,[],[]),(1,[],[]),(2,[],[]),(3,[],[]),(4,[],[]),(5,[],[]),(6,[],[]),(7,[],[]),(8,[],[]),(9,[],[]),(10,[],[]),(11,[],[]),(12,[],[]),(13,[],[])] [0,0,0,4,14,30,62,62,254,510,1022,2046,4095,8191] (by kernel_rfl) (by kernel_rfl) (by kernel_rfl) (by kernel_rfl) rfl (by kernel_rfl) ?_;have F:=aI rI (aI hlt' (aI @bD (aI @aY (aI @aS @aN))));iterate 14 refine WGF ?_
    simp only[sE,↓reduceIte,simprocAttr,rI];refine AX (hK _ _ _ ?_);clear hK K;refine bG ?_;refine TQ rI ?_;clear hK K;rw[hg,aI0]at hst;refine⟨(show Fits 20000 _ _ (fin []) _ 20000 from aP (by omega) trivial ?_),hok⟩;rw[hst,hxl,←hx];simp[bD,bC]
   have hg:tr.getD x false=false:=by simp[C7,P5 (Nat.le_of_not_lt hlt)]
   have hlt':decide ((x:Int)<tr.length)=false:=by simp;omega
   have hmw2:m+1≤w.length:=by omega
   have hw0:0<w.length:=by omega
   have hrow:(nC w m false).map bC=(w.map bC).take m++[.bool false]++(w.map bC).drop (m+1):=by simp[nC,K3,M1,bC]
   refine aC fun K hK=>cP mixed [(0,[],[]),(1,[],[]),(2,[],[]),(3,[],[]),(4,[],[]),(5,[],[]),(6,[],[]),(7,[],[]),(8,[],[]),(9,[],[]),(10,[],[]),(11,[],[]),(12,[],[]),(13,[],[])] [0,0,0,4,14,30,62,62,254,510,1022,2046,4095,8191] (by kernel_rfl) (by kernel_rfl) (by kernel_rfl) (by kernel_rfl) rfl (by kernel_rfl) ?_;iterate 12 refine WG0 ?_ (e:=fun _ h_=>by simp only[sH,↓sP,sA,tyS,simprocAttr,rI,hlt',bE hmw,aY,aS,aN,hw0,hmw2];exact AX h_)
   refine bF (g:=none) rfl rfl fun K' hK'=>?_;simp only[sN,↓hopH.eq_def,sH,↓sP,sA,tyS,simprocAttr,rI,hlt',bE hmw,aY,aS,aN,hw0,hmw2];refine AX (hK' _ _ ?_);clear hK' K';refine WG0 ?_ (e:=fun _ h_=>by simp only[sH,↓sP,sA,tyS,simprocAttr,rI,hlt',bE hmw,aY,aS,aN,hw0,hmw2];exact AX h_);simp only[sE,↓reduceIte,simprocAttr,rI];refine AX (hK _ _ _ ?_);clear hK K;refine bG ?_;refine TQ rI ?_;clear hK K;rw[hg]at hst;refine⟨(show Fits 20000 _ _ (fin []) _ 20000 from aP (by omega) trivial ?_),hok⟩;rw[hst,hxl,←hx];simp[nD hmw2,hrow,bA,aN]
  have hk1:l[l.length-1-i].k≠1:=by simpa using hb
  obtain⟨hcm,hok,hst⟩:=hΦ.inner ht hi2 hk1;rw[←hw,←hm]at hst;rw[←hm]at hcm;obtain⟨c1,c2,c3,c4⟩:=eF (ht.node _ (C0 hp));have c5:=c4 hk1;have hlv:=bJ7 hp;rw[A7 hk1,N0,show l.length-1-i+1=l.length-i from by omega]at hlv;have hxl:l.length-(i+1)=l.length-1-i:=by omega
  obtain⟨f,hf⟩: ∃f,f=m-l[l.length-1-i].c.toNat:=⟨_,rfl⟩;have hfc:m-f=l[l.length-1-i].c.toNat:=by omega
  rw[←hf,←hfc]at hst;have hw2:IntKind.i64.wrap ((m:Int)-l[l.length-1-i].c)=(f:Int):=by rw[cS _ (by omega)];omega
  have hf1:f+1≤w.length:=by omega
  have hfw:f≤w.length:=by omega
  have hfm:f≤m:=by omega
  have hw0:0<w.length:=by omega
  obtain⟨h,hh⟩: ∃h,h=mW l[l.length-1-i] ((w.drop f).take (m-f)):=⟨_,rfl⟩;rw[←hh]at hst;have hrow:(nC w f h).map bC=(w.map bC).take f++[.bool h]++(w.map bC).drop (f+1):=by simp[nC,K3,M1,bC]
  clear hb;refine aJ ?_;refine TQ rI ?_;refine AX (hK _ _ _ ?_);clear hK K;by_cases hmw:m=w.length
  ·
   rw[←hmw]at hw0 hf1 hfw;refine RS ?_;iterate 6 refine S0 ?_ (e:=fun _ h_=>by simp only[sH,↓sP,sA,tyS,simprocAttr,rI,bD,←hmw,A2,hw2];exact AX h_)
   refine RE ?_;refine cP mixed [(0,[],[]),(1,[],[]),(2,[],[]),(3,[],[]),(4,[],[]),(5,[],[]),(6,[],[]),(7,[],[0,1,2]),(8,[],[]),(9,[],[]),(10,[],[])] [0,0,3,0,0,0,48,120,248,511,1023] (by kernel_rfl) (by kernel_rfl) (by kernel_rfl) (by kernel_rfl) rfl (by kernel_rfl) ?_;iterate 7 refine WG0 ?_ (e:=fun _ h_=>by simp only[sH,↓sP,sA,tyS,simprocAttr,rI,bD,aY,aS,aN,←hmw,A2,A0,H2,hfw];exact AX h_)
   refine rA (g:=none) rfl rfl fun K' hK'=>?_;simp only[sN,↓hopH.eq_def,sH,↓sP,sA,tyS,simprocAttr,rI,bD,aY,aS,aN,←hmw,A2,A0,H2,hfw];refine aS9 [48] (aY1 l[l.length-1-i] w f m (by omega) (by omega) (by omega) (by omega)) (by first|rfl|(rw[←hmw];rfl)) ⟨rfl,trivial⟩ (by simp) ?_ ?_ ?_ ?_ ?_
   ·
    intro j hj
    match j,hj with
    |0,_=>exact .inr ⟨by decide,fun r os' h=>by rw[h.2]⟩
   · exact⟨rfl,rfl,rfl,rfl⟩
   · simp[dO]
   · simp
   rintro r os' ⟨rfl,rfl⟩;rw[←hh,show∀n ob,jG (sub [48] n) ob 0 [.row 4 1 (w.map bC)]=upd ob 48 (some (.row 4 1 (w.map bC)))from fun _ _=>rfl,show∀n b,HV.ren (sub [48] n) (.c b)= .c b from fun _ _=>rfl];refine AX (hK' _ _ ?_);clear hK' K';refine WG0 ?_ (e:=fun _ h_=>by simp only[sH,↓sP,sA,tyS,simprocAttr,rI,bD,aY,aS,aN,←hmw,A2,A0,H2,hfw];exact AX h_);refine bF (g:=none) rfl rfl fun K' hK'=>?_;simp only[sN,↓hopH.eq_def,sH,↓sP,sA,tyS,simprocAttr,rI,bD,aY,aS,aN,←hmw,A2,A0,H2,hfw];refine AX (hK' _ _ ?_);clear hK' K';refine WG0 ?_ (e:=fun _ h_=>by simp only[sH,↓sP,sA,tyS,simprocAttr,rI,bD,aY,aS,aN,←hmw,A2,A0,H2,hfw];exact AX h_);simp only[sE,↓reduceIte,simprocAttr,rI];refine⟨(show Fits 20000 _ _ (fin []) _ 20000 from aP (by omega) trivial ?_),hok⟩;rw[hst,hxl,hlv];simp[nD (show f+1≤w.length by omega),hrow,bA,aN,←hmw]
  refine RS ?_;iterate 6 refine S0 ?_ (e:=fun _ h_=>by simp only[sH,↓sP,sA,tyS,simprocAttr,rI,bE hmw,A2,hw0,hfit,F9,D9,B8,G8,G5 hfit,hw2];exact AX h_)
  refine RE ?_;refine cP mixed [(0,[],[]),(1,[],[]),(2,[],[]),(3,[],[]),(4,[],[]),(5,[],[]),(6,[],[]),(7,[],[0,1,2]),(8,[],[]),(9,[],[]),(10,[],[])] [0,0,3,0,0,0,48,120,248,511,1023] (by kernel_rfl) (by kernel_rfl) (by kernel_rfl) (by kernel_rfl) rfl (by kernel_rfl) ?_;iterate 2 refine WG0 ?_ (e:=fun _ h_=>by simp only[sH,↓sP,sA,tyS,simprocAttr,rI,aY,aS,aN,bE hmw,A2,A0,H2,hfw,hfm];exact AX h_)
  refine bF (g:=none) rfl rfl fun K' hK'=>?_;simp only[sN,↓hopH.eq_def,sH,↓sP,sA,tyS,simprocAttr,rI,aY,aS,aN,bE hmw,A2,A0,H2,hfw,hfm];refine AX (hK' _ _ ?_);clear hK' K';iterate 3 refine WG0 ?_ (e:=fun _ h_=>by simp only[sH,↓sP,sA,tyS,simprocAttr,rI,aY,aS,aN,bE hmw,A2,A0,H2,hfw,hfm];exact AX h_)
  refine bF (g:=none) rfl rfl fun K' hK'=>?_;simp only[sN,↓hopH.eq_def,sH,↓sP,sA,tyS,simprocAttr,rI,aY,aS,aN,bE hmw,A2,A0,H2,hfw,hfm];refine AX (hK' _ _ ?_);clear hK' K';refine rA (g:=none) rfl rfl fun K' hK'=>?_;simp only[sN,↓hopH.eq_def,sH,↓sP,sA,tyS,simprocAttr,rI,aY,aS,aN,bE hmw,A2,A0,H2,hfw,hfm];refine aS9 [48] (aY1 l[l.length-1-i] w f m (by omega) (by omega) (by omega) (by omega)) (by first|rfl|(rw[←hmw];rfl)) ⟨rfl,trivial⟩ (by simp) ?_ ?_ ?_ ?_ ?_
  ·
   intro j hj
   match j,hj with
   |0,_=>exact .inr ⟨by decide,fun r os' h=>by rw[h.2]⟩
  · exact⟨rfl,rfl,rfl,rfl⟩
  · simp[dO]
  · simp
  rintro r os' ⟨rfl,rfl⟩;rw[←hh,show∀n ob,jG (sub [48] n) ob 0 [.row 4 1 (w.map bC)]=upd ob 48 (some (.row 4 1 (w.map bC)))from fun _ _=>rfl,show∀n b,HV.ren (sub [48] n) (.c b)= .c b from fun _ _=>rfl];refine AX (hK' _ _ ?_);clear hK' K';refine WG0 ?_ (e:=fun _ h_=>by simp only[sH,↓sP,sA,tyS,simprocAttr,rI,aY,aS,aN,bE hmw,A2,A0,H2,hfw,hfm];exact AX h_);refine bF (g:=none) rfl rfl fun K' hK'=>?_;simp only[sN,↓hopH.eq_def,sH,↓sP,sA,tyS,simprocAttr,rI,aY,aS,aN,bE hmw,A2,A0,H2,hfw,hfm];refine AX (hK' _ _ ?_);clear hK' K';refine WG0 ?_ (e:=fun _ h_=>by simp only[sH,↓sP,sA,tyS,simprocAttr,rI,aY,aS,aN,bE hmw,A2,A0,H2,hfw,hfm];exact AX h_);simp only[sE,↓reduceIte,simprocAttr,rI];refine⟨(show Fits 20000 _ _ (fin []) _ 20000 from aP (by omega) trivial ?_),hok⟩;rw[hst,hxl,hlv];simp[nD hf1,hrow,bA,aN]
 intro hΦ;simp only[sE,↓reduceIte,simprocAttr,rI];have hfin:=hΦ;rw[tW]at hfin;obtain⟨h1,h0,h2⟩:=hfin.fin ht;rw[tW,h1];obtain⟨w,hw⟩: ∃w,w=(cV l tr l.length).1:=⟨_,rfl⟩;rw[←hw]at h0;have h3:zA l tr=w[0]:=by rw[h2];simp only[hw]
 rw[←hw];refine AX (hK _ _ _ ?_);clear hK K;by_cases hw1:w.length=1
 ·
  rw[hw1];refine RS ?_;iterate 4 refine S0 ?_ (e:=fun _ h_=>by simp only[sH,↓sP,sA,tyS,simprocAttr,rI,bD,aV h0,bC,V3];exact AX h_)
  refine RE ?_;refine aE ?_;simp only[gI,Tryz.results32,fV,gH,fJ,↓sP,sA,tyS,simprocAttr,rI];exact aK [] (.bool w[0]) rfl (by rw[h3])
 refine RS ?_;iterate 4 refine S0 ?_ (e:=fun _ h_=>by simp only[sH,↓sP,sA,tyS,simprocAttr,rI,bE (W7 hw1),aV h0,bC,h0];exact AX h_)
 refine RE ?_;refine aE ?_;simp only[gI,Tryz.results32,fV,gH,fJ,↓sP,sA,tyS,simprocAttr,rI];exact aK [] (.bool w[0]) rfl (by rw[h3])
def rbx (n:aH)(v:Int)(R:HV)(O:HV)(d:Bool):HV:= .agg [.agg [.c (.str n),.c (.int .i64 v),R],O,.c (.bool d)]
theorem cQ1 (a b c:HO):lst [a,b,c]=fob [(0,a),(1,b),(2,c)]:=by
 funext i
 match i with
 |0=>rfl
 |1=>rfl
 |2=>rfl
 |i+3=>simp[lst,fob,upd]
theorem cZ3 (a b c d:HO):lst [a,b,c,d]=fob [(0,a),(1,b),(2,c),(3,d)]:=by
 funext i
 match i with
 |0=>rfl
 |1=>rfl
 |2=>rfl
 |3=>rfl
 |i+4=>simp[lst,fob,upd]
def st0 :List HO:=[.box 72 (rbx [] 0 (.own 1 0) (.own 2 0) false),.hrow 48 5 [],.row 3 1 []]
variable {R:HV→List HO→Prop}{v:Int}{n:aH}{b:CV}{ob:Ob}
theorem bL1 {r:HV}(hr:r= .c b)(h0:ob 0=some (.box 72 (rbx n v (.own 1 0) (.own 2 0) false)))(h1:ob 1=some (.hrow 48 5 []))(h2:ob 2=some (.row 3 1 []))
  (hR:R (.c b.denil) [.box 72 (rbx n v (.own 1 0) (.own 2 0) false),.hrow 48 5 [],.row 3 1 []]):lC 3 r ob (fun r ob'=> ∃os',ob'=lst os'∧(3≤os'.length∧os'.length≤3+4)∧R r os'):=by
 subst hr;refine dS [] [] (.c b.denil) [.box 72 (rbx n v (.own 1 0) (.own 2 0) false),.hrow 48 5 [],.row 3 1 []] (by simp) (by simp) ⟨⟨by simp[rbx],by simp,_,h0,by simp[rbx,fC,tau]⟩,⟨by simp,by simp,_,h1,by simp[fC]⟩,⟨by simp,by simp,_,h2,rfl⟩,trivial⟩ rfl I3 (by simp) (by simp) hR
theorem aY2 (w:List aH)(hw:0<w.length):HGe Tryz.prog 27 [.ptr 0 0,.c (lsC w),.c (.bool true)] st0
  (fun r os'=>r= .c (.bool (cW w true ⟨[],0,[],[],false⟩).isSome)∧match cW w true ⟨[],0,[],[],false⟩with
   |some y=>y=⟨y.n,y.v,[],[],false⟩∧os'=[.box 72 (rbx y.n y.v (.own 1 0) (.own 2 0) false),.hrow 48 5 [],.row 3 1 []]
   |none=>os'=st0):=by
 refine cA (args:=[.ptr 0 0,.c (lsC w),.c (.bool true)]) Tryz.func27 rfl (by kernel_rfl) (eM rfl (by simp[st0,rbx,dO]) (by simp[st0])) (C4 rfl) ?_;show Hw _ _ 3 _ _ _ (lst _) 3;rw[st0,cQ1];unfold lsC;have hw0:nth (w.map CV.str) 0= .str (wd w 0):=cH hw;refine R0 ?_;refine aC fun K hK=>?_;refine R0 ?_;refine CT rfl ?_;refine aC fun K hK=>?_;refine aC fun K hK=>?_;have key: ∀(b:Bool) fr ob nx,b=!(decide (w.length=3∧wd w 0=wPolicy)&&(bP (wd w 2)).isSome)→Fits 3 fr ob (fin [(0,.ptr 0 0),(1,.c (.slc (w.map .str))),(26,.c (.bool b))]) (fob [(0,.box 72 (rbx [] 0 (.own 1 0) (.own 2 0) false)),(1,.hrow 48 5 []),(2,.row 3 1 [])]) 100→K fr ob nx:=by
  rintro b fr ob nx rfl hf;refine hK _ _ _ (bB hf ?_);clear hf hK K;refine aF (b:=!(decide (w.length=3∧wd w 0=wPolicy)&&(bP (wd w 2)).isSome)) rfl (fun hb=>?_) (fun hb=>?_)
  ·
   refine R0 ?_;refine aE (RT Tryz.results27 ?_);have hn:cW w true ⟨[],0,[],[],false⟩=none:=by
    unfold cW;rw[B6 rfl];split
    · rename_i h;rw[O6 h]at hb;simp only[B1,J8,X6,Y0]at hb;rw[hb];rfl
    rfl
   exact bL1 (b:= .bool false) rfl rfl rfl rfl ⟨by rw[hn]<;>rfl,by rw[hn]<;>rfl⟩
  refine aJ ?_;refine T0 (hK _ _ _ ?_);clear hK K;obtain⟨⟨hL,hP⟩,v,hv⟩:(w.length=3∧wd w 0=wPolicy)∧ ∃v,bP (wd w 2)=some v:=by
   simp only[T8,A6,B9]at hb;exact⟨hb.1,G3.1 hb.2⟩
  have hs:cW w true ⟨[],0,[],[],false⟩=some ⟨wd w 1,v,[],[],false⟩:=by
   unfold cW;rw[B6 rfl,B6 ⟨hL,hP⟩,hv];rfl
  clear hb;refine aC fun K hK=>DW [(0,[],[]),(1,[],[]),(2,[],[]),(3,[],[]),(4,[],[]),(5,[],[]),(6,[],[]),(7,[],[]),(8,[],[0,1,2,3,4]),(9,[],[]),(10,[],[]),(11,[],[]),(12,[],[1]),(13,[],[]),(14,[],[]),(15,[],[]),(16,[],[])] [0,0,0,4,12,0,32,96,224,509,1021,2045,4093,8191,16383,32767,65535] ?_;iterate 8 refine W0 ?_ (e:=fun _ h_=>by simp only[sH,↓sP,sA,tyS,simprocAttr,rbx,hL,cH (show 1<w.length by omega),cH (show 2<w.length by omega)];exact AX h_)
  refine cT (g:=none) rfl rfl fun K' hK'=>?_;simp only[sH,↓sP,sA,tyS,simprocAttr,rbx,hL,cH (show 1<w.length by omega),cH (show 2<w.length by omega)];refine C1 (qQ (wd w 2)) ?_;rintro u rfl;rw[hv];refine AX (hK' _ _ ?_);clear hK' K';iterate 8 refine W0 ?_ (e:=fun _ h_=>by simp only[sH,↓sP,sA,tyS,simprocAttr,rbx,hL,cH (show 1<w.length by omega),cH (show 2<w.length by omega)];exact AX h_)
  refine T2 (hK _ _ _ ?_);clear hK K;refine R0 ?_;refine aE (RT Tryz.results27 ?_);exact bL1 (b:= .bool true) (n:=wd w 1) (v:=v) rfl rfl rfl rfl ⟨by rw[hs]<;>rfl,by rw[hs];exact⟨rfl,rfl⟩⟩
 by_cases hL:w.length=3
 ·
  by_cases hP:wd w 0=wPolicy
  ·
   refine Rg ?_;have F:=aI hL (aI hw0 (aI (cH (show 2<w.length by omega)) (show(wd w 0==[112,111,108,105,99,121])=true from by rw[hP];decide)));refine AU ?_;refine SCF (qQ (wd w 2)) ?_;refine AU ?_;refine T4 ?_;exact key (decide ((bP (wd w 2)).getD (-1)<0)) _ _ _ (by
    have hy:decide ((bP (wd w 2)).getD (-1)<0)=!(bP (wd w 2)).isSome:=by
     cases h:bP (wd w 2)with
     |none=>rfl
     |some n=>have:=(lG h).1;simp;omega
    rw[hy,O6 ⟨hL,hP⟩,B1]) (fG (by simp[rbx]))
  refine Rg ?_;have F:=aI hL (aI hw0 (show(wd w 0==[112,111,108,105,99,121])=false from H4 hP));refine AU ?_;refine T4 ?_;exact key true _ _ _ (by rw[M7 (fun h=>hP h.2)];rfl) (fG (by simp[rbx]))
 refine Rg ?_;have F:=aI (show((w.length:Int) !=3)=true by simp;omega) hw0;refine AU ?_;refine T4 ?_;exact key true _ _ _ (by rw[M7 (fun h=>hL h.1)];rfl) (fG (by simp[rbx]))
abbrev os2 (n:aH)(v:Int)(r:List Pr)(W:List Nat):List HO:=[.box 72 (rbx n v (.own 1 r.length) (cL 2 W.length 1 0) false),.hrow 48 5 (r.map fun x=> .c x.cv),.row 3 1 (W.map iC)]
theorem cO (r:List Pr)(x:HV):kJ ((r.map fun x=> .c x.cv)++[x]) r.length=x:=by
 have:=bM8 (r.map fun x:Pr=>HV.c x.cv) x;simpa using this
theorem bV (r:List Pr):HV.menL M (r.map fun x=> .c x.cv):=by
 induction r with
 |nil=>simp
 |cons x l ih=>simp only[D0,HV.menL,HV.men,V5];exact ih
theorem lI (id n sz m:Nat):(cL id n sz m).norm=cL id n sz m:=by unfold cL;split<;>rfl
variable {cl:List Nat}
theorem qR (r:List Pr):HV.closeL ob cl (r.map fun x=> .c x.cv)=r.map fun x=> .c x.cv:=by
 induction r with
 |nil=>simp
 |cons x l ih=>simp only[D0,HV.closeL,HV.close,Pr.denil,HV.norm,HV.toC,ih]
variable {N:Nat→Nat}
theorem lY (r:List Pr):HV.renL N (r.map fun x=> .c x.cv)=r.map fun x=> .c x.cv:=by
 induction r with
 |nil=>simp
 |cons x l ih=>simp only[D0,HV.renL,HV.ren,ih]
theorem sB (l m:List HV):HV.closeL ob cl (l++m)=HV.closeL ob cl l++HV.closeL ob cl m:=by
 induction l with
 |nil=>simp
 |cons x l ih=>simp only[J4,HV.closeL,ih]
theorem pL (l m:List HV):HV.renL N (l++m)=HV.renL N l++HV.renL N m:=by
 induction l with
 |nil=>simp
 |cons x l ih=>simp only[J4,HV.renL,ih]
theorem nW (r:List Pr)(x y:HV):((r.map fun x=>HV.c x.cv)++[x]).set r.length y=(r.map fun x=>HV.c x.cv)++[y]:=by
 rw[V1 _ _ (by simp)];simp
theorem pM (m:Nat)(W:List Nat)(h:ob 2=some (.row 3 1 (W.map iC))):(cL 2 W.length 1 m).close ob []=cL 2 W.length 1 m:=by
 unfold cL;split<;>simp
theorem iW (id n sz m:Nat):(cL id n sz m).ren N=cL (N id) n sz m:=by unfold cL;split<;>rfl
theorem cF0 {r:List Pr}{W:List Nat}{u:HV}(hr:u= .c b)(h0:ob 0=some (.box 72 (rbx n v (.own 1 r.length) (cL 2 W.length 1 0) false)))(h1:ob 1=some (.hrow 48 5 (r.map fun x=> .c x.cv)))(h2:ob 2=some (.row 3 1 (W.map iC)))
  (hR:R (.c b.denil) (os2 n v r W)):lC 3 u ob (fun r ob'=> ∃os',ob'=lst os'∧(3≤os'.length∧os'.length≤3+4)∧R r os'):=by
 subst hr;refine dS [] [] (.c b.denil) (os2 n v r W) (by simp) (by simp) ⟨⟨by simp[rbx,bA],by simp,_,h0,?_⟩,⟨by simp[bV],by simp,_,h1,?_⟩,⟨by simp,by simp,_,h2,rfl⟩,trivial⟩ rfl I3 (by simp) (by simp) hR
 · simp[rbx,pM 0 W h2,fC,aN,lI,iW,tau]
 simp[qR,lY,fC]
theorem aY3 (w:List aH)(hw:0<w.length)(n:aH)(v:Int)(r:List Pr)(W:List Nat)(hr:r.length<2^40):HGe Tryz.prog 27 [.ptr 0 0,.c (lsC w),.c (.bool false)] (os2 n v r W)
  (fun u os'=>u= .c (.bool (cW w false ⟨n,v,r,[],false⟩).isSome)∧match cW w false ⟨n,v,r,[],false⟩with
   |some y=> ∃g,y=⟨n,v,r++[⟨wd w 1,wd w 2,wd w 3,g,[]⟩],[],true⟩∧os'=[.box 72 (rbx n v (.own 1 (r.length+1)) (cL 2 W.length 1 0) true),.hrow 48 5 ((r.map fun x=> .c x.cv)++[.agg [.c (.str (wd w 1)),.c (.str (wd w 2)),.c (.str (wd w 3)),.c (.int .i64 g),.own 3 0]]),.row 3 1 (W.map iC),.row 56 7 []]
   |none=>os'=os2 n v r W):=by
 refine cA (args:=[.ptr 0 0,.c (lsC w),.c (.bool false)]) Tryz.func27 rfl (by kernel_rfl) (eM rfl (by simp[rbx,dO,bA,bV]) (by simp)) (C4 rfl) ?_;show Hw _ _ 3 _ _ _ (lst _) 3;rw[cQ1];unfold lsC;have hw0:nth (w.map CV.str) 0= .str (wd w 0):=cH hw;refine R0 ?_;refine aC fun K hK=>?_;refine R0 ?_;refine CF rfl ?_;refine aJ ?_;refine T0 (hK _ _ _ ?_);clear hK K;refine aC fun K hK=>?_;refine aC fun K hK=>?_;have key: ∀fr ob nx,Fits 3 fr ob (fin [(0,.ptr 0 0),(1,.c (.slc (w.map .str))),(54,.c (.bool true))]) (fob [(0,.box 72 (rbx n v (.own 1 r.length) (cL 2 W.length 1 0) false)),(1,.hrow 48 5 (r.map fun x=> .c x.cv)),(2,.row 3 1 (W.map iC))]) 100→K fr ob nx:=by
  rintro fr ob nx hf;refine hK _ _ _ (bB hf ?_);clear hf hK K;refine CT rfl ?_;refine aC fun K hK=>?_;refine aC fun K hK=>?_;have key: ∀(b:Bool) fr ob nx,b=!(decide (w.length=5∧wd w 0=wRule)&&(bP (wd w 4)).isSome)→Fits 3 fr ob (fin [(0,.ptr 0 0),(1,.c (.slc (w.map .str))),(70,.c (.bool b))]) (fob [(0,.box 72 (rbx n v (.own 1 r.length) (cL 2 W.length 1 0) false)),(1,.hrow 48 5 (r.map fun x=> .c x.cv)),(2,.row 3 1 (W.map iC))]) 200→K fr ob nx:=by
   rintro b fr ob nx rfl hf;refine hK _ _ _ (bB hf ?_);clear hf hK K;refine aF (b:=!(decide (w.length=5∧wd w 0=wRule)&&(bP (wd w 4)).isSome)) rfl (fun hb=>?_) (fun hb=>?_)
   ·
    refine R0 ?_;refine aE (RT Tryz.results27 ?_);have hn:cW w false ⟨n,v,r,[],false⟩=none:=by
     unfold cW;rw[A7 (by decide),if_pos ⟨rfl,rfl⟩];split
     · rename_i h;rw[O6 h]at hb;simp only[B1,J8,X6,Y0]at hb;rw[hb];rfl
     rfl
    exact cF0 (b:= .bool false) rfl rfl rfl rfl ⟨by rw[hn]<;>rfl,by rw[hn]<;>rfl⟩
   refine aJ ?_;refine T0 (hK _ _ _ ?_);clear hK K;obtain⟨⟨hL,hP⟩,g,hg⟩:(w.length=5∧wd w 0=wRule)∧ ∃v,bP (wd w 4)=some v:=by
    simp only[T8,A6,B9]at hb;exact⟨hb.1,G3.1 hb.2⟩
   have hs:cW w false ⟨n,v,r,[],false⟩=some ⟨n,v,r++[⟨wd w 1,wd w 2,wd w 3,g,[]⟩],[],true⟩:=by
    unfold cW;rw[A7 (by decide),if_pos ⟨rfl,rfl⟩,if_pos ⟨hL,hP⟩,hg];rfl
   clear hb;refine aC fun K hK=>cP mixed [(0,[],[]),(1,[],[]),(2,[],[]),(3,[],[]),(4,[],[]),(5,[],[]),(6,[],[]),(7,[],[]),(8,[],[]),(9,[],[]),(10,[],[]),(11,[],[]),(12,[],[]),(13,[],[]),(14,[],[]),(15,[],[]),(16,[],[]),(17,[],[]),(18,[],[0,1,2,3,4,5,6,7,8,9,10,11,12,13,14]),(19,[],[]),(20,[],[]),(21,[],[0]),(22,[],[]),(23,[],[]),(24,[],[]),(25,[],[])] [0,0,2,6,14,30,0,64,192,0,512,1536,0,4096,12288,0,32768,98304,229376,524224,1048512,2097150,4194303,8388607,16777215,33554431] (by kernel_rfl) (by kernel_rfl) (by kernel_rfl) (by kernel_rfl) rfl (by kernel_rfl) ?_;iterate 18 refine WG0 ?_ (e:=fun _ h_=>by simp only[sH,↓sP,sA,tyS,simprocAttr,rbx,hL,cH (show 1<w.length by omega),cH (show 2<w.length by omega),cH (show 3<w.length by omega),cH (show 4<w.length by omega),aY,aS,aN,A2];exact AX h_)
   refine bR (g:=none) rfl rfl fun K' hK'=>?_;simp only[sH,↓sP,sA,tyS,simprocAttr,rbx,hL,cH (show 1<w.length by omega),cH (show 2<w.length by omega),cH (show 3<w.length by omega),cH (show 4<w.length by omega),aY,aS,aN,A2];refine C1 (qQ (wd w 4)) ?_;rintro u rfl;rw[hg];refine AX (hK' _ _ ?_);clear hK' K';refine WG0 ?_ (e:=fun _ h_=>by simp only[sH,↓sP,sA,tyS,simprocAttr,rbx,hL,cH (show 1<w.length by omega),cH (show 2<w.length by omega),cH (show 3<w.length by omega),cH (show 4<w.length by omega),aY,aS,aN,A2];exact AX h_);refine bF (g:=none) rfl rfl fun K' hK'=>?_;simp only[sN,↓hopH.eq_def,sH,↓sP,sA,tyS,simprocAttr,rbx,hL,cH (show 1<w.length by omega),cH (show 2<w.length by omega),cH (show 3<w.length by omega),cH (show 4<w.length by omega),aY,aS,aN,A2];refine AX (hK' _ _ ?_);clear hK' K';refine bF (g:=none) rfl rfl fun K' hK'=>?_;simp only[sN,↓hopH.eq_def,sH,↓sP,sA,tyS,simprocAttr,rbx,hL,cH (show 1<w.length by omega),cH (show 2<w.length by omega),cH (show 3<w.length by omega),cH (show 4<w.length by omega),aY,aS,aN,A2];refine AX (hK' _ _ ?_);clear hK' K';iterate 4 refine WG0 ?_ (e:=fun _ h_=>by simp only[sH,↓sP,sA,tyS,simprocAttr,rbx,hL,cH (show 1<w.length by omega),cH (show 2<w.length by omega),cH (show 3<w.length by omega),cH (show 4<w.length by omega),aY,aS,aN,A2];exact AX h_)
   refine T2 (hK _ _ _ ?_);clear hK K;refine RS ?_;iterate 4 refine S0 ?_ (e:=fun _ h_=>by simp only[sH,↓sP,sA,tyS,simprocAttr,rbx,aY,aS,aN];exact AX h_)
   refine RE ?_;refine cI4 1 r.length 4 56 7 rfl (by simp) (by rw[cO];rfl) (by rw[cO];rfl) ?_;refine R0 ?_;refine aE (RT Tryz.results27 ?_);refine dS [] [320] (.c (.bool true)) [.box 72 (rbx n v (.own 1 (r.length+1)) (cL 2 W.length 1 0) true),.hrow 48 5 ((r.map fun x=> .c x.cv)++[.agg [.c (.str (wd w 1)),.c (.str (wd w 2)),.c (.str (wd w 3)),.c (.int .i64 g),.own 3 0]]),.row 3 1 (W.map iC),.row 56 7 []] rfl (by simp) ⟨⟨by simp[rbx,bA],by simp,_,rfl,?_⟩,⟨by simp[bV],by simp,_,rfl,?_⟩,⟨by simp,by simp,_,rfl,rfl⟩,⟨by simp,by simp,_,rfl,rfl⟩,trivial⟩ rfl (by simp) (by simp) (by simp) ⟨by rw[hs]<;>rfl,by rw[hs];exact⟨g,rfl,rfl⟩⟩
   · simp[rbx,pM,fC,aN,lI,iW,tau]
   simp[nW,sB,qR,pL,lY,fC,tau]
  by_cases hL:w.length=5
  ·
   by_cases hP:wd w 0=wRule
   ·
    refine Rg ?_;have F:=aI hL (aI hw0 (aI (cH (show 4<w.length by omega)) (show(wd w 0==[114,117,108,101])=true from by rw[hP];decide)));refine AU ?_;refine SCF (qQ (wd w 4)) ?_;refine AU ?_;refine T4 ?_;exact key (decide ((bP (wd w 4)).getD (-1)<0)) _ _ _ (by
     have hy:decide ((bP (wd w 4)).getD (-1)<0)=!(bP (wd w 4)).isSome:=by
      cases h:bP (wd w 4)with
      |none=>rfl
      |some n=>have:=(lG h).1;simp;omega
     rw[hy,O6 ⟨hL,hP⟩,B1]) (fG (by simp[rbx,bA,bV,aN]))
   refine Rg ?_;have F:=aI hL (aI hw0 (show(wd w 0==[114,117,108,101])=false from H4 hP));refine AU ?_;refine T4 ?_;exact key true _ _ _ (by rw[M7 (fun h=>hP h.2)];rfl) (fG (by simp[rbx,bA,bV,aN]))
  refine Rg ?_;have F:=aI (show((w.length:Int) !=5)=true by simp;omega) hw0;refine AU ?_;refine T4 ?_;exact key true _ _ _ (by rw[M7 (fun h=>hL h.1)];rfl) (fG (by simp[rbx,bA,bV,aN]))
 by_cases hW:W.length=0
 ·
  refine Rg ?_;iterate 13 refine S0 ?_ (e:=fun _ h_=>by simp only[sH,↓sP,sA,tyS,simprocAttr,rbx,hW,bD,aY,aS,aN];exact AX h_)
  refine T4 ?_;exact key _ _ _ (fG (by simp[rbx,bA,bV,aN,hW,bD]))
 refine Rg ?_;iterate 13 refine S0 ?_ (e:=fun _ h_=>by simp only[sH,↓sP,sA,tyS,simprocAttr,rbx,bE (show 0≠W.length from W7 hW),A2,(show 0<W.length by omega),F9,P2,E5,D9,B8,G8,Nat.zero_min];exact AX h_)
 refine T4 ?_;exact key _ _ _ (fG (by simp[rbx,bA,bV,aN,bE (show 0≠W.length from W7 hW)]))
end Go.Proofs.YtlgckianjabghaaGreatDoor
