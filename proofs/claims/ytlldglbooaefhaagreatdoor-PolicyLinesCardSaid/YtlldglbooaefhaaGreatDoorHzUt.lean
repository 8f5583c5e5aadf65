/- Part of a proof: walks of functions of the program, by contracts, and the rules they use. By an AI agent. -/
import Derived.Test.YtlldglbooaefhaaGreatDoorHzU1
import Derived.Test.YtlldglbooaefhaaGreatDoorHzTj
import Derived.Test.YtlldglbooaefhaaGreatDoorHlTlaw
import Derived.Test.YtlldglbooaefhaaGreatDoorHzTc
import Derived.Test.YtlldglbooaefhaaGreatDoorPl03c
import Derived.Test.YtlldglbooaefhaaGreatDoorHlIt
import Derived.Test.YtlldglbooaefhaaGreatDoorPl11
set_option linter.unusedSimpArgs false
set_option linter.unusedVariables false
set_option linter.defProp false
namespace Go.Proofs.YtlldglbooaefhaaGreatDoor
open Go Go.Hl Go.Pl
set_option maxRecDepth 10000
set_option maxHeartbeats 16000000
theorem cF4 (l:List Nd):bC4 Tryz.prog 46 76 [.slc (l.map Nd.cv)] [(22,.slc (l.map Nd.cv))]:=by
 refine FW Tryz.func46 ?_;refine R0 ?_;refine R0 ?_;refine aE (RT Tryz.results46 ?_);refine tJ (gf:=76) (bs:=[(22,.slc (l.map Nd.cv))]) (ids:=[0]) rfl (by simp) (by decide) ?_ ?_
 ·
  intro j x hx
  match j,hx with
  |0,hx=>cases hx;rfl
 intro x hx;simp only[List.mem_cons,List.not_mem_nil,or_false]at hx;subst hx;exact congrArg CV.slc (denilL_Nd l)
theorem aS6 (n:Nd)(L:List Bool)(lo m:Nat)(hl:L.length<2^40)(h0:0<L.length)(hlo:lo≤m)(hm:m≤L.length):
  HGe Tryz.prog 47 [.c n.cv,.osl 0 L.length lo 1 m] [.row 4 1 (L.map bC)] (fun r os'=>r= .c (.bool (lP n ((L.drop lo).take (m-lo))))∧os'=[.row 4 1 (L.map bC)]):=by
 obtain⟨V,hV⟩: ∃V,V=(L.drop lo).take (m-lo):=⟨_,rfl⟩;have hVl:V.length=m-lo:=by rw[hV];simp;omega
 rw[←hV];have hrd:List.take (m-lo) (List.drop lo (L.map bC))=V.map bC:=by rw[hV,List.map_take,List.map_drop]
 refine cI (args:=[.c n.cv,.osl 0 L.length lo 1 m]) Tryz.func47 rfl (by kernel_rfl) (fZ rfl (by simp[eU,HO.men]) (by simp[HV.menL,HV.men])) (Nat.le_of_ble_eq_true rfl) ?_;have e0:lst [.row 4 1 (L.map bC)]=fob [(0,.row 4 1 (L.map bC))]:=by
  funext i
  match i with
  |0=>rfl
  |i+1=>simp[lst,fob,upd]
 show Hw _ _ 1 _ _ _ (lst _) 1;rw[e0];refine R0 ?_;refine R0 ?_;refine aB fun K hK=>?_;refine R0 ?_ (e:=fun _ h_=>by simp only[↓sP,sA,tyS,simprocAttr,hrd,List.length_map,h0,hlo,hm];exact AX h_);refine aN ?_;refine bS (α:={i:Nat//i≤V.length}) (fun i=>(fin [(1,.osl 0 L.length lo 1 m),(2,.ptr 1 0),(5,.c (.int .i64 (cnt (V.take i.1):Nat))),(8,.osl 0 L.length lo 1 m),(9,.c (.int .i64 V.length)),(10,.c (.int .i64 i.1))],fob [(0,.row 4 1 (L.map bC)),(1,.box 40 (.c n.cv))])) 100 (fun i=>V.length-i.1) ⟨0,by omega⟩ (aL (by omega) (by simp[aY,fin_at,finA_at,upd_at,HV.men,HV.menL,HV.norm,HV.toC,HV.toCL,cnt]) (by simp[aZ,fob_at,upd_at,none0_at,bV,HO.men,HV.men,HV.menL,HV.norm,HV.toC,HV.toCL,cnt])) ?_;rintro⟨i,hi⟩;have hcn:cnt (V.take i)≤i:=by have:=cK2 (V.take i);simp at this;omega
 refine R0 ?_;refine aB fun K hK=>?_;refine aG (b:=decide ((i:Int)<V.length)) rfl (fun hb=>?_) (fun hb=>?_)
 ·
  have hlt:i<V.length:=by simpa using hb
  have hct:=pS (l:=V) (k:=i) hlt;have hw3:IntKind.i64.wrap ((cnt (V.take i):Int)+1)=((cnt (V.take i)+1:Nat):Int):=by rw[cQ _ (by omega)];rfl
  have hli:lo+i<L.length:=by omega
  have hvi:L[lo+i]=V[i]:=by simp[hV]
  have hli2:lo+i<(L.map bC).length:=by simpa using hli
  have hml:i<m-lo:=by omega
  clear hb;refine aJ ?_;refine T0 (hK _ _ _ ?_);clear hK K;refine aB fun K hK=>?_;refine aN ?_;refine R0 ?_ (e:=fun _ h_=>by simp only[↓sP,sA,tyS,simprocAttr,List.length_map,Int.natCast_nonneg,Int.ofNat_lt,h0,hm,hml,hli,bR hli,bC];exact AX h_);refine R0 ?_;refine aG (b:=L[lo+i]) rfl (fun hb=>?_) (fun hb=>?_)
  · rw[hvi]at hb;rw[if_pos (by simpa[hlt]using hb)]at hct;refine aK (by kernel_rfl) ?_;refine TQ hw3 ?_;refine AX (hK _ _ _ ?_);clear hK K;refine aK (by kernel_rfl) ?_;simp only[↓sP,sA,tyS,simprocAttr,cQ ((i:Int)+1) (by omega)];refine⟨⟨i+1,hlt⟩,aL (by omega) (by simp[aY,fin_at,finA_at,upd_at,HV.men,HV.menL,HV.norm,HV.toC,HV.toCL,hct]) (by simp[aZ,fob_at,upd_at,none0_at,bV,HO.men,HV.men,HV.menL,HV.norm,HV.toC,HV.toCL,hct]),?_⟩;show V.length-(i+1)<V.length-i;omega
  rw[hvi]at hb;rw[if_neg (by simp[hlt,hb])]at hct;refine aJ ?_;refine T0 (hK _ _ _ ?_);clear hK K;refine aK (by kernel_rfl) ?_;simp only[↓sP,sA,tyS,simprocAttr,cQ ((i:Int)+1) (by omega)];refine⟨⟨i+1,hlt⟩,aL (by omega) (by simp[aY,fin_at,finA_at,upd_at,HV.men,HV.menL,HV.norm,HV.toC,HV.toCL,hct]) (by simp[aZ,fob_at,upd_at,none0_at,bV,HO.men,HV.men,HV.menL,HV.norm,HV.toC,HV.toCL,hct]),?_⟩;show V.length-(i+1)<V.length-i;omega
 refine bI (T3 ?_);clear hK K;refine AX (hK _ _ _ ?_);clear hK K;refine aB fun K hK=>?_;have hei:i=V.length:=by simp only[decide_eq_false_iff_not]at hb;omega
 subst hei;rw[List.take_length]at hcn⊢;clear hb;refine R0 ?_;refine aN ?_;refine R0 ?_;refine aG (b:=(n.k==2)) rfl (fun hb=>?_) (fun hb=>?_)
 ·
  refine aB fun K hK=>Rg ?_;iterate 5 refine S0 ?_ (e:=fun _ h_=>by simp only[sH,↓sP,sA,tyS,simprocAttr,hrd,List.length_map,h0,hlo,hm];exact AX h_)
  refine T2 (hK _ _ _ ?_);clear hK K;refine aE (RT Tryz.results47 ?_);have h2:n.k=2:=by simpa using hb
  exact eO [] [] (.c (.bool ((cnt V:Int)==V.length))) [.row 4 1 (L.map bC)] rfl (by simp[HV.men]) ⟨⟨trivial,by simp,_,rfl,rfl⟩,trivial⟩ rfl List.nodup_nil (by simp) (by simp) ⟨by rw[lP,if_pos h2];congr 2;rw[Bool.eq_iff_iff];simp;omega,rfl⟩
 have h2:n.k≠2:=by simpa using hb
 refine R0 ?_;refine aG (b:=(n.k==3)) rfl (fun hb=>?_) (fun hb=>?_)
 ·
  refine R0 ?_;refine aE (RT Tryz.results47 ?_);have h3:n.k=3:=by simpa using hb
  exact eO [] [] (.c (.bool (decide ((1:Int)≤cnt V)))) [.row 4 1 (L.map bC)] rfl (by simp[HV.men]) ⟨⟨trivial,by simp,_,rfl,rfl⟩,trivial⟩ rfl List.nodup_nil (by simp) (by simp) ⟨by rw[lP,if_neg h2,if_pos h3];congr 2;rw[Bool.eq_iff_iff];simp;omega,rfl⟩
 refine aJ ?_;refine T0 (hK _ _ _ ?_);clear hK K;refine aB fun K hK=>Rg ?_;iterate 5 refine S0 ?_
 refine T2 (hK _ _ _ ?_);clear hK K;refine aE (RT Tryz.results47 ?_);have h3:n.k≠3:=by simpa using hb
 exact eO [] [] (.c (.bool (decide (n.n≤cnt V)))) [.row 4 1 (L.map bC)] rfl (by simp[HV.men]) ⟨⟨trivial,by simp,_,rfl,rfl⟩,trivial⟩ rfl List.nodup_nil (by simp) (by simp) ⟨by rw[lP,if_neg h2,if_neg h3],rfl⟩
end Go.Proofs.YtlldglbooaefhaaGreatDoor
namespace Go.Pl
open Go Go.Hl
def lU (w:List Bool)(m:Nat)(b:Bool):List Bool:=w.take m++[b]++w.drop (m+1)
variable {b:Bool}{m:Nat}{w:List Bool}
theorem lV (h:m+1≤w.length):(lU w m b).length=w.length:=by simp[lU];omega
theorem aD3 :lU w w.length b=w++[b]:=by simp[lU]
theorem aD4 (h:m≤w.length):(lU w m b).take (m+1)=w.take m++[b]:=by grind[lU,List.take_of_length_le]
def aZ2 (l:List Nd)(tr:List Bool)(p:Nat)(s:List Bool×Nat):List Bool×Nat:=
 if(l.getD p nd0).k=1 then(lU s.1 s.2 (tr.getD (lv (l.take p)) false),s.2+1)
 else(lU s.1 (s.2-(l.getD p nd0).c.toNat) (lP (l.getD p nd0) ((s.1.drop (s.2-(l.getD p nd0).c.toNat)).take (l.getD p nd0).c.toNat)),s.2-(l.getD p nd0).c.toNat+1)
def cP (l:List Nd)(tr:List Bool):Nat→List Bool×Nat
 |0=>([],0)
 |i+1=>aZ2 l tr (l.length-1-i) (cP l tr i)
structure EvOk (l:List Nd)(tr:List Bool)(i:Nat):Prop where
 le:i≤l.length
 m:(cP l tr i).2=(evS (lv l) tr (l.drop (l.length-i))).length
 row:(cP l tr i).1.take (cP l tr i).2=(evS (lv l) tr (l.drop (l.length-i))).reverse
 fit:(cP l tr i).2≤(cP l tr i).1.length
 small:(cP l tr i).1.length≤i
theorem EvOk.zero (l:List Nd)(tr:List Bool):EvOk l tr 0:=⟨by omega,by simp[cP,evS],by simp[cP,evS],by simp[cP],by simp[cP]⟩
theorem yZ (n:Nd)(l:List Bool):lP n l.reverse=lP n l:=by simp only[lP,aP4,List.length_reverse]
variable {c:Nat}{E:List Bool}
theorem bX9 :E.reverse.take (E.length-c)=(E.drop c).reverse:=by rw[List.reverse_drop]
theorem bY0 (h:c≤E.length):E.reverse.drop (E.length-c)=(E.take c).reverse:=by rw[List.reverse_take]
variable {i:Nat}{l:List Nd}
theorem EvOk.at_ {tr:List Bool}(hi:i<l.length):l.drop (l.length-(i+1))=l[l.length-1-i]'(by omega)::l.drop (l.length-i):=by grind[List.drop_eq_getElem_cons]
variable {tr:List Bool}
theorem EvOk.leaf (h:EvOk l tr i)(hi:i<l.length)(hk:(l[l.length-1-i]'(by omega)).k=1):
  EvOk l tr (i+1)∧cP l tr (i+1)=(lU (cP l tr i).1 (cP l tr i).2 (tr.getD (lv (l.take (l.length-1-i))) false),(cP l tr i).2+1):=by
 have hp:l.length-1-i<l.length:=by omega
 have hg:l.getD (l.length-1-i) nd0=l[l.length-1-i]:=by simp[hp]
 have e:cP l tr (i+1)=(lU (cP l tr i).1 (cP l tr i).2 (tr.getD (lv (l.take (l.length-1-i))) false),(cP l tr i).2+1):=by
  simp only[cP,aZ2,hg,if_pos hk]
 have hT:=aG7 l (l.length-1-i);have hd:=EvOk.at_ (tr:=tr) hi;rw[show l.length-(i+1)=l.length-1-i from by omega]at hd;have hE:evS (lv l) tr (l.drop (l.length-(i+1)))=tr.getD (lv (l.take (l.length-1-i))) false::evS (lv l) tr (l.drop (l.length-i)):=by
  rw[show l.length-(i+1)=l.length-1-i from by omega,hd,evS,if_pos hk,←hd];congr 2;omega
 refine⟨⟨hi,?_,?_,?_,?_⟩,e⟩
 · rw[e,hE];simp[h.m]
 · rw[e,hE];simp only[List.reverse_cons];rw[aD4 h.fit,h.row]
 · rw[e];have:=h.fit;simp[lU];omega
 · rw[e];have:=h.fit;have:=h.small;simp[lU];omega
theorem EvOk.inner (ht:IsTree l)(h:EvOk l tr i)(hi:i<l.length)(hk:(l[l.length-1-i]'(by omega)).k≠1):
  (l[l.length-1-i]'(by omega)).c.toNat≤(cP l tr i).2∧EvOk l tr (i+1)∧
  cP l tr (i+1)=(lU (cP l tr i).1 ((cP l tr i).2-(l[l.length-1-i]'(by omega)).c.toNat) (lP (l[l.length-1-i]'(by omega)) (((cP l tr i).1.drop ((cP l tr i).2-(l[l.length-1-i]'(by omega)).c.toNat)).take (l[l.length-1-i]'(by omega)).c.toNat)),(cP l tr i).2-(l[l.length-1-i]'(by omega)).c.toNat+1):=by
 have hp:l.length-1-i<l.length:=by omega
 have hg:l.getD (l.length-1-i) nd0=l[l.length-1-i]:=by simp[hp]
 have e:cP l tr (i+1)=(lU (cP l tr i).1 ((cP l tr i).2-(l[l.length-1-i]'(by omega)).c.toNat) (lP (l[l.length-1-i]'(by omega)) (((cP l tr i).1.drop ((cP l tr i).2-(l[l.length-1-i]'(by omega)).c.toNat)).take (l[l.length-1-i]'(by omega)).c.toNat)),(cP l tr i).2-(l[l.length-1-i]'(by omega)).c.toNat+1):=by
  simp only[cP,aZ2,hg,if_neg hk]
 have hkl:=bR7 ht (tr:=tr) hp;rw[show l.length-1-i+1=l.length-i from by omega]at hkl;obtain⟨_,_,_,c4⟩:=eN (ht.node _ (List.getElem_mem hp));have c5:=c4 hk;have c6:1≤l[l.length-1-i].c.toNat:=by omega
 have hd:=EvOk.at_ (tr:=tr) hi;have hm:=h.m;have hr:=h.row;have hf:=h.fit;have hs:=h.small;have hE:evS (lv l) tr (l.drop (l.length-(i+1)))=lP l[l.length-1-i] ((evS (lv l) tr (l.drop (l.length-i))).take l[l.length-1-i].c.toNat)::(evS (lv l) tr (l.drop (l.length-i))).drop l[l.length-1-i].c.toNat:=by
  rw[hd,evS,if_neg hk]
 generalize evS (lv l) tr (l.drop (l.length-i))=E at hm hr hkl hE;generalize l[l.length-1-i].c.toNat=c at*;have h1:(cP l tr i).1.take ((cP l tr i).2-c)=(E.drop c).reverse:=by
  rw[←bX9,←hr,List.take_take,hm,Nat.min_eq_left (by omega)]
 have h2:((cP l tr i).1.drop ((cP l tr i).2-c)).take c=(E.take c).reverse:=by
  rw[←bY0 hkl,←hr,List.drop_take,hm];congr 1;omega
 refine⟨by omega,⟨hi,?_,?_,?_,?_⟩,e⟩
 · rw[e,hE];simp only[List.length_cons,List.length_drop];omega
 · rw[e,hE];simp only[List.reverse_cons];rw[aD4 (by omega),h1,h2,yZ]
 · rw[e];simp only;rw[lV (by omega)];omega
 · rw[e];simp only;rw[lV (by omega)];omega
theorem EvOk.fin (ht:IsTree l)(h:EvOk l tr l.length):(cP l tr l.length).2=1∧ ∃h0:0<(cP l tr l.length).1.length,xL l tr=(cP l tr l.length).1[0]:=by
 have hl:=aG6 (T:=lv l) (tr:=tr) l 1 ht.node ht.skip;have hm:=h.m;have hr:=h.row;have hf:=h.fit;rw[Nat.sub_self,List.drop_zero]at hm hr;rw[hl]at hm;have h0:0<(cP l tr l.length).1.length:=by omega
 refine⟨hm,h0,?_⟩;have ht':=bT6 ht;obtain⟨x,hx⟩: ∃x,evS (lv l) tr l=[x]:=by
  match hE:evS (lv l) tr l,hl with
  |[x],_=>exact⟨x,rfl⟩
 rw[hx,hm]at hr;rw[xL,ht',hx];have:(cP l tr l.length).1[0]=x:=by
  have:=congrArg (·.head?) hr;simpa[List.head?_take,List.head?_eq_getElem?,h0]using this
 rw[this];rfl
end Go.Pl
namespace Go.Proofs.YtlldglbooaefhaaGreatDoor
open Go Go.Hl Go.Pl
set_option maxRecDepth 10000
set_option maxHeartbeats 16000000
theorem aX (id n sz m:Nat):(cN id n sz m).sto=true:=by unfold cN;split<;>rfl
theorem aQ (id n sz m:Nat):(cN id n sz m).cells=1:=by unfold cN;split<;>rfl
theorem aM (id n sz m:Nat):(cN id n sz m).toC=none:=by unfold cN;split<;>rfl
theorem aW (id n sz:Nat):cN id n sz n= .own id n:=by unfold cN;rw[if_pos rfl]
theorem bA {id n sz m:Nat}(h:m≠n):cN id n sz m= .osl id n 0 sz m:=by unfold cN;rw[if_neg h]
theorem aU {M:Nat→Prop}{id n sz m:Nat}(h:M id):(cN id n sz m).men M:=by unfold cN;split<;>exact h
theorem bE5 (l:List Nd)(hn: ∀n∈l,n.q.t.length<2^63)(tr:List Bool)(htr:tr.length<2^63):cG Tryz.prog 20 [.slc (l.map Nd.cv),.slc (tr.map bC)] (fun v=>v= .bool (xL l tr)):=by
 refine FW Tryz.func20 ?_;have F:=rI;refine RF ?_;refine aB fun K hK=>Rg ?_;refine SF ?_;refine HS rfl rfl fun K' hK'=>T6 ?_;refine C1 (aC8 l hn) ?_;rintro u rfl;refine AX (hK' _ _ ?_);clear hK' K';iterate 3 refine SF ?_
 simp only[sE,↓reduceIte,simprocAttr,rI];refine AX (hK _ _ _ ?_);clear hK K;refine aB fun K hK=>?_;refine RF ?_;refine aG (b:=(((jL l).length:Int)==0)) rfl (fun hb=>?_) (fun hb=>?_)
 ·
  refine RF ?_;refine aE ?_;simp only[fW,Tryz.results20,fK,fV,fC,↓sP,sA,tyS,simprocAttr,rI];have hlv:jL l=[]:=by simpa using hb
  have htf:dV l=false:=by
   cases h:dV l with
   |false=>rfl
   |true=>
    have h1:=aP3 (lM h);rw[qI h]at hlv;have h2:=lO l 0;rw[hlv]at h2;simp at h2;omega
  exact aH [] (.bool false) rfl (by rw[xL,htf];rfl)
 have htt:dV l=true:=by
  cases h:dV l with
  |true=>rfl
  |false=>rw[uT h]at hb;simp at hb
 have ht:=lM htt;have hl:=ht.len;have hlen:(jL l).length=lv l:=by rw[qI htt,lO]
 rw[hlen];clear hb;refine aJ ?_;refine TQ rI ?_;refine AX (hK _ _ _ ?_);clear hK K;refine RF ?_;refine aB fun K hK=>?_;refine aB fun K hK=>Rg ?_;refine S0 ?_ (e:=fun _ h_=>by simp only[sH,↓sP,sA,tyS,simprocAttr,rI,denilL_Nd,mW,iF,List.range',List.map_cons,List.map_nil];exact AX h_);refine HS rfl rfl fun K' hK'=>?_;simp only[sH,↓sP,sA,tyS,simprocAttr,rI,denilL_Nd,mW,iF,List.range',List.map_cons,List.map_nil];refine tI (args:=[_]) (cF4 l) (by simp) ⟨rfl,rfl,rfl,rfl⟩ ?_;refine AX (hK' _ _ ?_);clear hK' K';simp only[sE,↓reduceIte,simprocAttr,rI];refine AX (hK _ _ _ ?_);clear hK K;refine aN ?_;refine qZ 36 0 4 1 rfl rfl rfl rfl ?_;refine aA6 (ids:=[44]) (fin [(3,.ptr 0 0),(5,.ptr 20 0),(6,.ptr 36 0)]) (fun i=>fob [(0,.box 24 (.c (.slc (tr.map bC)))),(20,.box 3 (.c (.int .i64 (lv (l.take (l.length-i)):Nat)))),(36,.box 24 (cN 48 (cP l tr i).1.length 1 (cP l tr i).2)),(48,.row 4 1 ((cP l tr i).1.map bC))]) 20000 (fun i=>EvOk l tr i) (EvOk.zero l tr) (bL6 l (by omega)) rfl rfl (by decide) ?_ ?_ ?_ ?_ ?_ rfl rfl ?_ ?_
 ·
  intro j x hx
  match j,hx with
  |0,hx=>cases hx;rfl
 · exact aL (by omega) (by simp[aY,fin_at,finA_at,upd_at,HV.men,HV.menL,HV.norm,HV.toC,HV.toCL,mW,cP,aW,List.take_length]) (by simp[aZ,fob_at,upd_at,none0_at,bV,HO.men,HV.men,HV.menL,HV.norm,HV.toC,HV.toCL,mW,cP,aW,List.take_length])
 · intro id hid;simp only[List.mem_cons,List.not_mem_nil,or_false]at hid;subst hid;rfl
 · intro x hx;obtain⟨p,_,rfl⟩:=List.mem_map.1 hx;rfl
 · intro p hp;simp only[List.mem_cons,List.not_mem_nil,or_false]at hp;rcases hp with rfl|rfl<;>exact Nat.le_of_ble_eq_true rfl
 ·
  intro i hi hΦ K hK;have hi2:i<l.length:=by rw[←sG l];exact hi
  have hp:l.length-1-i<l.length:=by omega
  rw[bV5 hi hp];simp only[xD];obtain⟨w,hw⟩: ∃w,w=(cP l tr i).1:=⟨_,rfl⟩;obtain⟨m,hm⟩: ∃m,m=(cP l tr i).2:=⟨_,rfl⟩;have hfit:=hΦ.fit;have hsmall:=hΦ.small;rw[←hw,←hm]at hfit;rw[←hw]at hsmall;rw[←hw,←hm];refine aK (by kernel_rfl) ?_;refine TQ rI ?_;refine AX (hK _ _ _ ?_);clear hK K;refine aN ?_;refine aB fun K hK=>?_;refine RF ?_;refine aG (b:=(l[l.length-1-i].k==1)) rfl (fun hb=>?_) (fun hb=>?_)
  ·
   have hk1:l[l.length-1-i].k=1:=by simpa using hb
   obtain⟨hok,hst⟩:=hΦ.leaf hi2 hk1;rw[←hw,←hm]at hst;have hlv:=bD8 hp;rw[if_pos hk1,show l.length-1-i+1=l.length-i from by omega]at hlv;have hlb:=aY0 l (l.length-1-i);have hw1:IntKind.i64.wrap ((lv (l.take (l.length-i)):Int)-1)=((lv (l.take (l.length-1-i)):Nat):Int):=by rw[hlv,cQ _ (by omega)];omega
   obtain⟨x,hx⟩: ∃x,x=lv (l.take (l.length-1-i)):=⟨_,rfl⟩;have hxl:l.length-(i+1)=l.length-1-i:=by omega
   rw[←hx]at hw1 hst;clear hb;have F:=aI rI hw1;refine RF ?_;by_cases hlt:x<tr.length
   ·
    by_cases hmw:m=w.length
    ·
     subst hmw;have hg:tr.getD x false=tr[x]:=by simp[hlt]
     refine aB fun K hK=>cY mixed [(0,[],[]),(1,[],[]),(2,[],[]),(3,[],[]),(4,[],[]),(5,[],[]),(6,[],[]),(7,[],[]),(8,[],[]),(9,[],[]),(10,[],[]),(11,[],[]),(12,[],[]),(13,[],[])] [0,0,0,4,14,30,62,62,254,510,1022,2046,4095,8191] (by kernel_rfl) (by kernel_rfl) (by kernel_rfl) (by kernel_rfl) rfl (by kernel_rfl) ?_;iterate 14 refine WG0 ?_ (e:=fun _ h_=>by simp only[sH,↓sP,sA,tyS,simprocAttr,rI,Int.natCast_nonneg,Int.ofNat_lt,hlt,bR hlt,bC,aW,aX,aQ,aM];exact AX h_)
     simp only[sE,↓reduceIte,simprocAttr,rI];refine AX (hK _ _ _ ?_);clear hK K;refine bI ?_;refine TQ rI ?_;clear hK K;rw[hg,aD3]at hst;refine⟨(show Fits 20000 _ _ (fin []) _ 20000 from aL (by omega) trivial ?_),hok⟩;rw[hst,hxl,←hx];simp[aZ,fob_at,upd_at,none0_at,bV,HO.men,HV.men,HV.menL,HV.norm,HV.toC,HV.toCL,aW,bC]
    have hg:tr.getD x false=tr[x]:=by simp[hlt]
    have hmw2:m+1≤w.length:=by omega
    have hw0:0<w.length:=by omega
    have hrow:(lU w m tr[x]).map bC=(w.map bC).take m++[.bool tr[x]]++(w.map bC).drop (m+1):=by simp[lU,List.map_take,List.map_drop,bC]
    refine aB fun K hK=>cY mixed [(0,[],[]),(1,[],[]),(2,[],[]),(3,[],[]),(4,[],[]),(5,[],[]),(6,[],[]),(7,[],[]),(8,[],[]),(9,[],[]),(10,[],[]),(11,[],[]),(12,[],[]),(13,[],[])] [0,0,0,4,14,30,62,62,254,510,1022,2046,4095,8191] (by kernel_rfl) (by kernel_rfl) (by kernel_rfl) (by kernel_rfl) rfl (by kernel_rfl) ?_;iterate 12 refine WG0 ?_ (e:=fun _ h_=>by simp only[sH,↓sP,sA,tyS,simprocAttr,rI,Int.natCast_nonneg,Int.ofNat_lt,hlt,bR hlt,bC,bA hmw,aX,aQ,aM,hw0,hmw2];exact AX h_)
    refine bF (g:=none) rfl rfl fun K' hK'=>?_;simp only[sN,↓hopH.eq_def,sH,↓sP,sA,tyS,simprocAttr,rI,Int.natCast_nonneg,Int.ofNat_lt,hlt,bR hlt,bC,bA hmw,aX,aQ,aM,hw0,hmw2];refine AX (hK' _ _ ?_);clear hK' K';refine WG0 ?_ (e:=fun _ h_=>by simp only[sH,↓sP,sA,tyS,simprocAttr,rI,Int.natCast_nonneg,Int.ofNat_lt,hlt,bR hlt,bC,bA hmw,aX,aQ,aM,hw0,hmw2];exact AX h_);simp only[sE,↓reduceIte,simprocAttr,rI];refine AX (hK _ _ _ ?_);clear hK K;refine bI ?_;refine TQ rI ?_;clear hK K;rw[hg]at hst;refine⟨(show Fits 20000 _ _ (fin []) _ 20000 from aL (by omega) trivial ?_),hok⟩;rw[hst,hxl,←hx];simp[aZ,fob_at,upd_at,none0_at,bV,HO.men,HV.men,HV.menL,HV.norm,HV.toC,HV.toCL,lV hmw2,hrow,aU,aM]
   by_cases hmw:m=w.length
   ·
    subst hmw;have hg:tr.getD x false=false:=by simp[List.getD_eq_getElem?_getD,List.getElem?_eq_none (Nat.le_of_not_lt hlt)]
    have hlt':decide ((x:Int)<tr.length)=false:=by simp;omega
    refine aB fun K hK=>cY mixed [(0,[],[]),(1,[],[]),(2,[],[]),(3,[],[]),(4,[],[]),(5,[],[]),(6,[],[]),(7,[],[]),(8,[],[]),(9,[],[]),(10,[],[]),(11,[],[]),(12,[],[]),(13,[],[])] [0,0,0,4,14,30,62,62,254,510,1022,2046,4095,8191] (by kernel_rfl) (by kernel_rfl) (by kernel_rfl) (by kernel_rfl) rfl (by kernel_rfl) ?_;have F:=aI rI (aI hlt' (aI @aW (aI @aX (aI @aQ @aM))));iterate 14 refine WGF ?_
    simp only[sE,↓reduceIte,simprocAttr,rI];refine AX (hK _ _ _ ?_);clear hK K;refine bI ?_;refine TQ rI ?_;clear hK K;rw[hg,aD3]at hst;refine⟨(show Fits 20000 _ _ (fin []) _ 20000 from aL (by omega) trivial ?_),hok⟩;rw[hst,hxl,←hx];simp[aZ,fob_at,upd_at,none0_at,bV,HO.men,HV.men,HV.menL,HV.norm,HV.toC,HV.toCL,aW,bC]
   have hg:tr.getD x false=false:=by simp[List.getD_eq_getElem?_getD,List.getElem?_eq_none (Nat.le_of_not_lt hlt)]
   have hlt':decide ((x:Int)<tr.length)=false:=by simp;omega
   have hmw2:m+1≤w.length:=by omega
   have hw0:0<w.length:=by omega
   have hrow:(lU w m false).map bC=(w.map bC).take m++[.bool false]++(w.map bC).drop (m+1):=by simp[lU,List.map_take,List.map_drop,bC]
   refine aB fun K hK=>cY mixed [(0,[],[]),(1,[],[]),(2,[],[]),(3,[],[]),(4,[],[]),(5,[],[]),(6,[],[]),(7,[],[]),(8,[],[]),(9,[],[]),(10,[],[]),(11,[],[]),(12,[],[]),(13,[],[])] [0,0,0,4,14,30,62,62,254,510,1022,2046,4095,8191] (by kernel_rfl) (by kernel_rfl) (by kernel_rfl) (by kernel_rfl) rfl (by kernel_rfl) ?_;iterate 12 refine WG0 ?_ (e:=fun _ h_=>by simp only[sH,↓sP,sA,tyS,simprocAttr,rI,hlt',bA hmw,aX,aQ,aM,hw0,hmw2];exact AX h_)
   refine bF (g:=none) rfl rfl fun K' hK'=>?_;simp only[sN,↓hopH.eq_def,sH,↓sP,sA,tyS,simprocAttr,rI,hlt',bA hmw,aX,aQ,aM,hw0,hmw2];refine AX (hK' _ _ ?_);clear hK' K';refine WG0 ?_ (e:=fun _ h_=>by simp only[sH,↓sP,sA,tyS,simprocAttr,rI,hlt',bA hmw,aX,aQ,aM,hw0,hmw2];exact AX h_);simp only[sE,↓reduceIte,simprocAttr,rI];refine AX (hK _ _ _ ?_);clear hK K;refine bI ?_;refine TQ rI ?_;clear hK K;rw[hg]at hst;refine⟨(show Fits 20000 _ _ (fin []) _ 20000 from aL (by omega) trivial ?_),hok⟩;rw[hst,hxl,←hx];simp[aZ,fob_at,upd_at,none0_at,bV,HO.men,HV.men,HV.menL,HV.norm,HV.toC,HV.toCL,lV hmw2,hrow,aU,aM]
  have hk1:l[l.length-1-i].k≠1:=by simpa using hb
  obtain⟨hcm,hok,hst⟩:=hΦ.inner ht hi2 hk1;rw[←hw,←hm]at hst;rw[←hm]at hcm;obtain⟨c1,c2,c3,c4⟩:=eN (ht.node _ (List.getElem_mem hp));have c5:=c4 hk1;have hlv:=bD8 hp;rw[if_neg hk1,Nat.add_zero,show l.length-1-i+1=l.length-i from by omega]at hlv;have hxl:l.length-(i+1)=l.length-1-i:=by omega
  obtain⟨f,hf⟩: ∃f,f=m-l[l.length-1-i].c.toNat:=⟨_,rfl⟩;have hfc:m-f=l[l.length-1-i].c.toNat:=by omega
  rw[←hf,←hfc]at hst;have hw2:IntKind.i64.wrap ((m:Int)-l[l.length-1-i].c)=(f:Int):=by rw[cQ _ (by omega)];omega
  have hf1:f+1≤w.length:=by omega
  have hfw:f≤w.length:=by omega
  have hfm:f≤m:=by omega
  have hw0:0<w.length:=by omega
  obtain⟨h,hh⟩: ∃h,h=lP l[l.length-1-i] ((w.drop f).take (m-f)):=⟨_,rfl⟩;rw[←hh]at hst;have hrow:(lU w f h).map bC=(w.map bC).take f++[.bool h]++(w.map bC).drop (f+1):=by simp[lU,List.map_take,List.map_drop,bC]
  clear hb;refine aJ ?_;refine TQ rI ?_;refine AX (hK _ _ _ ?_);clear hK K;by_cases hmw:m=w.length
  ·
   rw[←hmw]at hw0 hf1 hfw;refine aB fun K hK=>Rg ?_;iterate 6 refine S0 ?_ (e:=fun _ h_=>by simp only[sH,↓sP,sA,tyS,simprocAttr,rI,aW,←hmw,List.length_map,hw2];exact AX h_)
   simp only[sE,↓reduceIte,simprocAttr,rI];refine AX (hK _ _ _ ?_);clear hK K;refine cY mixed [(0,[],[]),(1,[],[]),(2,[],[]),(3,[],[]),(4,[],[]),(5,[],[]),(6,[],[]),(7,[],[0,1,2]),(8,[],[]),(9,[],[]),(10,[],[])] [0,0,3,0,0,0,48,120,248,511,1023] (by kernel_rfl) (by kernel_rfl) (by kernel_rfl) (by kernel_rfl) rfl (by kernel_rfl) ?_;iterate 7 refine WG0 ?_ (e:=fun _ h_=>by simp only[sH,↓sP,sA,tyS,simprocAttr,rI,aW,aX,aQ,aM,←hmw,List.length_map,Int.natCast_nonneg,Int.ofNat_le,hfw];exact AX h_)
   refine pM (g:=none) rfl rfl fun K' hK'=>?_;simp only[sN,↓hopH.eq_def,sH,↓sP,sA,tyS,simprocAttr,rI,aW,aX,aQ,aM,←hmw,List.length_map,Int.natCast_nonneg,Int.ofNat_le,hfw];refine aN5 [48] (aS6 l[l.length-1-i] w f m (by omega) (by omega) (by omega) (by omega)) (by first|rfl|(rw[←hmw];rfl)) ⟨rfl,trivial⟩ (by simp) ?_ ?_ ?_ ?_ ?_
   ·
    intro j hj
    match j,hj with
    |0,_=>exact .inr ⟨by decide,fun r os' h=>by rw[h.2]⟩
   · exact⟨rfl,rfl,rfl,rfl⟩
   · simp[eU,HO.men]
   · simp[HV.menL,HV.men]
   rintro r os' ⟨rfl,rfl⟩;rw[←hh,show∀n ob,kD (sub [48] n) ob 0 [.row 4 1 (w.map bC)]=upd ob 48 (some (.row 4 1 (w.map bC)))from fun _ _=>rfl,show∀n b,HV.ren (sub [48] n) (.c b)= .c b from fun _ _=>rfl];refine AX (hK' _ _ ?_);clear hK' K';refine WG0 ?_ (e:=fun _ h_=>by simp only[sH,↓sP,sA,tyS,simprocAttr,rI,aW,aX,aQ,aM,←hmw,List.length_map,Int.natCast_nonneg,Int.ofNat_le,hfw];exact AX h_);refine bF (g:=none) rfl rfl fun K' hK'=>?_;simp only[sN,↓hopH.eq_def,sH,↓sP,sA,tyS,simprocAttr,rI,aW,aX,aQ,aM,←hmw,List.length_map,Int.natCast_nonneg,Int.ofNat_le,hfw];refine AX (hK' _ _ ?_);clear hK' K';refine WG0 ?_ (e:=fun _ h_=>by simp only[sH,↓sP,sA,tyS,simprocAttr,rI,aW,aX,aQ,aM,←hmw,List.length_map,Int.natCast_nonneg,Int.ofNat_le,hfw];exact AX h_);simp only[sE,↓reduceIte,simprocAttr,rI];refine⟨(show Fits 20000 _ _ (fin []) _ 20000 from aL (by omega) trivial ?_),hok⟩;rw[hst,hxl,hlv];simp[aZ,fob_at,upd_at,none0_at,bV,HO.men,HV.men,HV.menL,HV.norm,HV.toC,HV.toCL,lV (show f+1≤w.length by omega),hrow,aU,aM,←hmw]
  refine aB fun K hK=>Rg ?_;iterate 6 refine S0 ?_ (e:=fun _ h_=>by simp only[sH,↓sP,sA,tyS,simprocAttr,rI,bA hmw,List.length_map,hw0,hfit,Nat.zero_le,List.length_take,List.length_drop,Nat.sub_zero,Nat.min_eq_left hfit,hw2];exact AX h_)
  simp only[sE,↓reduceIte,simprocAttr,rI];refine AX (hK _ _ _ ?_);clear hK K;refine cY mixed [(0,[],[]),(1,[],[]),(2,[],[]),(3,[],[]),(4,[],[]),(5,[],[]),(6,[],[]),(7,[],[0,1,2]),(8,[],[]),(9,[],[]),(10,[],[])] [0,0,3,0,0,0,48,120,248,511,1023] (by kernel_rfl) (by kernel_rfl) (by kernel_rfl) (by kernel_rfl) rfl (by kernel_rfl) ?_;iterate 2 refine WG0 ?_ (e:=fun _ h_=>by simp only[sH,↓sP,sA,tyS,simprocAttr,rI,aX,aQ,aM,bA hmw,List.length_map,Int.natCast_nonneg,Int.ofNat_le,hfw,hfm];exact AX h_)
  refine bF (g:=none) rfl rfl fun K' hK'=>?_;simp only[sN,↓hopH.eq_def,sH,↓sP,sA,tyS,simprocAttr,rI,aX,aQ,aM,bA hmw,List.length_map,Int.natCast_nonneg,Int.ofNat_le,hfw,hfm];refine AX (hK' _ _ ?_);clear hK' K';iterate 3 refine WG0 ?_ (e:=fun _ h_=>by simp only[sH,↓sP,sA,tyS,simprocAttr,rI,aX,aQ,aM,bA hmw,List.length_map,Int.natCast_nonneg,Int.ofNat_le,hfw,hfm];exact AX h_)
  refine bF (g:=none) rfl rfl fun K' hK'=>?_;simp only[sN,↓hopH.eq_def,sH,↓sP,sA,tyS,simprocAttr,rI,aX,aQ,aM,bA hmw,List.length_map,Int.natCast_nonneg,Int.ofNat_le,hfw,hfm];refine AX (hK' _ _ ?_);clear hK' K';refine pM (g:=none) rfl rfl fun K' hK'=>?_;simp only[sN,↓hopH.eq_def,sH,↓sP,sA,tyS,simprocAttr,rI,aX,aQ,aM,bA hmw,List.length_map,Int.natCast_nonneg,Int.ofNat_le,hfw,hfm];refine aN5 [48] (aS6 l[l.length-1-i] w f m (by omega) (by omega) (by omega) (by omega)) (by first|rfl|(rw[←hmw];rfl)) ⟨rfl,trivial⟩ (by simp) ?_ ?_ ?_ ?_ ?_
  ·
   intro j hj
   match j,hj with
   |0,_=>exact .inr ⟨by decide,fun r os' h=>by rw[h.2]⟩
  · exact⟨rfl,rfl,rfl,rfl⟩
  · simp[eU,HO.men]
  · simp[HV.menL,HV.men]
  rintro r os' ⟨rfl,rfl⟩;rw[←hh,show∀n ob,kD (sub [48] n) ob 0 [.row 4 1 (w.map bC)]=upd ob 48 (some (.row 4 1 (w.map bC)))from fun _ _=>rfl,show∀n b,HV.ren (sub [48] n) (.c b)= .c b from fun _ _=>rfl];refine AX (hK' _ _ ?_);clear hK' K';refine WG0 ?_ (e:=fun _ h_=>by simp only[sH,↓sP,sA,tyS,simprocAttr,rI,aX,aQ,aM,bA hmw,List.length_map,Int.natCast_nonneg,Int.ofNat_le,hfw,hfm];exact AX h_);refine bF (g:=none) rfl rfl fun K' hK'=>?_;simp only[sN,↓hopH.eq_def,sH,↓sP,sA,tyS,simprocAttr,rI,aX,aQ,aM,bA hmw,List.length_map,Int.natCast_nonneg,Int.ofNat_le,hfw,hfm];refine AX (hK' _ _ ?_);clear hK' K';refine WG0 ?_ (e:=fun _ h_=>by simp only[sH,↓sP,sA,tyS,simprocAttr,rI,aX,aQ,aM,bA hmw,List.length_map,Int.natCast_nonneg,Int.ofNat_le,hfw,hfm];exact AX h_);simp only[sE,↓reduceIte,simprocAttr,rI];refine⟨(show Fits 20000 _ _ (fin []) _ 20000 from aL (by omega) trivial ?_),hok⟩;rw[hst,hxl,hlv];simp[aZ,fob_at,upd_at,none0_at,bV,HO.men,HV.men,HV.menL,HV.norm,HV.toC,HV.toCL,lV hf1,hrow,aU,aM]
 intro hΦ;simp only[sE,↓reduceIte,simprocAttr,rI];have hfin:=hΦ;rw[sG]at hfin;obtain⟨h1,h0,h2⟩:=hfin.fin ht;rw[sG,h1];obtain⟨w,hw⟩: ∃w,w=(cP l tr l.length).1:=⟨_,rfl⟩;rw[←hw]at h0;have h3:xL l tr=w[0]:=by rw[h2];simp only[hw]
 rw[←hw];refine AX (hK _ _ _ ?_);clear hK K;by_cases hw1:w.length=1
 ·
  rw[hw1];refine aB fun K hK=>Rg ?_;iterate 4 refine S0 ?_ (e:=fun _ h_=>by simp only[sH,↓sP,sA,tyS,simprocAttr,rI,aW,bR h0,bC,Nat.lt_irrefl];exact AX h_)
  simp only[sE,↓reduceIte,simprocAttr,rI];refine AX (hK _ _ _ ?_);clear hK K;refine aE ?_;simp only[fW,Tryz.results20,fK,fV,fC,↓sP,sA,tyS,simprocAttr,rI];exact aH [] (.bool w[0]) rfl (by rw[h3])
 refine aB fun K hK=>Rg ?_;iterate 4 refine S0 ?_ (e:=fun _ h_=>by simp only[sH,↓sP,sA,tyS,simprocAttr,rI,bA (Ne.symm hw1),bR h0,bC,h0];exact AX h_)
 simp only[sE,↓reduceIte,simprocAttr,rI];refine AX (hK _ _ _ ?_);clear hK K;refine aE ?_;simp only[fW,Tryz.results20,fK,fV,fC,↓sP,sA,tyS,simprocAttr,rI];exact aH [] (.bool w[0]) rfl (by rw[h3])
end Go.Proofs.YtlldglbooaefhaaGreatDoor
namespace Go.Hl
open Go
def mvN (id d:Nat):Nat→Nat:=fun i=>if i=id then d else i
def mvF (id d:Nat)(fr:Fr):Fr:=fun t=>(fr t).ren (mvN id d)
def mvO (id d:Nat)(ob:Ob):Ob:=fun i=>if i=d then(ob id).map (HO.ren (mvN id d))else if i=id then none else(ob i).map (HO.ren (mvN id d))
section
variable {P:Program}{n k:Nat}{Q:eT}{fr:Fr}{ob:Ob}{nx:Nat}
theorem RepA.mv {c:Ctx}{a:Act}{w:World}{M:Nat→Prop}(hA:RepA c M fr ob a w)(hk':c.M0=(· <k))(id d nx2:Nat)(hk:k≤id)(hkd:k≤d)(hid:M id)(hM: ∀i,M i→i<nx2∧i≠d)(hd:d<nx2):RepA c (· <nx2) (mvF id d fr) (mvO id d ob) a w:=by
 obtain⟨ρ,hA⟩:=hA;have hne:id≠d:=(hM id hid).2
 let ρ2:Env:=fun i=>if i=d then ρ id else if i=id then none else ρ i
 have hm: ∀i,M i→ρ2 (mvN id d i)=ρ i:=fun i hi=>by
  have:=hM i hi;simp only[ρ2,mvN];grind
 have hinv: ∀i L,ρ2 i=some L→ ∃j,M j∧mvN id d j=i∧ρ j=some L:=fun i L hL=>by
  simp only[ρ2]at hL;split at hL
  · grind[mvN]
  ·
   split at hL
   · grind
   ·
    rename_i e1 e2;refine⟨i,?_,by simp[mvN,e2],hL⟩;by_cases h1:M i
    · exact h1
    · have:=(hA.nid_none (nid:=i) h1).2;grind
 have hown: ∀b,Own ρ2 b→Own ρ b:=fun b ⟨i,L,h1,h2⟩=>let⟨j,_,_,h3⟩:=hinv i L h1;⟨j,L,h3,h2⟩;have hst:Stay w (Owned ρ c.X) w (Owned ρ2 c.X):=Stay.same (fun b _ hb=>hb.imp _root_.id (hown b));have hmv:Moves M ρ (fun i=>ρ2 (mvN id d i)):=Moves.of_eq fun i hi=>hm i hi;have hobj: ∀i o,mvO id d ob i=some o→ ∃j o',M j∧mvN id d j=i∧ob j=some o'∧o=o'.ren (mvN id d):=fun i o ho=>by
  simp only[mvO]at ho;split at ho
  · grind[Option.map_eq_some_iff,mvN]
  ·
   split at ho
   · grind
   · rename_i e1 e2;obtain⟨o',h1,h2⟩:=Option.map_eq_some_iff.1 ho;exact⟨i,o',(hA.mo i o' h1).1,by simp[mvN,e2],h1,h2.symm⟩
 have hmen: ∀i,M i→mvN id d i<nx2:=fun i hi=>by
  have:=hM i hi;grind[mvN]
 refine⟨ρ2,⟨fun i o ho=>?_,fun i hi=>?_,fun i i' L L' b h1 h2 h3 h4=>?_,fun i L b h1 h2=>?_⟩,fun t ht=>?_,fun t=>?_,fun i o ho=>?_,fun i hi=>?_,?_,?_,hA.defers,hA.size,hA.xlt⟩
 · obtain⟨j,o',hj,rfl,h1,rfl⟩:=hobj i o ho;exact RepO.unsub hst hmv (hA.mo j o' h1).2 (hm j hj) (hA.s.objs j o' h1)
 ·
  simp only[mvO]at hi;simp only[ρ2];split at hi
  · rename_i e;rw[if_pos e];exact hA.s.none id (by simp_all)
  ·
   rename_i e;rw[if_neg e];split at hi
   · grind
   · rename_i e2;rw[if_neg e2];exact hA.s.none i (by simp_all)
 · obtain⟨j,_,rfl,e1⟩:=hinv i L h1;obtain⟨j',_,rfl,e2⟩:=hinv i' L' h2;rw[hA.s.apart j j' L L' b e1 e2 h3 h4]
 · obtain⟨j,_,rfl,e1⟩:=hinv i L h1;exact hA.s.xb j L b e1 h2
 ·
  have hj:fr t≠ .junk:=by intro e;apply ht;simp only[mvF,e,HV.ren]
  have hf:=hA.f t hj;exact⟨jV.2 (RepH.stay hst hmv (hA.mf t) hf.1),by simp only[mvF,HV.ren_isAgg];exact hf.2⟩
 · exact men_ren.2 (HV.men_mono hmen (hA.mf t))
 · obtain⟨j,o',hj,rfl,h1,rfl⟩:=hobj i o ho;exact⟨hmen j hj,HO.men_ren.2 (HO.men_mono hmen (hA.mo j o' h1).2)⟩
 · exact(hM i (hA.m0 i hi)).1
 · exact hA.base.trans ⟨fun _ _ _=>rfl,fun b hb=> .inl (hown b hb),Nat.le_refl _,rfl,rfl,rfl⟩
 ·
  refine Moves.trans (M':=c.M0) (fun i hi=>hi) hA.moves fun i L hi hL=>⟨L,?_,.inl rfl⟩;rw[hk']at hi;have h1:i<k:=hi;simp only[ρ2]at hL
  rwa [if_neg (by omega),if_neg (by omega)]at hL
theorem cP9 {code:Code}(id d:Nat)(hk:k≤id)(hid:id<nx)(hd:nx≤d)(h:Hw P n k code Q (mvF id d fr) (mvO id d ob) (d+1)):Hw P n k code Q fr ob nx:=by
 intro c a w hn hk' hz hA;exact h c a w hn hk' hz (hA.mv hk' id d (d+1) hk (by omega) hid (fun i hi=>by omega) (by omega))
theorem bE6 {M:Nat→Prop}: ∀{l:List (Nat×HV)},(∀p∈l,p.2.men M)→ ∀t,(fin l t).men M
 |[],_,t=>by simp[fin,HV.men]
 |(t',v)::l,h,t=>by
  by_cases ht:t=t'
  · subst ht;simp only[fin,aV];exact h (t,v) (by simp)
  · simp only[fin,bE _ _ ht];exact bE6 (fun p hp=>h p (by simp[hp])) t
theorem bE7 {M N:Nat→Prop}: ∀{l:List (Nat×HO)},(∀p∈l,N p.1∧p.2.men M)→ ∀t o,fob l t=some o→N t∧o.men M
 |[],_,t,o,ho=>by simp[fob]at ho
 |(t',v)::l,h,t,o,ho=>by
  by_cases ht:t=t'
  · subst ht;simp only[fob,aV]at ho;cases ho;exact h (t,v) (by simp)
  · simp only[fob,bE _ _ ht]at ho;exact bE7 (fun p hp=>h p (by simp[hp])) t o ho
theorem cL4 {code:Code}(id d nx2:Nat)(l:List (Nat×HV))(h:List (Nat×HO))(h1:aY nx fr l)(h2:aZ nx ob h)(hk0:k≤nx)(hk:k≤id)(hkd:k≤d)(hid:id<nx)(hne:id≠d)(hnx:nx≤nx2)(hd:d<nx2)
  (hl: ∀p∈l,p.2.men fun i=>i<nx∧i≠d) (hh: ∀p∈h,(p.1<nx∧p.1≠d)∧p.2.men fun i=>i<nx∧i≠d) (hw:Hw P n k code Q (mvF id d (fin l)) (mvO id d (fob h)) nx2):Hw P n k code Q fr ob nx:=by
 intro c a w hn hk' hz hA;refine hw c a w hn hk' hz ?_;obtain⟨ρ,hB⟩:=hA.fits hk' (aL hk0 h1 h2);refine RepA.mv (M:=fun i=>i<nx∧i≠d) ⟨ρ,hB.s,hB.f,bE6 hl,bE7 (N:=fun i=>i<nx∧i≠d) hh,fun i hi=>?_,hB.base,hB.moves,hB.defers,hB.size,hB.xlt⟩ hk' id d nx2 hk hkd ⟨hid,hne⟩ (fun i hi=>⟨by omega,hi.2⟩) hd;rw[hk']at hi;have:i<k:=hi;omega
end
end Go.Hl
namespace Go.Proofs.YtlldglbooaefhaaGreatDoor
open Go Go.Hl Go.Pl
set_option maxRecDepth 10000
set_option maxHeartbeats 16000000
def rbx (n:aF)(v:Int)(R:HV)(O:HV)(d:Bool):HV:= .agg [.agg [.c (.str n),.c (.int .i64 v),R],O,.c (.bool d)]
theorem cI1 (a b c:HO):lst [a,b,c]=fob [(0,a),(1,b),(2,c)]:=by
 funext i
 match i with
 |0=>rfl
 |1=>rfl
 |2=>rfl
 |i+3=>simp[lst,fob,upd]
theorem cQ0 (a b c d:HO):lst [a,b,c,d]=fob [(0,a),(1,b),(2,c),(3,d)]:=by
 funext i
 match i with
 |0=>rfl
 |1=>rfl
 |2=>rfl
 |3=>rfl
 |i+4=>simp[lst,fob,upd]
def st0 :List HO:=[.box 100 (rbx [] 0 (.own 1 0) (.own 2 0) false),.hrow 54 5 [],.row 3 1 []]
variable {R:HV→List HO→Prop}{v:Int}{n:aF}{b:CV}{ob:Ob}
theorem bE8 {r:HV}(hr:r= .c b)(h0:ob 0=some (.box 100 (rbx n v (.own 1 0) (.own 2 0) false)))(h1:ob 1=some (.hrow 54 5 []))(h2:ob 2=some (.row 3 1 []))
  (hR:R (.c b.denil) [.box 100 (rbx n v (.own 1 0) (.own 2 0) false),.hrow 54 5 [],.row 3 1 []]):mB 3 r ob (fun r ob'=> ∃os',ob'=lst os'∧(3≤os'.length∧os'.length≤3+4)∧R r os'):=by
 subst hr;refine eO [] [] (.c b.denil) [.box 100 (rbx n v (.own 1 0) (.own 2 0) false),.hrow 54 5 [],.row 3 1 []] (by simp[HV.close,HV.norm,HV.toC,HV.ren]) (by simp[HV.men]) ⟨⟨by simp[HO.men,HV.men,HV.menL,rbx],by simp,_,h0,by simp[rbx,HO.close,HV.close,HV.closeL,HO.ren,HV.ren,HV.renL,HV.norm,fI,HV.toC,HV.toCL,CV.denil,CV.denilL,tau]⟩,⟨by simp[HO.men,HV.menL],by simp,_,h1,by simp[HO.close,HV.closeL,HO.ren,HV.renL,fI]⟩,⟨by simp[HO.men],by simp,_,h2,rfl⟩,trivial⟩ rfl List.nodup_nil (by simp) (by simp) hR
theorem aS7 (w:List aF)(hw:0<w.length):HGe Tryz.prog 65 [.ptr 0 0,.c (lsC w),.c (.bool true)] st0
  (fun r os'=>r= .c (.bool (cS w true ⟨[],0,[],[],false⟩).isSome)∧match cS w true ⟨[],0,[],[],false⟩with
   |some y=>y=⟨y.n,y.v,[],[],false⟩∧os'=[.box 100 (rbx y.n y.v (.own 1 0) (.own 2 0) false),.hrow 54 5 [],.row 3 1 []]
   |none=>os'=st0):=by
 refine cI (args:=[.ptr 0 0,.c (lsC w),.c (.bool true)]) Tryz.func65 rfl (by kernel_rfl) (fZ rfl (by simp[st0,rbx,eU,HO.men,HV.men,HV.menL]) (by simp[st0,HV.menL,HV.men])) (Nat.le_of_ble_eq_true rfl) ?_;show Hw _ _ 3 _ _ _ (lst _) 3;rw[st0,cI1];unfold lsC;have hw0:nth (w.map CV.str) 0= .str (wd w 0):=cF hw;refine R0 ?_;refine aB fun K hK=>?_;refine R0 ?_;refine CT rfl ?_;refine aB fun K hK=>?_;refine aB fun K hK=>?_;have key: ∀(b:Bool) fr ob nx,b=!(decide (w.length=3∧wd w 0=wPolicy)&&(bL (wd w 2)).isSome)→Fits 3 fr ob (fin [(0,.ptr 0 0),(1,.c (.slc (w.map .str))),(26,.c (.bool b))]) (fob [(0,.box 100 (rbx [] 0 (.own 1 0) (.own 2 0) false)),(1,.hrow 54 5 []),(2,.row 3 1 [])]) 100→K fr ob nx:=by
  rintro b fr ob nx rfl hf;refine hK _ _ _ (bH hf ?_);clear hf hK K;refine aG (b:=!(decide (w.length=3∧wd w 0=wPolicy)&&(bL (wd w 2)).isSome)) rfl (fun hb=>?_) (fun hb=>?_)
  ·
   refine R0 ?_;refine aE (RT Tryz.results65 ?_);have hn:cS w true ⟨[],0,[],[],false⟩=none:=by
    unfold cS;rw[if_pos rfl];split
    · rename_i h;rw[decide_eq_true h]at hb;simp only[Bool.true_and,Bool.not_eq_true',Option.isSome_eq_false_iff,Option.isNone_iff_eq_none]at hb;rw[hb];rfl
    rfl
   exact bE8 (b:= .bool false) rfl rfl rfl rfl ⟨by rw[hn]<;>rfl,by rw[hn]<;>rfl⟩
  refine aJ ?_;refine T0 (hK _ _ _ ?_);clear hK K;obtain⟨⟨hL,hP⟩,v,hv⟩:(w.length=3∧wd w 0=wPolicy)∧ ∃v,bL (wd w 2)=some v:=by
   simp only[Bool.not_eq_false',Bool.and_eq_true,decide_eq_true_eq]at hb;exact⟨hb.1,Option.isSome_iff_exists.1 hb.2⟩
  have hs:cS w true ⟨[],0,[],[],false⟩=some ⟨wd w 1,v,[],[],false⟩:=by
   unfold cS;rw[if_pos rfl,if_pos ⟨hL,hP⟩,hv];rfl
  clear hb;refine aB fun K hK=>DW [(0,[],[]),(1,[],[]),(2,[],[]),(3,[],[]),(4,[],[]),(5,[],[]),(6,[],[]),(7,[],[]),(8,[],[0,1,2,3,4]),(9,[],[]),(10,[],[]),(11,[],[]),(12,[],[1]),(13,[],[]),(14,[],[]),(15,[],[]),(16,[],[])] [0,0,0,4,12,0,32,96,224,509,1021,2045,4093,8191,16383,32767,65535] ?_;iterate 8 refine W0 ?_ (e:=fun _ h_=>by simp only[sH,↓sP,sA,tyS,simprocAttr,rbx,hL,cF (show 1<w.length by omega),cF (show 2<w.length by omega)];exact AX h_)
  refine cX (g:=none) rfl rfl fun K' hK'=>?_;simp only[sH,↓sP,sA,tyS,simprocAttr,rbx,hL,cF (show 1<w.length by omega),cF (show 2<w.length by omega)];refine C1 (pF (wd w 2)) ?_;rintro u rfl;rw[hv];refine AX (hK' _ _ ?_);clear hK' K';iterate 8 refine W0 ?_ (e:=fun _ h_=>by simp only[sH,↓sP,sA,tyS,simprocAttr,rbx,hL,cF (show 1<w.length by omega),cF (show 2<w.length by omega)];exact AX h_)
  refine T2 (hK _ _ _ ?_);clear hK K;refine R0 ?_;refine aE (RT Tryz.results65 ?_);exact bE8 (b:= .bool true) (n:=wd w 1) (v:=v) rfl rfl rfl rfl ⟨by rw[hs]<;>rfl,by rw[hs];exact⟨rfl,rfl⟩⟩
 by_cases hL:w.length=3
 ·
  by_cases hP:wd w 0=wPolicy
  ·
   refine Rg ?_;have F:=aI hL (aI hw0 (aI (cF (show 2<w.length by omega)) (show(wd w 0==[112,111,108,105,99,121])=true from by rw[hP];decide)));iterate 13 refine SF ?_
   refine aP (g:=some (20,false)) rfl rfl fun K' hK'=>T6 ?_;refine C1 (pF (wd w 2)) ?_;rintro u rfl;refine AX (hK' _ _ ?_);clear hK' K';iterate 2 refine SF ?_
   refine T4 ?_;exact key (decide ((bL (wd w 2)).getD (-1)<0)) _ _ _ (by
    have hy:decide ((bL (wd w 2)).getD (-1)<0)=!(bL (wd w 2)).isSome:=by
     cases h:bL (wd w 2)with
     |none=>rfl
     |some n=>have:=(kF h).1;simp;omega
    rw[hy,decide_eq_true ⟨hL,hP⟩,Bool.true_and]) (aL (by omega) (by simp[aY,fin_at,finA_at,upd_at,HV.men,HV.menL,HV.norm,HV.toC,HV.toCL,rbx]) (by simp[aZ,fob_at,upd_at,none0_at,bV,HO.men,HV.men,HV.menL,HV.norm,HV.toC,HV.toCL,rbx]))
  refine Rg ?_;have F:=aI hL (aI hw0 (show(wd w 0==[112,111,108,105,99,121])=false from beq_false_of_ne hP));iterate 16 refine SF ?_
  refine T4 ?_;exact key true _ _ _ (by rw[decide_eq_false (fun h=>hP h.2)];rfl) (aL (by omega) (by simp[aY,fin_at,finA_at,upd_at,HV.men,HV.menL,HV.norm,HV.toC,HV.toCL,rbx]) (by simp[aZ,fob_at,upd_at,none0_at,bV,HO.men,HV.men,HV.menL,HV.norm,HV.toC,HV.toCL,rbx]))
 refine Rg ?_;have F:=aI (show((w.length:Int) !=3)=true by simp;omega) hw0;iterate 16 refine SF ?_
 refine T4 ?_;exact key true _ _ _ (by rw[decide_eq_false (fun h=>hL h.1)];rfl) (aL (by omega) (by simp[aY,fin_at,finA_at,upd_at,HV.men,HV.menL,HV.norm,HV.toC,HV.toCL,rbx]) (by simp[aZ,fob_at,upd_at,none0_at,bV,HO.men,HV.men,HV.menL,HV.norm,HV.toC,HV.toCL,rbx]))
abbrev os2 (n:aF)(v:Int)(r:List Pr)(W:List Nat):List HO:=[.box 100 (rbx n v (.own 1 r.length) (cN 2 W.length 1 0) false),.hrow 54 5 (r.map fun x=> .c x.cv),.row 3 1 (W.map iC)]
theorem cM (r:List Pr)(x:HV):kZ ((r.map fun x=> .c x.cv)++[x]) r.length=x:=by
 have:=bF9 (r.map fun x:Pr=>HV.c x.cv) x;simpa using this
theorem bN {M:Nat→Prop}(r:List Pr):HV.menL M (r.map fun x=> .c x.cv):=by
 induction r with
 |nil=>simp[HV.menL]
 |cons x l ih=>simp only[List.map_cons,HV.menL,HV.men,true_and];exact ih
theorem gW (id n sz m:Nat):(cN id n sz m).norm=cN id n sz m:=by unfold cN;split<;>rfl
variable {cl:List Nat}
theorem pG (r:List Pr):HV.closeL ob cl (r.map fun x=> .c x.cv)=r.map fun x=> .c x.cv:=by
 induction r with
 |nil=>simp[HV.closeL]
 |cons x l ih=>simp only[List.map_cons,HV.closeL,HV.close,Pr.denil,HV.norm,HV.toC,ih]
variable {N:Nat→Nat}
theorem jN (r:List Pr):HV.renL N (r.map fun x=> .c x.cv)=r.map fun x=> .c x.cv:=by
 induction r with
 |nil=>simp[HV.renL]
 |cons x l ih=>simp only[List.map_cons,HV.renL,HV.ren,ih]
theorem qK (l m:List HV):HV.closeL ob cl (l++m)=HV.closeL ob cl l++HV.closeL ob cl m:=by
 induction l with
 |nil=>simp[HV.closeL]
 |cons x l ih=>simp only[List.cons_append,HV.closeL,ih]
theorem lW (l m:List HV):HV.renL N (l++m)=HV.renL N l++HV.renL N m:=by
 induction l with
 |nil=>simp[HV.renL]
 |cons x l ih=>simp only[List.cons_append,HV.renL,ih]
theorem mS (r:List Pr)(x y:HV):((r.map fun x=>HV.c x.cv)++[x]).set r.length y=(r.map fun x=>HV.c x.cv)++[y]:=by
 rw[List.set_append_right _ _ (by simp)];simp
theorem oH (m:Nat)(W:List Nat)(h:ob 2=some (.row 3 1 (W.map iC))):(cN 2 W.length 1 m).close ob []=cN 2 W.length 1 m:=by
 unfold cN;split<;>simp[HV.close]
theorem gE (id n sz m:Nat):(cN id n sz m).ren N=cN (N id) n sz m:=by unfold cN;split<;>rfl
theorem bY1 {r:List Pr}{W:List Nat}{u:HV}(hr:u= .c b)(h0:ob 0=some (.box 100 (rbx n v (.own 1 r.length) (cN 2 W.length 1 0) false)))(h1:ob 1=some (.hrow 54 5 (r.map fun x=> .c x.cv)))(h2:ob 2=some (.row 3 1 (W.map iC)))
  (hR:R (.c b.denil) (os2 n v r W)):mB 3 u ob (fun r ob'=> ∃os',ob'=lst os'∧(3≤os'.length∧os'.length≤3+4)∧R r os'):=by
 subst hr;refine eO [] [] (.c b.denil) (os2 n v r W) (by simp[HV.close,HV.norm,HV.toC,HV.ren]) (by simp[HV.men]) ⟨⟨by simp[HO.men,HV.men,HV.menL,rbx,aU],by simp,_,h0,?_⟩,⟨by simp[HO.men,bN],by simp,_,h1,?_⟩,⟨by simp[HO.men],by simp,_,h2,rfl⟩,trivial⟩ rfl List.nodup_nil (by simp) (by simp) hR
 · simp[rbx,HO.close,HV.close,HV.closeL,oH 0 W h2,CV.denil,fI,HV.norm,HV.toC,HV.toCL,HO.ren,HV.ren,HV.renL,aM,gW,gE,tau]
 simp[HO.close,HO.ren,pG,jN,fI]
theorem aS8 (w:List aF)(hw:0<w.length)(n:aF)(v:Int)(r:List Pr)(W:List Nat)(hr:r.length<2^40):HGe Tryz.prog 65 [.ptr 0 0,.c (lsC w),.c (.bool false)] (os2 n v r W)
  (fun u os'=>u= .c (.bool (cS w false ⟨n,v,r,[],false⟩).isSome)∧match cS w false ⟨n,v,r,[],false⟩with
   |some y=> ∃g,y=⟨n,v,r++[⟨wd w 1,wd w 2,wd w 3,g,[]⟩],[],true⟩∧os'=[.box 100 (rbx n v (.own 1 (r.length+1)) (cN 2 W.length 1 0) true),.hrow 54 5 ((r.map fun x=> .c x.cv)++[.agg [.c (.str (wd w 1)),.c (.str (wd w 2)),.c (.str (wd w 3)),.c (.int .i64 g),.own 3 0]]),.row 3 1 (W.map iC),.row 40 7 []]
   |none=>os'=os2 n v r W):=by
 refine cI (args:=[.ptr 0 0,.c (lsC w),.c (.bool false)]) Tryz.func65 rfl (by kernel_rfl) (fZ rfl (by simp[rbx,eU,HO.men,HV.men,HV.menL,aU,bN]) (by simp[HV.menL,HV.men])) (Nat.le_of_ble_eq_true rfl) ?_;show Hw _ _ 3 _ _ _ (lst _) 3;rw[cI1];unfold lsC;have hw0:nth (w.map CV.str) 0= .str (wd w 0):=cF hw;refine R0 ?_;refine aB fun K hK=>?_;refine R0 ?_;refine CF rfl ?_;refine aJ ?_;refine T0 (hK _ _ _ ?_);clear hK K;refine aB fun K hK=>?_;refine aB fun K hK=>?_;have key: ∀fr ob nx,Fits 3 fr ob (fin [(0,.ptr 0 0),(1,.c (.slc (w.map .str))),(54,.c (.bool true))]) (fob [(0,.box 100 (rbx n v (.own 1 r.length) (cN 2 W.length 1 0) false)),(1,.hrow 54 5 (r.map fun x=> .c x.cv)),(2,.row 3 1 (W.map iC))]) 100→K fr ob nx:=by
  rintro fr ob nx hf;refine hK _ _ _ (bH hf ?_);clear hf hK K;refine CT rfl ?_;refine aB fun K hK=>?_;refine aB fun K hK=>?_;have key: ∀(b:Bool) fr ob nx,b=!(decide (w.length=5∧wd w 0=wRule)&&(bL (wd w 4)).isSome)→Fits 3 fr ob (fin [(0,.ptr 0 0),(1,.c (.slc (w.map .str))),(70,.c (.bool b))]) (fob [(0,.box 100 (rbx n v (.own 1 r.length) (cN 2 W.length 1 0) false)),(1,.hrow 54 5 (r.map fun x=> .c x.cv)),(2,.row 3 1 (W.map iC))]) 200→K fr ob nx:=by
   rintro b fr ob nx rfl hf;refine hK _ _ _ (bH hf ?_);clear hf hK K;refine aG (b:=!(decide (w.length=5∧wd w 0=wRule)&&(bL (wd w 4)).isSome)) rfl (fun hb=>?_) (fun hb=>?_)
   ·
    refine R0 ?_;refine aE (RT Tryz.results65 ?_);have hn:cS w false ⟨n,v,r,[],false⟩=none:=by
     unfold cS;rw[if_neg (by decide),if_pos ⟨rfl,rfl⟩];split
     · rename_i h;rw[decide_eq_true h]at hb;simp only[Bool.true_and,Bool.not_eq_true',Option.isSome_eq_false_iff,Option.isNone_iff_eq_none]at hb;rw[hb];rfl
     rfl
    exact bY1 (b:= .bool false) rfl rfl rfl rfl ⟨by rw[hn]<;>rfl,by rw[hn]<;>rfl⟩
   refine aJ ?_;refine T0 (hK _ _ _ ?_);clear hK K;obtain⟨⟨hL,hP⟩,g,hg⟩:(w.length=5∧wd w 0=wRule)∧ ∃v,bL (wd w 4)=some v:=by
    simp only[Bool.not_eq_false',Bool.and_eq_true,decide_eq_true_eq]at hb;exact⟨hb.1,Option.isSome_iff_exists.1 hb.2⟩
   have hs:cS w false ⟨n,v,r,[],false⟩=some ⟨n,v,r++[⟨wd w 1,wd w 2,wd w 3,g,[]⟩],[],true⟩:=by
    unfold cS;rw[if_neg (by decide),if_pos ⟨rfl,rfl⟩,if_pos ⟨hL,hP⟩,hg];rfl
   clear hb;refine aB fun K hK=>cY mixed [(0,[],[]),(1,[],[]),(2,[],[]),(3,[],[]),(4,[],[]),(5,[],[]),(6,[],[]),(7,[],[]),(8,[],[]),(9,[],[]),(10,[],[]),(11,[],[]),(12,[],[]),(13,[],[]),(14,[],[]),(15,[],[]),(16,[],[]),(17,[],[]),(18,[],[0,1,2,3,4,5,6,7,8,9,10,11,12,13,14]),(19,[],[]),(20,[],[]),(21,[],[0]),(22,[],[]),(23,[],[]),(24,[],[]),(25,[],[])] [0,0,2,6,14,30,0,64,192,0,512,1536,0,4096,12288,0,32768,98304,229376,524224,1048512,2097150,4194303,8388607,16777215,33554431] (by kernel_rfl) (by kernel_rfl) (by kernel_rfl) (by kernel_rfl) rfl (by kernel_rfl) ?_;iterate 18 refine WG0 ?_ (e:=fun _ h_=>by simp only[sH,↓sP,sA,tyS,simprocAttr,rbx,hL,cF (show 1<w.length by omega),cF (show 2<w.length by omega),cF (show 3<w.length by omega),cF (show 4<w.length by omega),aX,aQ,aM,List.length_map];exact AX h_)
   refine bW (g:=none) rfl rfl fun K' hK'=>?_;simp only[sH,↓sP,sA,tyS,simprocAttr,rbx,hL,cF (show 1<w.length by omega),cF (show 2<w.length by omega),cF (show 3<w.length by omega),cF (show 4<w.length by omega),aX,aQ,aM,List.length_map];refine C1 (pF (wd w 4)) ?_;rintro u rfl;rw[hg];refine AX (hK' _ _ ?_);clear hK' K';refine WG0 ?_ (e:=fun _ h_=>by simp only[sH,↓sP,sA,tyS,simprocAttr,rbx,hL,cF (show 1<w.length by omega),cF (show 2<w.length by omega),cF (show 3<w.length by omega),cF (show 4<w.length by omega),aX,aQ,aM,List.length_map];exact AX h_);refine bF (g:=none) rfl rfl fun K' hK'=>?_;simp only[sN,↓hopH.eq_def,sH,↓sP,sA,tyS,simprocAttr,rbx,hL,cF (show 1<w.length by omega),cF (show 2<w.length by omega),cF (show 3<w.length by omega),cF (show 4<w.length by omega),aX,aQ,aM,List.length_map];refine AX (hK' _ _ ?_);clear hK' K';refine bF (g:=none) rfl rfl fun K' hK'=>?_;simp only[sN,↓hopH.eq_def,sH,↓sP,sA,tyS,simprocAttr,rbx,hL,cF (show 1<w.length by omega),cF (show 2<w.length by omega),cF (show 3<w.length by omega),cF (show 4<w.length by omega),aX,aQ,aM,List.length_map];refine AX (hK' _ _ ?_);clear hK' K';iterate 4 refine WG0 ?_ (e:=fun _ h_=>by simp only[sH,↓sP,sA,tyS,simprocAttr,rbx,hL,cF (show 1<w.length by omega),cF (show 2<w.length by omega),cF (show 3<w.length by omega),cF (show 4<w.length by omega),aX,aQ,aM,List.length_map];exact AX h_)
   refine T2 (hK _ _ _ ?_);clear hK K;refine aB fun K hK=>Rg ?_;iterate 4 refine S0 ?_ (e:=fun _ h_=>by simp only[sH,↓sP,sA,tyS,simprocAttr,rbx,aX,aQ,aM];exact AX h_)
   refine T2 (hK _ _ _ ?_);clear hK K;refine cA7 1 r.length 4 40 7 rfl (by simp) (by rw[cM];rfl) (by rw[cM];rfl) ?_;refine R0 ?_;refine aE (RT Tryz.results65 ?_);refine eO [] [320] (.c (.bool true)) [.box 100 (rbx n v (.own 1 (r.length+1)) (cN 2 W.length 1 0) true),.hrow 54 5 ((r.map fun x=> .c x.cv)++[.agg [.c (.str (wd w 1)),.c (.str (wd w 2)),.c (.str (wd w 3)),.c (.int .i64 g),.own 3 0]]),.row 3 1 (W.map iC),.row 40 7 []] rfl (by simp[HV.men]) ⟨⟨by simp[HO.men,HV.men,HV.menL,rbx,aU],by simp,_,rfl,?_⟩,⟨by simp[HO.men,HV.menL_append,HV.menL,HV.men,bN],by simp,_,rfl,?_⟩,⟨by simp[HO.men],by simp,_,rfl,rfl⟩,⟨by simp[HO.men],by simp,_,rfl,rfl⟩,trivial⟩ rfl (by simp) (by simp) (by simp) ⟨by rw[hs]<;>rfl,by rw[hs];exact⟨g,rfl,rfl⟩⟩
   · simp[rbx,HO.close,HV.close,HV.closeL,oH,CV.denil,fI,HV.norm,HV.toC,HV.toCL,HO.ren,HV.ren,HV.renL,aM,gW,gE,tau,upd_at,fob_at]
   simp[mS,HO.close,HO.ren,qK,pG,lW,jN,fI,HV.close,HV.closeL,HV.ren,HV.renL,HV.norm,HV.toC,HV.toCL,CV.denil,tau,upd_at,fob_at]
  by_cases hL:w.length=5
  ·
   by_cases hP:wd w 0=wRule
   ·
    refine Rg ?_;have F:=aI hL (aI hw0 (aI (cF (show 4<w.length by omega)) (show(wd w 0==[114,117,108,101])=true from by rw[hP];decide)));iterate 13 refine SF ?_
    refine aP (g:=some (64,false)) rfl rfl fun K' hK'=>T6 ?_;refine C1 (pF (wd w 4)) ?_;rintro u rfl;refine AX (hK' _ _ ?_);clear hK' K';iterate 2 refine SF ?_
    refine T4 ?_;exact key (decide ((bL (wd w 4)).getD (-1)<0)) _ _ _ (by
     have hy:decide ((bL (wd w 4)).getD (-1)<0)=!(bL (wd w 4)).isSome:=by
      cases h:bL (wd w 4)with
      |none=>rfl
      |some n=>have:=(kF h).1;simp;omega
     rw[hy,decide_eq_true ⟨hL,hP⟩,Bool.true_and]) (aL (by omega) (by simp[aY,fin_at,finA_at,upd_at,HV.men,HV.menL,HV.norm,HV.toC,HV.toCL,rbx,aU,bN,aM]) (by simp[aZ,fob_at,upd_at,none0_at,bV,HO.men,HV.men,HV.menL,HV.norm,HV.toC,HV.toCL,rbx,aU,bN,aM]))
   refine Rg ?_;have F:=aI hL (aI hw0 (show(wd w 0==[114,117,108,101])=false from beq_false_of_ne hP));iterate 16 refine SF ?_
   refine T4 ?_;exact key true _ _ _ (by rw[decide_eq_false (fun h=>hP h.2)];rfl) (aL (by omega) (by simp[aY,fin_at,finA_at,upd_at,HV.men,HV.menL,HV.norm,HV.toC,HV.toCL,rbx,aU,bN,aM]) (by simp[aZ,fob_at,upd_at,none0_at,bV,HO.men,HV.men,HV.menL,HV.norm,HV.toC,HV.toCL,rbx,aU,bN,aM]))
  refine Rg ?_;have F:=aI (show((w.length:Int) !=5)=true by simp;omega) hw0;iterate 16 refine SF ?_
  refine T4 ?_;exact key true _ _ _ (by rw[decide_eq_false (fun h=>hL h.1)];rfl) (aL (by omega) (by simp[aY,fin_at,finA_at,upd_at,HV.men,HV.menL,HV.norm,HV.toC,HV.toCL,rbx,aU,bN,aM]) (by simp[aZ,fob_at,upd_at,none0_at,bV,HO.men,HV.men,HV.menL,HV.norm,HV.toC,HV.toCL,rbx,aU,bN,aM]))
 by_cases hW:W.length=0
 ·
  refine Rg ?_;iterate 13 refine S0 ?_ (e:=fun _ h_=>by simp only[sH,↓sP,sA,tyS,simprocAttr,rbx,hW,aW,aX,aQ,aM];exact AX h_)
  refine T4 ?_;exact key _ _ _ (aL (by omega) (by simp[aY,fin_at,finA_at,upd_at,HV.men,HV.menL,HV.norm,HV.toC,HV.toCL,rbx,aU,bN,aM,hW,aW]) (by simp[aZ,fob_at,upd_at,none0_at,bV,HO.men,HV.men,HV.menL,HV.norm,HV.toC,HV.toCL,rbx,aU,bN,aM,hW,aW]))
 refine Rg ?_;iterate 13 refine S0 ?_ (e:=fun _ h_=>by simp only[sH,↓sP,sA,tyS,simprocAttr,rbx,bA (show 0≠W.length from Ne.symm hW),List.length_map,(show 0<W.length by omega),Nat.zero_le,List.take_zero,List.length_nil,List.length_take,List.length_drop,Nat.sub_zero,Nat.zero_min];exact AX h_)
 refine T4 ?_;exact key _ _ _ (aL (by omega) (by simp[aY,fin_at,finA_at,upd_at,HV.men,HV.menL,HV.norm,HV.toC,HV.toCL,rbx,aU,bN,aM,bA (show 0≠W.length from Ne.symm hW)]) (by simp[aZ,fob_at,upd_at,none0_at,bV,HO.men,HV.men,HV.menL,HV.norm,HV.toC,HV.toCL,rbx,aU,bN,aM,bA (show 0≠W.length from Ne.symm hW)]))
end Go.Proofs.YtlldglbooaefhaaGreatDoor
