/- PolicySelect: for any tape of numbers, any namespace and image and either choice the law returns true and leaves them as they were: Select of the program answers as the reference's does. The listed tables of the library are tied to the program's text by the card. By an AI agent. -/
import Derived.Test.YtlldglbooaefhaaGreatDoorPl28k
import Derived.Test.YtlldglbooaefhaaGreatDoorPl03c
import Derived.Test.YtlldglbooaefhaaGreatDoorHzU1
import Derived.Test.YtlldglbooaefhaaGreatDoorHzTk
import Derived.Test.YtlldglbooaefhaaGreatDoorHlTlaw
import Derived.Test.YtlldglbooaefhaaGreatDoorHlIt
import Derived.Test.YtlldglbooaefhaaGreatDoorPl28p
import Derived.Test.YtlldglbooaefhaaGreatDoorHzUh
import Derived.Test.YtlldglbooaefhaaGreatDoorHzTm
import Derived.Lay
import Derived.SevenTiedAt
import Derived.Test.YtlldglbooaefhaaGreatDoorRows
import Derived.Test.YtlldglbooaefhaaGreatDoorCards
import Derived.Test.YtlldglbooaefhaaGreatDoorTie
set_option linter.unusedSimpArgs false
set_option linter.unusedVariables false
set_option linter.defProp false
namespace Go.Pl
open Go Go.Hl
def lC (w:List Bool)(m:Nat)(b:Bool):List Bool:=w.take m++[b]++w.drop (m+1)
variable {b:Bool}{m:Nat}{w:List Bool}
theorem lD (h:m+1≤w.length):(lC w m b).length=w.length:=by simp[lC];omega
theorem aA4 :lC w w.length b=w++[b]:=by simp[lC]
theorem aA5 (h:m≤w.length):(lC w m b).take (m+1)=w.take m++[b]:=by grind[lC,List.take_of_length_le]
def aU9 (l:List Nd)(tr:List Bool)(p:Nat)(s:List Bool×Nat):List Bool×Nat:=
 if(l.getD p nd0).k=1 then(lC s.1 s.2 (tr.getD (lv (l.take p)) false),s.2+1)
 else(lC s.1 (s.2-(l.getD p nd0).c.toNat) (kU (l.getD p nd0) ((s.1.drop (s.2-(l.getD p nd0).c.toNat)).take (l.getD p nd0).c.toNat)),s.2-(l.getD p nd0).c.toNat+1)
def bZ (l:List Nd)(tr:List Bool):Nat→List Bool×Nat
 |0=>([],0)
 |i+1=>aU9 l tr (l.length-1-i) (bZ l tr i)
structure EvOk (l:List Nd)(tr:List Bool)(i:Nat):Prop where
 le:i≤l.length
 m:(bZ l tr i).2=(evS (lv l) tr (l.drop (l.length-i))).length
 row:(bZ l tr i).1.take (bZ l tr i).2=(evS (lv l) tr (l.drop (l.length-i))).reverse
 fit:(bZ l tr i).2≤(bZ l tr i).1.length
 small:(bZ l tr i).1.length≤i
theorem EvOk.zero (l:List Nd)(tr:List Bool):EvOk l tr 0:=⟨by omega,by simp[bZ,evS],by simp[bZ,evS],by simp[bZ],by simp[bZ]⟩
theorem xU (n:Nd)(l:List Bool):kU n l.reverse=kU n l:=by simp only[kU,aL4,List.length_reverse]
variable {c:Nat}{E:List Bool}
theorem bS5 :E.reverse.take (E.length-c)=(E.drop c).reverse:=by rw[List.reverse_drop]
theorem bS6 (h:c≤E.length):E.reverse.drop (E.length-c)=(E.take c).reverse:=by rw[List.reverse_take]
variable {i:Nat}{l:List Nd}
theorem EvOk.at_ {tr:List Bool}(hi:i<l.length):l.drop (l.length-(i+1))=l[l.length-1-i]'(by omega)::l.drop (l.length-i):=by grind[List.drop_eq_getElem_cons]
variable {tr:List Bool}
theorem EvOk.leaf (h:EvOk l tr i)(hi:i<l.length)(hk:(l[l.length-1-i]'(by omega)).k=1):
  EvOk l tr (i+1)∧bZ l tr (i+1)=(lC (bZ l tr i).1 (bZ l tr i).2 (tr.getD (lv (l.take (l.length-1-i))) false),(bZ l tr i).2+1):=by
 have hp:l.length-1-i<l.length:=by omega
 have hg:l.getD (l.length-1-i) nd0=l[l.length-1-i]:=by simp[hp]
 have e:bZ l tr (i+1)=(lC (bZ l tr i).1 (bZ l tr i).2 (tr.getD (lv (l.take (l.length-1-i))) false),(bZ l tr i).2+1):=by
  simp only[bZ,aU9,hg,if_pos hk]
 have hT:=aD6 l (l.length-1-i);have hd:=EvOk.at_ (tr:=tr) hi;rw[show l.length-(i+1)=l.length-1-i from by omega]at hd;have hE:evS (lv l) tr (l.drop (l.length-(i+1)))=tr.getD (lv (l.take (l.length-1-i))) false::evS (lv l) tr (l.drop (l.length-i)):=by
  rw[show l.length-(i+1)=l.length-1-i from by omega,hd,evS,if_pos hk,←hd];congr 2;omega
 refine⟨⟨hi,?_,?_,?_,?_⟩,e⟩
 · rw[e,hE];simp[h.m]
 · rw[e,hE];simp only[List.reverse_cons];rw[aA5 h.fit,h.row]
 · rw[e];have:=h.fit;simp[lC];omega
 · rw[e];have:=h.fit;have:=h.small;simp[lC];omega
theorem EvOk.inner (ht:IsTree l)(h:EvOk l tr i)(hi:i<l.length)(hk:(l[l.length-1-i]'(by omega)).k≠1):
  (l[l.length-1-i]'(by omega)).c.toNat≤(bZ l tr i).2∧EvOk l tr (i+1)∧
  bZ l tr (i+1)=(lC (bZ l tr i).1 ((bZ l tr i).2-(l[l.length-1-i]'(by omega)).c.toNat) (kU (l[l.length-1-i]'(by omega)) (((bZ l tr i).1.drop ((bZ l tr i).2-(l[l.length-1-i]'(by omega)).c.toNat)).take (l[l.length-1-i]'(by omega)).c.toNat)),(bZ l tr i).2-(l[l.length-1-i]'(by omega)).c.toNat+1):=by
 have hp:l.length-1-i<l.length:=by omega
 have hg:l.getD (l.length-1-i) nd0=l[l.length-1-i]:=by simp[hp]
 have e:bZ l tr (i+1)=(lC (bZ l tr i).1 ((bZ l tr i).2-(l[l.length-1-i]'(by omega)).c.toNat) (kU (l[l.length-1-i]'(by omega)) (((bZ l tr i).1.drop ((bZ l tr i).2-(l[l.length-1-i]'(by omega)).c.toNat)).take (l[l.length-1-i]'(by omega)).c.toNat)),(bZ l tr i).2-(l[l.length-1-i]'(by omega)).c.toNat+1):=by
  simp only[bZ,aU9,hg,if_neg hk]
 have hkl:=bM0 ht (tr:=tr) hp;rw[show l.length-1-i+1=l.length-i from by omega]at hkl;obtain⟨_,_,_,c4⟩:=dO (ht.node _ (List.getElem_mem hp));have c5:=c4 hk;have c6:1≤l[l.length-1-i].c.toNat:=by omega
 have hd:=EvOk.at_ (tr:=tr) hi;have hm:=h.m;have hr:=h.row;have hf:=h.fit;have hs:=h.small;have hE:evS (lv l) tr (l.drop (l.length-(i+1)))=kU l[l.length-1-i] ((evS (lv l) tr (l.drop (l.length-i))).take l[l.length-1-i].c.toNat)::(evS (lv l) tr (l.drop (l.length-i))).drop l[l.length-1-i].c.toNat:=by
  rw[hd,evS,if_neg hk]
 generalize evS (lv l) tr (l.drop (l.length-i))=E at hm hr hkl hE;generalize l[l.length-1-i].c.toNat=c at*;have h1:(bZ l tr i).1.take ((bZ l tr i).2-c)=(E.drop c).reverse:=by
  rw[←bS5,←hr,List.take_take,hm,Nat.min_eq_left (by omega)]
 have h2:((bZ l tr i).1.drop ((bZ l tr i).2-c)).take c=(E.take c).reverse:=by
  rw[←bS6 hkl,←hr,List.drop_take,hm];congr 1;omega
 refine⟨by omega,⟨hi,?_,?_,?_,?_⟩,e⟩
 · rw[e,hE];simp only[List.length_cons,List.length_drop];omega
 · rw[e,hE];simp only[List.reverse_cons];rw[aA5 (by omega),h1,h2,xU]
 · rw[e];simp only;rw[lD (by omega)];omega
 · rw[e];simp only;rw[lD (by omega)];omega
theorem EvOk.fin (ht:IsTree l)(h:EvOk l tr l.length):(bZ l tr l.length).2=1∧ ∃h0:0<(bZ l tr l.length).1.length,wJ l tr=(bZ l tr l.length).1[0]:=by
 have hl:=aD5 (T:=lv l) (tr:=tr) l 1 ht.node ht.skip;have hm:=h.m;have hr:=h.row;have hf:=h.fit;rw[Nat.sub_self,List.drop_zero]at hm hr;rw[hl]at hm;have h0:0<(bZ l tr l.length).1.length:=by omega
 refine⟨hm,h0,?_⟩;have ht':=aM0 ht;obtain⟨x,hx⟩: ∃x,evS (lv l) tr l=[x]:=by
  match hE:evS (lv l) tr l,hl with
  |[x],_=>exact⟨x,rfl⟩
 rw[hx,hm]at hr;rw[wJ,ht',hx];have:(bZ l tr l.length).1[0]=x:=by
  have:=congrArg (·.head?) hr;simpa[List.head?_take,List.head?_eq_getElem?,h0]using this
 rw[this];rfl
end Go.Pl
namespace Go.Proofs.YtlldglbooaefhaaGreatDoor
open Go Go.Hl Go.Pl
set_option maxRecDepth 10000
set_option maxHeartbeats 16000000
theorem cA (id n sz m:Nat):(gY id n sz m).sto=true:=by unfold gY;split<;>rfl
theorem bQ (id n sz m:Nat):(gY id n sz m).cells=1:=by unfold gY;split<;>rfl
theorem bU (id n sz m:Nat):(gY id n sz m).toC=none:=by unfold gY;split<;>rfl
theorem cT (id n sz:Nat):gY id n sz n= .own id n:=by unfold gY;rw[if_pos rfl]
theorem cN {id n sz m:Nat}(h:m≠n):gY id n sz m= .osl id n 0 sz m:=by unfold gY;rw[if_neg h]
theorem oG {M:Nat→Prop}{id n sz m:Nat}(h:M id):(gY id n sz m).men M:=by unfold gY;split<;>exact h
theorem bA3 (l:List Nd)(hn: ∀n∈l,n.q.t.length<2^63)(tr:List Bool)(htr:tr.length<2^63):bV Tryz.prog 20 [.slc (l.map Nd.cv),.slc (tr.map bC)] (fun v=>v= .bool (wJ l tr)):=by
 refine FW Tryz.func20 ?_;have F:=rI;refine RF ?_;refine aC fun K hK=>Rg ?_;refine SF ?_;refine HS rfl rfl fun K' hK'=>T6 ?_;refine C1 (zW l hn) ?_;rintro u rfl;refine AX (hK' _ _ ?_);clear hK' K';iterate 3 refine SF ?_
 simp only[sE,↓reduceIte,simprocAttr,rI];refine AX (hK _ _ _ ?_);clear hK K;refine aC fun K hK=>?_;refine RF ?_;refine aJ (b:=(((iR l).length:Int)==0)) rfl (fun hb=>?_) (fun hb=>?_)
 ·
  refine RF ?_;refine aF ?_;simp only[gK,Tryz.results20,fL,gJ,eV,↓sP,sA,tyS,simprocAttr,rI];have hlv:iR l=[]:=by simpa using hb
  have htf:cW l=false:=by
   cases h:cW l with
   |false=>rfl
   |true=>
    have h1:=aL3 (kP h);rw[pD h]at hlv;have h2:=kT l 0;rw[hlv]at h2;simp at h2;omega
  exact aG [] (.bool false) rfl (by rw[wJ,htf];rfl)
 have htt:cW l=true:=by
  cases h:cW l with
  |true=>rfl
  |false=>rw[tL h]at hb;simp at hb
 have ht:=kP htt;have hl:=ht.len;have hlen:(iR l).length=lv l:=by rw[pD htt,kT]
 rw[hlen];clear hb;refine aK ?_;refine TQ rI ?_;refine AX (hK _ _ _ ?_);clear hK K;refine RF ?_;refine aC fun K hK=>?_;refine aC fun K hK=>Rg ?_;refine S0 ?_ (e:=fun _ h_=>by simp only[sH,↓sP,sA,tyS,simprocAttr,rI,denilL_Nd,lY,gM,List.range',List.map_cons,List.map_nil];exact AX h_);refine HS rfl rfl fun K' hK'=>?_;simp only[sH,↓sP,sA,tyS,simprocAttr,rI,denilL_Nd,lY,gM,List.range',List.map_cons,List.map_nil];refine rP (args:=[_]) (cA6 l) (by simp) ⟨rfl,rfl,rfl,rfl⟩ ?_;refine AX (hK' _ _ ?_);clear hK' K';simp only[sE,↓reduceIte,simprocAttr,rI];refine AX (hK _ _ _ ?_);clear hK K;refine aL ?_;refine tZ 36 0 4 1 rfl rfl rfl rfl ?_;refine yW (ids:=[44]) (fin [(3,.ptr 0 0),(5,.ptr 20 0),(6,.ptr 36 0)]) (fun i=>fob [(0,.box 24 (.c (.slc (tr.map bC)))),(20,.box 3 (.c (.int .i64 (lv (l.take (l.length-i)):Nat)))),(36,.box 24 (gY 48 (bZ l tr i).1.length 1 (bZ l tr i).2)),(48,.row 4 1 ((bZ l tr i).1.map bC))]) 20000 (fun i=>EvOk l tr i) (EvOk.zero l tr) (bH0 l (by omega)) rfl rfl (by decide) ?_ ?_ ?_ ?_ ?_ rfl rfl ?_ ?_
 ·
  intro j x hx
  match j,hx with
  |0,hx=>cases hx;rfl
 · exact aN (by omega) (by simp[aY,fin_at,finA_at,upd_at,HV.men,HV.menL,HV.norm,HV.toC,HV.toCL,lY,bZ,cT,List.take_length]) (by simp[aW,fob_at,upd_at,none0_at,bW,HO.men,HV.men,HV.menL,HV.norm,HV.toC,HV.toCL,lY,bZ,cT,List.take_length])
 · intro id hid;simp only[List.mem_cons,List.not_mem_nil,or_false]at hid;subst hid;rfl
 · intro x hx;obtain⟨p,_,rfl⟩:=List.mem_map.1 hx;rfl
 · intro p hp;simp only[List.mem_cons,List.not_mem_nil,or_false]at hp;rcases hp with rfl|rfl<;>exact Nat.le_of_ble_eq_true rfl
 ·
  intro i hi hΦ K hK;have hi2:i<l.length:=by rw[←qN l];exact hi
  have hp:l.length-1-i<l.length:=by omega
  rw[bP4 hi hp];simp only[vX];obtain⟨w,hw⟩: ∃w,w=(bZ l tr i).1:=⟨_,rfl⟩;obtain⟨m,hm⟩: ∃m,m=(bZ l tr i).2:=⟨_,rfl⟩;have hfit:=hΦ.fit;have hsmall:=hΦ.small;rw[←hw,←hm]at hfit;rw[←hw]at hsmall;rw[←hw,←hm];refine aM (by kernel_rfl) ?_;refine TQ rI ?_;refine AX (hK _ _ _ ?_);clear hK K;refine aL ?_;refine aC fun K hK=>?_;refine RF ?_;refine aJ (b:=(l[l.length-1-i].k==1)) rfl (fun hb=>?_) (fun hb=>?_)
  ·
   have hk1:l[l.length-1-i].k=1:=by simpa using hb
   obtain⟨hok,hst⟩:=hΦ.leaf hi2 hk1;rw[←hw,←hm]at hst;have hlv:=aZ2 hp;rw[if_pos hk1,show l.length-1-i+1=l.length-i from by omega]at hlv;have hlb:=aT7 l (l.length-1-i);have hw1:IntKind.i64.wrap ((lv (l.take (l.length-i)):Int)-1)=((lv (l.take (l.length-1-i)):Nat):Int):=by rw[hlv,cL _ (by omega)];omega
   obtain⟨x,hx⟩: ∃x,x=lv (l.take (l.length-1-i)):=⟨_,rfl⟩;have hxl:l.length-(i+1)=l.length-1-i:=by omega
   rw[←hx]at hw1 hst;clear hb;have F:=aI rI hw1;refine RF ?_;by_cases hlt:x<tr.length
   ·
    by_cases hmw:m=w.length
    ·
     subst hmw;have hg:tr.getD x false=tr[x]:=by simp[hlt]
     refine aC fun K hK=>eL mixed [(0,[],[]),(1,[],[]),(2,[],[]),(3,[],[]),(4,[],[]),(5,[],[]),(6,[],[]),(7,[],[]),(8,[],[]),(9,[],[]),(10,[],[]),(11,[],[]),(12,[],[]),(13,[],[])] [0,0,0,4,14,30,62,62,254,510,1022,2046,4095,8191] (by kernel_rfl) (by kernel_rfl) (by kernel_rfl) (by kernel_rfl) rfl (by kernel_rfl) ?_;iterate 14 refine WG0 ?_ (e:=fun _ h_=>by simp only[sH,↓sP,sA,tyS,simprocAttr,rI,Int.natCast_nonneg,Int.ofNat_lt,hlt,bR hlt,bC,cT,cA,bQ,bU];exact AX h_)
     simp only[sE,↓reduceIte,simprocAttr,rI];refine AX (hK _ _ _ ?_);clear hK K;refine bA ?_;refine TQ rI ?_;clear hK K;rw[hg,aA4]at hst;refine⟨(show Fits 20000 _ _ (fin []) _ 20000 from aN (by omega) trivial ?_),hok⟩;rw[hst,hxl,←hx];simp[aW,fob_at,upd_at,none0_at,bW,HO.men,HV.men,HV.menL,HV.norm,HV.toC,HV.toCL,cT,bC]
    have hg:tr.getD x false=tr[x]:=by simp[hlt]
    have hmw2:m+1≤w.length:=by omega
    have hw0:0<w.length:=by omega
    have hrow:(lC w m tr[x]).map bC=(w.map bC).take m++[.bool tr[x]]++(w.map bC).drop (m+1):=by simp[lC,List.map_take,List.map_drop,bC]
    refine aC fun K hK=>eL mixed [(0,[],[]),(1,[],[]),(2,[],[]),(3,[],[]),(4,[],[]),(5,[],[]),(6,[],[]),(7,[],[]),(8,[],[]),(9,[],[]),(10,[],[]),(11,[],[]),(12,[],[]),(13,[],[])] [0,0,0,4,14,30,62,62,254,510,1022,2046,4095,8191] (by kernel_rfl) (by kernel_rfl) (by kernel_rfl) (by kernel_rfl) rfl (by kernel_rfl) ?_;iterate 12 refine WG0 ?_ (e:=fun _ h_=>by simp only[sH,↓sP,sA,tyS,simprocAttr,rI,Int.natCast_nonneg,Int.ofNat_lt,hlt,bR hlt,bC,cN hmw,cA,bQ,bU,hw0,hmw2];exact AX h_)
    refine eN (g:=none) rfl rfl fun K' hK'=>?_;simp only[sN,↓hopH.eq_def,sH,↓sP,sA,tyS,simprocAttr,rI,Int.natCast_nonneg,Int.ofNat_lt,hlt,bR hlt,bC,cN hmw,cA,bQ,bU,hw0,hmw2];refine AX (hK' _ _ ?_);clear hK' K';refine WG0 ?_ (e:=fun _ h_=>by simp only[sH,↓sP,sA,tyS,simprocAttr,rI,Int.natCast_nonneg,Int.ofNat_lt,hlt,bR hlt,bC,cN hmw,cA,bQ,bU,hw0,hmw2];exact AX h_);simp only[sE,↓reduceIte,simprocAttr,rI];refine AX (hK _ _ _ ?_);clear hK K;refine bA ?_;refine TQ rI ?_;clear hK K;rw[hg]at hst;refine⟨(show Fits 20000 _ _ (fin []) _ 20000 from aN (by omega) trivial ?_),hok⟩;rw[hst,hxl,←hx];simp[aW,fob_at,upd_at,none0_at,bW,HO.men,HV.men,HV.menL,HV.norm,HV.toC,HV.toCL,lD hmw2,hrow,oG,bU]
   by_cases hmw:m=w.length
   ·
    subst hmw;have hg:tr.getD x false=false:=by simp[List.getD_eq_getElem?_getD,List.getElem?_eq_none (Nat.le_of_not_lt hlt)]
    have hlt':decide ((x:Int)<tr.length)=false:=by simp;omega
    refine aC fun K hK=>eL mixed [(0,[],[]),(1,[],[]),(2,[],[]),(3,[],[]),(4,[],[]),(5,[],[]),(6,[],[]),(7,[],[]),(8,[],[]),(9,[],[]),(10,[],[]),(11,[],[]),(12,[],[]),(13,[],[])] [0,0,0,4,14,30,62,62,254,510,1022,2046,4095,8191] (by kernel_rfl) (by kernel_rfl) (by kernel_rfl) (by kernel_rfl) rfl (by kernel_rfl) ?_;have F:=aI rI (aI hlt' (aI @cT (aI @cA (aI @bQ @bU))));iterate 14 refine WGF ?_
    simp only[sE,↓reduceIte,simprocAttr,rI];refine AX (hK _ _ _ ?_);clear hK K;refine bA ?_;refine TQ rI ?_;clear hK K;rw[hg,aA4]at hst;refine⟨(show Fits 20000 _ _ (fin []) _ 20000 from aN (by omega) trivial ?_),hok⟩;rw[hst,hxl,←hx];simp[aW,fob_at,upd_at,none0_at,bW,HO.men,HV.men,HV.menL,HV.norm,HV.toC,HV.toCL,cT,bC]
   have hg:tr.getD x false=false:=by simp[List.getD_eq_getElem?_getD,List.getElem?_eq_none (Nat.le_of_not_lt hlt)]
   have hlt':decide ((x:Int)<tr.length)=false:=by simp;omega
   have hmw2:m+1≤w.length:=by omega
   have hw0:0<w.length:=by omega
   have hrow:(lC w m false).map bC=(w.map bC).take m++[.bool false]++(w.map bC).drop (m+1):=by simp[lC,List.map_take,List.map_drop,bC]
   refine aC fun K hK=>eL mixed [(0,[],[]),(1,[],[]),(2,[],[]),(3,[],[]),(4,[],[]),(5,[],[]),(6,[],[]),(7,[],[]),(8,[],[]),(9,[],[]),(10,[],[]),(11,[],[]),(12,[],[]),(13,[],[])] [0,0,0,4,14,30,62,62,254,510,1022,2046,4095,8191] (by kernel_rfl) (by kernel_rfl) (by kernel_rfl) (by kernel_rfl) rfl (by kernel_rfl) ?_;iterate 12 refine WG0 ?_ (e:=fun _ h_=>by simp only[sH,↓sP,sA,tyS,simprocAttr,rI,hlt',cN hmw,cA,bQ,bU,hw0,hmw2];exact AX h_)
   refine eN (g:=none) rfl rfl fun K' hK'=>?_;simp only[sN,↓hopH.eq_def,sH,↓sP,sA,tyS,simprocAttr,rI,hlt',cN hmw,cA,bQ,bU,hw0,hmw2];refine AX (hK' _ _ ?_);clear hK' K';refine WG0 ?_ (e:=fun _ h_=>by simp only[sH,↓sP,sA,tyS,simprocAttr,rI,hlt',cN hmw,cA,bQ,bU,hw0,hmw2];exact AX h_);simp only[sE,↓reduceIte,simprocAttr,rI];refine AX (hK _ _ _ ?_);clear hK K;refine bA ?_;refine TQ rI ?_;clear hK K;rw[hg]at hst;refine⟨(show Fits 20000 _ _ (fin []) _ 20000 from aN (by omega) trivial ?_),hok⟩;rw[hst,hxl,←hx];simp[aW,fob_at,upd_at,none0_at,bW,HO.men,HV.men,HV.menL,HV.norm,HV.toC,HV.toCL,lD hmw2,hrow,oG,bU]
  have hk1:l[l.length-1-i].k≠1:=by simpa using hb
  obtain⟨hcm,hok,hst⟩:=hΦ.inner ht hi2 hk1;rw[←hw,←hm]at hst;rw[←hm]at hcm;obtain⟨c1,c2,c3,c4⟩:=dO (ht.node _ (List.getElem_mem hp));have c5:=c4 hk1;have hlv:=aZ2 hp;rw[if_neg hk1,Nat.add_zero,show l.length-1-i+1=l.length-i from by omega]at hlv;have hxl:l.length-(i+1)=l.length-1-i:=by omega
  obtain⟨f,hf⟩: ∃f,f=m-l[l.length-1-i].c.toNat:=⟨_,rfl⟩;have hfc:m-f=l[l.length-1-i].c.toNat:=by omega
  rw[←hf,←hfc]at hst;have hw2:IntKind.i64.wrap ((m:Int)-l[l.length-1-i].c)=(f:Int):=by rw[cL _ (by omega)];omega
  have hf1:f+1≤w.length:=by omega
  have hfw:f≤w.length:=by omega
  have hfm:f≤m:=by omega
  have hw0:0<w.length:=by omega
  obtain⟨h,hh⟩: ∃h,h=kU l[l.length-1-i] ((w.drop f).take (m-f)):=⟨_,rfl⟩;rw[←hh]at hst;have hrow:(lC w f h).map bC=(w.map bC).take f++[.bool h]++(w.map bC).drop (f+1):=by simp[lC,List.map_take,List.map_drop,bC]
  clear hb;refine aK ?_;refine TQ rI ?_;refine AX (hK _ _ _ ?_);clear hK K;by_cases hmw:m=w.length
  ·
   rw[←hmw]at hw0 hf1 hfw;refine aC fun K hK=>Rg ?_;iterate 6 refine S0 ?_ (e:=fun _ h_=>by simp only[sH,↓sP,sA,tyS,simprocAttr,rI,cT,←hmw,List.length_map,hw2];exact AX h_)
   simp only[sE,↓reduceIte,simprocAttr,rI];refine AX (hK _ _ _ ?_);clear hK K;refine eL mixed [(0,[],[]),(1,[],[]),(2,[],[]),(3,[],[]),(4,[],[]),(5,[],[]),(6,[],[]),(7,[],[0,1,2]),(8,[],[]),(9,[],[]),(10,[],[])] [0,0,3,0,0,0,48,120,248,511,1023] (by kernel_rfl) (by kernel_rfl) (by kernel_rfl) (by kernel_rfl) rfl (by kernel_rfl) ?_;iterate 7 refine WG0 ?_ (e:=fun _ h_=>by simp only[sH,↓sP,sA,tyS,simprocAttr,rI,cT,cA,bQ,bU,←hmw,List.length_map,Int.natCast_nonneg,Int.ofNat_le,hfw];exact AX h_)
   refine oL (g:=none) rfl rfl fun K' hK'=>?_;simp only[sN,↓hopH.eq_def,sH,↓sP,sA,tyS,simprocAttr,rI,cT,cA,bQ,bU,←hmw,List.length_map,Int.natCast_nonneg,Int.ofNat_le,hfw];refine aJ7 [48] (aP1 l[l.length-1-i] w f m (by omega) (by omega) (by omega) (by omega)) (by first|rfl|(rw[←hmw];rfl)) ⟨rfl,trivial⟩ (by simp) ?_ ?_ ?_ ?_ ?_
   ·
    intro j hj
    match j,hj with
    |0,_=>exact .inr ⟨by decide,fun r os' h=>by rw[h.2]⟩
   · exact⟨rfl,rfl,rfl,rfl⟩
   · simp[eC,HO.men]
   · simp[HV.menL,HV.men]
   rintro r os' ⟨rfl,rfl⟩;rw[←hh,show∀n ob,jN (sub [48] n) ob 0 [.row 4 1 (w.map bC)]=upd ob 48 (some (.row 4 1 (w.map bC)))from fun _ _=>rfl,show∀n b,HV.ren (sub [48] n) (.c b)= .c b from fun _ _=>rfl];refine AX (hK' _ _ ?_);clear hK' K';refine WG0 ?_ (e:=fun _ h_=>by simp only[sH,↓sP,sA,tyS,simprocAttr,rI,cT,cA,bQ,bU,←hmw,List.length_map,Int.natCast_nonneg,Int.ofNat_le,hfw];exact AX h_);refine eN (g:=none) rfl rfl fun K' hK'=>?_;simp only[sN,↓hopH.eq_def,sH,↓sP,sA,tyS,simprocAttr,rI,cT,cA,bQ,bU,←hmw,List.length_map,Int.natCast_nonneg,Int.ofNat_le,hfw];refine AX (hK' _ _ ?_);clear hK' K';refine WG0 ?_ (e:=fun _ h_=>by simp only[sH,↓sP,sA,tyS,simprocAttr,rI,cT,cA,bQ,bU,←hmw,List.length_map,Int.natCast_nonneg,Int.ofNat_le,hfw];exact AX h_);simp only[sE,↓reduceIte,simprocAttr,rI];refine⟨(show Fits 20000 _ _ (fin []) _ 20000 from aN (by omega) trivial ?_),hok⟩;rw[hst,hxl,hlv];simp[aW,fob_at,upd_at,none0_at,bW,HO.men,HV.men,HV.menL,HV.norm,HV.toC,HV.toCL,lD (show f+1≤w.length by omega),hrow,oG,bU,←hmw]
  refine aC fun K hK=>Rg ?_;iterate 6 refine S0 ?_ (e:=fun _ h_=>by simp only[sH,↓sP,sA,tyS,simprocAttr,rI,cN hmw,List.length_map,hw0,hfit,Nat.zero_le,List.length_take,List.length_drop,Nat.sub_zero,Nat.min_eq_left hfit,hw2];exact AX h_)
  simp only[sE,↓reduceIte,simprocAttr,rI];refine AX (hK _ _ _ ?_);clear hK K;refine eL mixed [(0,[],[]),(1,[],[]),(2,[],[]),(3,[],[]),(4,[],[]),(5,[],[]),(6,[],[]),(7,[],[0,1,2]),(8,[],[]),(9,[],[]),(10,[],[])] [0,0,3,0,0,0,48,120,248,511,1023] (by kernel_rfl) (by kernel_rfl) (by kernel_rfl) (by kernel_rfl) rfl (by kernel_rfl) ?_;iterate 2 refine WG0 ?_ (e:=fun _ h_=>by simp only[sH,↓sP,sA,tyS,simprocAttr,rI,cA,bQ,bU,cN hmw,List.length_map,Int.natCast_nonneg,Int.ofNat_le,hfw,hfm];exact AX h_)
  refine eN (g:=none) rfl rfl fun K' hK'=>?_;simp only[sN,↓hopH.eq_def,sH,↓sP,sA,tyS,simprocAttr,rI,cA,bQ,bU,cN hmw,List.length_map,Int.natCast_nonneg,Int.ofNat_le,hfw,hfm];refine AX (hK' _ _ ?_);clear hK' K';iterate 3 refine WG0 ?_ (e:=fun _ h_=>by simp only[sH,↓sP,sA,tyS,simprocAttr,rI,cA,bQ,bU,cN hmw,List.length_map,Int.natCast_nonneg,Int.ofNat_le,hfw,hfm];exact AX h_)
  refine eN (g:=none) rfl rfl fun K' hK'=>?_;simp only[sN,↓hopH.eq_def,sH,↓sP,sA,tyS,simprocAttr,rI,cA,bQ,bU,cN hmw,List.length_map,Int.natCast_nonneg,Int.ofNat_le,hfw,hfm];refine AX (hK' _ _ ?_);clear hK' K';refine oL (g:=none) rfl rfl fun K' hK'=>?_;simp only[sN,↓hopH.eq_def,sH,↓sP,sA,tyS,simprocAttr,rI,cA,bQ,bU,cN hmw,List.length_map,Int.natCast_nonneg,Int.ofNat_le,hfw,hfm];refine aJ7 [48] (aP1 l[l.length-1-i] w f m (by omega) (by omega) (by omega) (by omega)) (by first|rfl|(rw[←hmw];rfl)) ⟨rfl,trivial⟩ (by simp) ?_ ?_ ?_ ?_ ?_
  ·
   intro j hj
   match j,hj with
   |0,_=>exact .inr ⟨by decide,fun r os' h=>by rw[h.2]⟩
  · exact⟨rfl,rfl,rfl,rfl⟩
  · simp[eC,HO.men]
  · simp[HV.menL,HV.men]
  rintro r os' ⟨rfl,rfl⟩;rw[←hh,show∀n ob,jN (sub [48] n) ob 0 [.row 4 1 (w.map bC)]=upd ob 48 (some (.row 4 1 (w.map bC)))from fun _ _=>rfl,show∀n b,HV.ren (sub [48] n) (.c b)= .c b from fun _ _=>rfl];refine AX (hK' _ _ ?_);clear hK' K';refine WG0 ?_ (e:=fun _ h_=>by simp only[sH,↓sP,sA,tyS,simprocAttr,rI,cA,bQ,bU,cN hmw,List.length_map,Int.natCast_nonneg,Int.ofNat_le,hfw,hfm];exact AX h_);refine eN (g:=none) rfl rfl fun K' hK'=>?_;simp only[sN,↓hopH.eq_def,sH,↓sP,sA,tyS,simprocAttr,rI,cA,bQ,bU,cN hmw,List.length_map,Int.natCast_nonneg,Int.ofNat_le,hfw,hfm];refine AX (hK' _ _ ?_);clear hK' K';refine WG0 ?_ (e:=fun _ h_=>by simp only[sH,↓sP,sA,tyS,simprocAttr,rI,cA,bQ,bU,cN hmw,List.length_map,Int.natCast_nonneg,Int.ofNat_le,hfw,hfm];exact AX h_);simp only[sE,↓reduceIte,simprocAttr,rI];refine⟨(show Fits 20000 _ _ (fin []) _ 20000 from aN (by omega) trivial ?_),hok⟩;rw[hst,hxl,hlv];simp[aW,fob_at,upd_at,none0_at,bW,HO.men,HV.men,HV.menL,HV.norm,HV.toC,HV.toCL,lD hf1,hrow,oG,bU]
 intro hΦ;simp only[sE,↓reduceIte,simprocAttr,rI];have hfin:=hΦ;rw[qN]at hfin;obtain⟨h1,h0,h2⟩:=hfin.fin ht;rw[qN,h1];obtain⟨w,hw⟩: ∃w,w=(bZ l tr l.length).1:=⟨_,rfl⟩;rw[←hw]at h0;have h3:wJ l tr=w[0]:=by rw[h2];simp only[hw]
 rw[←hw];refine AX (hK _ _ _ ?_);clear hK K;by_cases hw1:w.length=1
 ·
  rw[hw1];refine aC fun K hK=>Rg ?_;iterate 4 refine S0 ?_ (e:=fun _ h_=>by simp only[sH,↓sP,sA,tyS,simprocAttr,rI,cT,bR h0,bC,Nat.lt_irrefl];exact AX h_)
  simp only[sE,↓reduceIte,simprocAttr,rI];refine AX (hK _ _ _ ?_);clear hK K;refine aF ?_;simp only[gK,Tryz.results20,fL,gJ,eV,↓sP,sA,tyS,simprocAttr,rI];exact aG [] (.bool w[0]) rfl (by rw[h3])
 refine aC fun K hK=>Rg ?_;iterate 4 refine S0 ?_ (e:=fun _ h_=>by simp only[sH,↓sP,sA,tyS,simprocAttr,rI,cN (Ne.symm hw1),bR h0,bC,h0];exact AX h_)
 simp only[sE,↓reduceIte,simprocAttr,rI];refine AX (hK _ _ _ ?_);clear hK K;refine aF ?_;simp only[gK,Tryz.results20,fL,gJ,eV,↓sP,sA,tyS,simprocAttr,rI];exact aG [] (.bool w[0]) rfl (by rw[h3])
theorem aF6 (n:Int):bV Tryz.prog 49 [.int .i64 n] (fun v=>v=(aM2 n).cv):=by
 refine FW Tryz.func49 ?_;refine R0 ?_;refine aC fun K hK=>Rg ?_;iterate 4 refine S0 ?_
 refine T2 (hK _ _ _ ?_);clear hK K;refine aF (RT Tryz.results49 ?_);exact aG [] (aM2 n).cv rfl rfl
theorem bS7 :PoSz awP:=⟨by decide,by decide,by decide,by decide⟩
theorem bS8 : ∀n∈awT,n.q.t.length<2^63:=by decide
theorem bS9 :xQ awP=0:=by decide+kernel
theorem cF7 :(rW awP).length<2^40:=by decide+kernel
theorem aP2 :lN Tryz.prog 22 tabs [] (fun v=>v= .bool true):=by
 refine bS (args:=[]) Tryz.func22 rfl (by kernel_rfl) (fE tabs []) (Nat.le_of_ble_eq_true rfl) ?_;unfold eK;obtain⟨aw1,aw2,aw3⟩:=bF0 bS9;refine R0 ?_;refine aC fun K hK=>bH (by kernel_rfl) ?_;simp only[sR,simprocAttr];refine SG0 ?_;refine bK (g:=none) rfl rfl fun K' hK'=>T5 ?_;refine C1 (aF6 1) ?_;rintro u rfl;refine AX (hK' _ _ ?_);clear hK' K';refine bK (g:=none) rfl rfl fun K' hK'=>T5 ?_;refine C1 (aF6 2) ?_;rintro u rfl;refine AX (hK' _ _ ?_);clear hK' K';refine bK (g:=none) rfl rfl fun K' hK'=>T5 ?_;refine C1 (aF6 3) ?_;rintro u rfl;refine AX (hK' _ _ ?_);clear hK' K';refine cH (g:=none) 21 rfl rfl fun K' hK'=>?_;simp only[eX,gZ,sH,↓sP,sA,tyS,simprocAttr];repeat refine AI ?_
 refine cF (by first|rfl|simp) ?_;try simp only[sH,↓sP,sA,tyS,simprocAttr]
 refine AX (hK' _ _ ?_);clear hK' K';refine SG0 ?_;refine T2 (hK _ _ _ ?_);clear hK K;refine aC fun K hK=>bH (by kernel_rfl) ?_;simp only[sR,simprocAttr];iterate 2 refine SG0 ?_
 refine cH (g:=none) 37 rfl rfl fun K' hK'=>?_;simp only[eX,gZ,sH,↓sP,sA,tyS,simprocAttr];repeat refine AI ?_
 refine cF (by first|rfl|simp) ?_;try simp only[sH,↓sP,sA,tyS,simprocAttr]
 refine AX (hK' _ _ ?_);clear hK' K';iterate 3 refine SG0 ?_
 refine T2 (hK _ _ _ ?_);clear hK K;refine aC fun K hK=>Rg ?_;refine S0 ?_;refine HS rfl rfl fun K' hK'=>T5 ?_;refine tC (args:=[_]) 0 (bA1 awP bS7) rfl (by simp) ⟨rfl,rfl,rfl,rfl⟩ ?_;rintro u v ⟨rfl,rfl⟩;rw[bS9];refine AX (hK' _ _ ?_);clear hK' K';iterate 5 refine S0 ?_
 refine T2 (hK _ _ _ ?_);clear hK K;refine aC fun K hK=>Rg ?_;have F:=@dV;refine SF ?_;refine HS rfl rfl fun K' hK'=>T6 ?_;refine aP0 (args:=[_]) 0 (cA5 (rW awP) cF7) rfl (by simp) ⟨rfl,rfl,rfl,rfl⟩ ?_;rintro u v x ⟨rfl,rfl,rfl⟩;rw[aw1,aw2,aw3];refine AX (hK' _ _ ?_);clear hK' K';iterate 8 refine SF ?_
 refine T2 (hK _ _ _ ?_);clear hK K;refine aC fun K hK=>bH (by kernel_rfl) ?_;simp only[sR,simprocAttr];have F:=aI @List.length_map.{0,0} (aI @kX (aI @qG (show awP.r.length=1 from rfl)));refine SGF ?_;refine bK (g:=none) rfl rfl fun K' hK'=>T6 ?_;refine C1 (uF awT bS8) ?_;rintro u rfl;rw[cE3];refine AX (hK' _ _ ?_);clear hK' K';iterate 2 refine SGF ?_
 refine bK (g:=some (30,true)) rfl rfl fun K' hK'=>T6 ?_;refine C1 (sC awP bS7) ?_;rintro u rfl;rw[cE4];refine AX (hK' _ _ ?_);clear hK' K';iterate 17 refine SGF ?_
 refine cH (g:=some (48,true)) 209 rfl rfl fun K' hK'=>?_;simp only[eX,gZ,sH,↓sP,sA,tyS,simprocAttr,List.length_map,kX,qG,(show awP.r.length=1 from rfl)];repeat refine AI ?_
 refine cF (by first|rfl|simp) ?_;try simp only[sH,↓sP,sA,tyS,simprocAttr,List.length_map,kX,qG,(show awP.r.length=1 from rfl)]
 refine AX (hK' _ _ ?_);clear hK' K';refine bK (g:=some (48,true)) rfl rfl fun K' hK'=>T6 ?_;refine C2 (bA3 awT bS8 [true,false,true] (by decide)) ?_;rintro u rfl;rw[bO0];refine AX (hK' _ _ ?_);clear hK' K';iterate 3 refine SGF ?_
 refine cH (g:=some (53,true)) 229 rfl rfl fun K' hK'=>?_;simp only[eX,gZ,sH,↓sP,sA,tyS,simprocAttr,List.length_map,kX,qG,(show awP.r.length=1 from rfl)];repeat refine AI ?_
 refine cF (by first|rfl|simp) ?_;try simp only[sH,↓sP,sA,tyS,simprocAttr,List.length_map,kX,qG,(show awP.r.length=1 from rfl)]
 refine AX (hK' _ _ ?_);clear hK' K';refine bK (g:=some (53,true)) rfl rfl fun K' hK'=>T6 ?_;refine C2 (bA3 awT bS8 [true] (by decide)) ?_;rintro u rfl;rw[bO1];refine AX (hK' _ _ ?_);clear hK' K';iterate 4 refine SGF ?_
 refine bK (g:=some (59,true)) rfl rfl fun K' hK'=>T6 ?_;refine C3 (aZ8 awP bS7 [112,114,111,100,47,101,117] [119,101,98]) ?_;rintro u rfl;rw[cE5];refine AX (hK' _ _ ?_);clear hK' K';iterate 4 refine SGF ?_
 refine bK (g:=some (64,true)) rfl rfl fun K' hK'=>T6 ?_;refine C1 (zW awT bS8) ?_;rintro u rfl;refine AX (hK' _ _ ?_);clear hK' K';iterate 5 refine SGF ?_
 refine bK (g:=some (70,true)) rfl rfl fun K' hK'=>T6 ?_;refine C2 (aN5 awT bS8 0) ?_;rintro u rfl;refine AX (hK' _ _ ?_);clear hK' K';iterate 4 refine SGF ?_
 refine T2 (hK _ _ _ ?_);clear hK K;refine aF (RT Tryz.results22 ?_);exact dC [] (.bool true) rfl rfl (by simp) rfl
theorem aV0 (L:List Int)(ns im:aH)(raw:Bool):lN Tryz.prog 11 tabs [.slc (L.map (.int .i64)),.str ns,.str im,.bool raw] (fun v=>v= .bool true):=by
 refine bS (args:=[.c (.slc (L.map (.int .i64))),.c (.str ns),.c (.str im),.c (.bool raw)]) Tryz.func11 rfl (by kernel_rfl) (fE tabs [.slc (L.map (.int .i64)),.str ns,.str im,.bool raw]) (Nat.le_of_ble_eq_true rfl) ?_;unfold eK;refine R0 ?_;refine aC fun K hK=>Rg ?_;have F:=@denilL_int;refine SF ?_;refine HS rfl rfl fun K' hK'=>T6 ?_;refine fT [] (bZ1 L 200) rfl trivial (by simp) (by simp) ⟨rfl,rfl,rfl,rfl⟩ (by simp[eC]) (by simp[HV.menL,HV.men]) ?_;rintro r os' ⟨rfl,rfl⟩;rw[bR0,bG0];refine AX (hK' _ _ ?_);clear hK' K';refine SF ?_;refine T2 (hK _ _ _ ?_);clear hK K;refine aC fun K hK=>Rg ?_;refine S0 ?_;refine HS rfl rfl fun K' hK'=>T5 ?_;refine bI (args:=[_]) (aU4 (L.take 200) 0 1 (by omega)) rfl (by simp) ⟨rfl,rfl,rfl,rfl⟩ ?_;rintro u v' ⟨rs,a',rfl,rfl,hrs,ha'⟩;obtain⟨p,hpd⟩: ∃p:Po,p=⟨[112],1,rs⟩:=⟨_,rfl⟩;have hp:PoSz p:=by rw[hpd];exact hrs.sz 1
 rw[←hpd];refine AX (hK' _ _ ?_);clear hK' K';iterate 2 refine S0 ?_
 refine T2 (hK _ _ _ ?_);clear hK K;refine aC fun K hK=>?_;have key: ∀(ns im:aH) fr ob nx,Fits 1 fr ob (fin [(1,.c (.str ns)),(2,.c (.str im)),(10,.ptr 25 0)]) (fob [(0,.tab tabs),(25,.box 45 (.c p.cv))]) 600→K fr ob nx:=by
  rintro ns im fr ob nx hf;refine hK _ _ _ (bG hf ?_);clear hf hK K;refine aC fun K hK=>?_;refine aC fun K hK=>?_;have key: ∀(b:Bool) fr ob nx,Fits 1 fr ob (fin [(1,.c (.str ns)),(2,.c (.str im)),(10,.ptr 25 0),(30,.c (.bool b))]) (fob [(0,.tab tabs),(25,.box 45 (.c p.cv))]) 700→K fr ob nx:=by
   rintro b fr ob nx hf;refine hK _ _ _ (bG hf ?_);clear hf hK K;refine aJ (b:=b) rfl (fun hb=>?_) (fun hb=>?_)
   · refine aC fun K hK=>Rg ?_;refine HS rfl rfl fun K' hK'=>T5 ?_;refine eH (args:=[]) 0 aP2 rfl (by simp) ⟨rfl,rfl,rfl,rfl⟩ ?_;rintro u rfl;refine AX (hK' _ _ ?_);clear hK' K';refine S0 ?_;refine T2 (hK _ _ _ ?_);clear hK K;refine aF (RT Tryz.results11 ?_);exact dC [] (.bool true) rfl rfl (by simp) rfl
   refine aK ?_;refine T0 (hK _ _ _ ?_);clear hK K;refine aC fun K hK=>DW [(0,[],[]),(1,[],[]),(2,[],[]),(4,[],[]),(5,[],[]),(6,[],[]),(3,[],[4,5,6]),(7,[],[]),(8,[],[]),(9,[],[]),(10,[],[]),(11,[],[]),(12,[],[])] [0,0,0,7,0,0,0,127,255,511,1023,2047,4095] ?_;have F:=@beq_self_eq_true.{0};iterate 6 refine WF ?_
   refine cC (g:=none) rfl rfl fun K' hK'=>T6 ?_;refine C3 (aZ8 p hp ns im) ?_;rintro u rfl;refine AX (hK' _ _ ?_);clear hK' K';refine cC (g:=none) rfl rfl fun K' hK'=>T6 ?_;refine C3 (bZ6 p hp ns im) ?_;rintro u rfl;refine AX (hK' _ _ ?_);clear hK' K';iterate 2 refine WF ?_
   refine cC (g:=some (41,true)) rfl rfl fun K' hK'=>T6 ?_;refine eH (args:=[]) 0 aP2 rfl (by simp) ⟨rfl,rfl,rfl,rfl⟩ ?_;rintro u rfl;refine AX (hK' _ _ ?_);clear hK' K';iterate 2 refine WF ?_
   refine T2 (hK _ _ _ ?_);clear hK K;refine aF (RT Tryz.results11 ?_);exact dC [] (.bool true) rfl rfl (by simp) rfl
  refine Rg ?_;iterate 4 refine S0 ?_
  refine aE 25 rfl (fun h5_25=>?_) (fun h5_25=>?_)
  ·
   have F:=h5_25;iterate 4 refine SF ?_
   refine T4 ?_;exact key true _ _ _ (fF)
  have F:=h5_25;iterate 4 refine SF ?_
  refine aE 29 rfl (fun h5_29=>?_) (fun h5_29=>?_)
  · simp only[h5_29];refine T4 ?_;exact key true _ _ _ (fF)
  simp only[h5_29];refine T4 ?_;exact key false _ _ _ (fF)
 refine R0 ?_;refine aJ (b:=_) rfl (fun hb=>?_) (fun hb=>?_)
 ·
  refine bH (by kernel_rfl) ?_;simp only[sR,simprocAttr];refine SG0 ?_;refine cH (g:=none) 45 rfl rfl fun K' hK'=>?_;simp only[eX,gZ,sH,↓sP,sA,tyS,simprocAttr];repeat refine AI ?_
  refine cF (by first|rfl|simp) ?_;try simp only[sH,↓sP,sA,tyS,simprocAttr]
  refine AX (hK' _ _ ?_);clear hK' K';refine bK (g:=none) rfl rfl fun K' hK'=>T5 ?_;refine bI (args:=[_]) (qO (L.take 200) a' [[112,114,111,100],[116,101,115,116],[112,114,111,100,47,101,117],[]] (by omega) (by decide)) rfl (by simp) ⟨rfl,rfl,rfl,rfl⟩ ?_;rintro u v' ⟨b,a3,rfl,hb',rfl,hb3⟩;refine AX (hK' _ _ ?_);clear hK' K';refine SG0 ?_;refine cH (g:=none) 57 rfl rfl fun K' hK'=>?_;simp only[eX,gZ,sH,↓sP,sA,tyS,simprocAttr];repeat refine AI ?_
  refine cF (by first|rfl|simp) ?_;try simp only[sH,↓sP,sA,tyS,simprocAttr]
  refine AX (hK' _ _ ?_);clear hK' K';refine bK (g:=none) rfl rfl fun K' hK'=>T5 ?_;refine bI (args:=[_]) (qO (L.take 200) a3 [[119,101,98],[100,98],[119,101,98,47,120]] (by omega) (by decide)) rfl (by simp) ⟨rfl,rfl,rfl,rfl⟩ ?_;rintro u v' ⟨c,a4,rfl,hc',rfl,hc4⟩;refine AX (hK' _ _ ?_);clear hK' K';iterate 2 refine SG0 ?_
  refine T4 ?_;exact key b c _ _ _ (fF)
 refine aK (T3 ?_);exact key ns im _ _ _ (fF)
set_option maxRecDepth 100000
theorem xV {W:World}(h:laidMetH Tryz.prog Rows.policySelectRow.laid W):Lib.TabIs Tryz.prog W "internal/strconv.uint64pow10" .u64 Lib.pow10Tab:=by
  rw[MakeChecks.laidMetH_plain _ _ _ (by kernel_rfl)]at h;have h2:=laidMet.filter (fun x=>x.1== "internal/strconv.uint64pow10") h;have e:(Rows.policySelectRow.laid.filter fun x=>x.1== "internal/strconv.uint64pow10")=[("internal/strconv.uint64pow10",Lib.tabData .u64 Lib.pow10Tab)]:=by kernel_rfl
  rw[e]at h2;exact Lib.tabIs_of_head aF5 (by kernel_rfl) Tryz.underlying169 Tryz.underlying116 (by kernel_rfl) (by kernel_rfl) h2
theorem mA (H:Type)(enc:TypeId×Value→H)(W:World)(args:Array Value)(ds gs:List (DataW H))(before:List MemPlace)
    (hL:laidMetH Tryz.prog Rows.policySelectRow.laid W)
    (hval: ∀(j:Nat) t v,Tryz.f11.params[j]? =some t→args[j]? =some v→Value.okWide Tryz.prog W .any 0 t v)
    (hW:DataW.Whole enc Tryz.prog Tryz.f11.params.toList Rows.policySelectSpec.vars false W args.toList ds gs before):
    Calls Tryz.prog 11 args W fun e W'=> ∃v,e= .returned v∧Rows.policySelectSpec.post enc Tryz.prog Tryz.f11 false true false false W args v W':=by
  refine bD2 (mm:=6) (tb:=4) (tabs:=tabs) (by kernel_rfl) kids aT8 rfl (by kernel_rfl) Tryz.underlying4 ?_ ?_ ?_ ?_ (fun j t v h1 h2=>?_) hW
  · rw[Tryz.params11]
    intro H ds h
    match ds,h with
    |[c0,c1,c2,c3],_=>exact⟨rfl,rfl,rfl⟩
  · rw[Tryz.params11]
    intro t ht;simp only[List.mem_cons,List.not_mem_nil,or_false]at ht;rcases ht with rfl|rfl|rfl|rfl
    · exact⟨by kernel_rfl,of_decide_eq_true (by kernel_rfl)⟩
    · exact⟨by kernel_rfl,of_decide_eq_true (by kernel_rfl)⟩
    · exact⟨by kernel_rfl,of_decide_eq_true (by kernel_rfl)⟩
    · exact⟨by kernel_rfl,of_decide_eq_true (by kernel_rfl)⟩
  · rw[Tryz.params11]
    intro cs hn hty
    match cs,hn,hty with
    |[c0,c1,c2,c3],_,hty=>
      obtain⟨L,rfl,hw,hl⟩:=bY0 (hty 0 _ c0 rfl rfl);obtain⟨ns,rfl,h1⟩:=(hty 1 _ c1 rfl rfl).of_str Tryz.underlying9;obtain⟨im,rfl,h2⟩:=(hty 2 _ c2 rfl rfl).of_str Tryz.underlying9;obtain⟨raw,rfl⟩:=(hty 3 _ c3 rfl rfl).of_bool Tryz.underlying4;exact aV0 L ns im raw
  · intro x hx
    simp only[tabs,List.mem_cons,List.not_mem_nil,or_false]at hx;rcases hx with rfl
    · exact xN aF5 (xV hL)
  · exact hval j t v h1 h2
open Go.ChangeShapes Go.WideShapes Go.ChangeAt Go.RowKit in
set_option maxRecDepth 100000 in
theorem oH (os:Os)(started:os.Started)(H:Type)(enc:TypeId×Value→H):
    ReturnsInHanded {} Tryz.checked os 11 .any (fun w args=>(Rows.policySelectSpec.pre enc Tryz.prog Tryz.f11 [] false w args∧laidMetH Tryz.prog Rows.policySelectRow.laid w)∧sizedMet enc Tryz.prog Tryz.f11 (OpenSpec.ofChange Rows.policySelectSpec) false w args)
      (Rows.policySelectSpec.post enc Tryz.prog Tryz.f11 false true false false):=by
  refine returnsInHanded_of_change_and (C:=Tryz.checked) (X:=fun w _=>laidMetH Tryz.prog Rows.policySelectRow.laid w) (fun _ _ _ hh h=>h.of_heap hh) own started (by kernel_rfl) Tryz.func11
    (ChangeSpec.witness_shaped (enc:=enc) (C:=Tryz.checked) (os:=os) (X:=fun w _=>laidMetH Tryz.prog Rows.policySelectRow.laid w) false (World.laidAll Tryz.prog os Rows.policySelectRow.laid) #[.slice none 0 0,.string ⟨#[]⟩,.string ⟨#[]⟩,.bool false] 8 (World.laidAll_os _ _ _)
      (World.shaped_of_ZipB (by kernel_rfl) (by kernel_rfl)) (by kernel_rfl) (by kernel_rfl) (by kernel_rfl)
      (by rw[MakeChecks.laidMetH_plain _ _ _ (by kernel_rfl)];exact laidMet_laidAll _ (by kernel_rfl) (by kernel_rfl))) ?_
  intro W base args ds gs before hval hW _ _ hL _;exact mA H enc W args ds gs before hL (fun j t v h1 h2=>(hval j t v h1 h2)) hW
theorem sF :Rows.PolicySelectSaid:=
  OpenClaim.holds_of_wide 11 Tryz.f11 rfl rfl rfl rfl rfl rfl rfl ⟨rfl,rfl,rfl,rfl,rfl⟩ rfl rfl rfl rfl rfl (by kernel_rfl) Tryz.func11 (by kernel_rfl)
    (of_decide_eq_true (by kernel_rfl)) (by unfold Func.isWrapper;first|(rw[if_pos (by decide+kernel)];kernel_rfl)|(rw[if_neg (by decide+kernel)];exact⟨rfl,rfl⟩))
    (fun os started H enc _=>oH os started H enc)
theorem policySelect_said :Rows.PolicySelectCardSaid:=
  Claim7.holds_tied_plain_at .later [] [.data,.data,.data,.data,.pinned] true (true,"ff5d47cd62c7d13f21802cca9c8b9512cc3c2844dd4407b78ea0f3c0525ec3f2") false sF (fun _ h=>by cases h) (by kernel_rfl) (fun _ h=>by cases h) policySelect_row_tie rfl ⟨rfl,rfl⟩ (by kernel_rfl) rfl
    (fun f fn hf hfn=>by
      obtain rfl:f=11:=Option.some.inj ((show Tryz.prog.funcNamed "admission/admissionlaw28.PolicySelect" =some 11 by kernel_rfl).symm.trans hf)|>.symm;obtain rfl:fn=Tryz.f11:=(Option.some.inj (Tryz.func11.symm.trans hfn)).symm;exact⟨by kernel_rfl,fun j t ht=>by
        rw[Tryz.params11]at ht;have hm:t∈[23,9,9,4]:=by simpa using Array.mem_of_getElem? ht
        have hall:([23,9,9,4].all fun u=>!Tryz.prog.wantsStandIn u)=true:=by kernel_rfl
        exact(show Tryz.prog.wantsStandIn t=false by simpa using List.all_eq_true.1 hall t hm)⟩)
    (by kernel_rfl)
#print axioms policySelect_said
end Go.Proofs.YtlldglbooaefhaaGreatDoor
