/- Part of a proof: walks of functions of the program, by contracts, and the rules they use. By an AI agent. -/
import Derived.Test.YtlldglbooaefhaaGreatDoorHzU1
import Derived.Test.YtlldglbooaefhaaGreatDoorPl28l
import Derived.Test.YtlldglbooaefhaaGreatDoorHlTlaw
import Derived.Test.YtlldglbooaefhaaGreatDoorHlIt
import Derived.Test.YtlldglbooaefhaaGreatDoorPl11
set_option linter.unusedSimpArgs false
set_option linter.unusedVariables false
set_option linter.defProp false
namespace Go.Proofs.YtlldglbooaefhaaGreatDoor
open Go Go.Hl Go.Pl
set_option maxRecDepth 10000
set_option maxHeartbeats 16000000
theorem aX (id n sz m:Nat):(cN id n sz m).sto=true:=by unfold cN;split<;>rfl
theorem aQ (id n sz m:Nat):(cN id n sz m).cells=1:=by unfold cN;split<;>rfl
theorem aL (id n sz m:Nat):(cN id n sz m).toC=none:=by unfold cN;split<;>rfl
theorem aW (id n sz:Nat):cN id n sz n= .own id n:=by unfold cN;rw[if_pos rfl]
theorem aY {id n sz m:Nat}(h:m≠n):cN id n sz m= .osl id n 0 sz m:=by unfold cN;rw[if_neg h]
theorem aT {M:Nat→Prop}{id n sz m:Nat}(h:M id):(cN id n sz m).men M:=by unfold cN;split<;>exact h
theorem bE3 (l:List Nd)(hn: ∀n∈l,n.q.t.length<2^63)(tr:List Bool)(htr:tr.length<2^63):cF Tryz.prog 20 [.slc (l.map Nd.cv),.slc (tr.map bC)] (fun v=>v= .bool (xK l tr)):=by
 refine FW Tryz.func20 ?_;have F:=rI;refine RF ?_;refine aB fun K hK=>Rg ?_;refine SF ?_;refine HS rfl rfl fun K' hK'=>T6 ?_;refine C1 (aC7 l hn) ?_;rintro u rfl;refine AX (hK' _ _ ?_);clear hK' K';iterate 3 refine SF ?_
 simp only[sE,↓reduceIte,simprocAttr,rI];refine AX (hK _ _ _ ?_);clear hK K;refine aB fun K hK=>?_;refine RF ?_;refine aG (b:=(((jK l).length:Int)==0)) rfl (fun hb=>?_) (fun hb=>?_)
 ·
  refine RF ?_;refine aE ?_;simp only[fU,Tryz.results20,fI,fT,eW,↓sP,sA,tyS,simprocAttr,rI];have hlv:jK l=[]:=by simpa using hb
  have htf:dS l=false:=by
   cases h:dS l with
   |false=>rfl
   |true=>
    have h1:=aP1 (lJ h);rw[qH h]at hlv;have h2:=lL l 0;rw[hlv]at h2;simp at h2;omega
  exact aH [] (.bool false) rfl (by rw[xK,htf];rfl)
 have htt:dS l=true:=by
  cases h:dS l with
  |true=>rfl
  |false=>rw[uS h]at hb;simp at hb
 have ht:=lJ htt;have hl:=ht.len;have hlen:(jK l).length=lv l:=by rw[qH htt,lL]
 rw[hlen];clear hb;refine aJ ?_;refine TQ rI ?_;refine AX (hK _ _ _ ?_);clear hK K;refine RF ?_;refine aB fun K hK=>?_;refine aB fun K hK=>Rg ?_;refine S0 ?_ (e:=fun _ h_=>by simp only[sH,↓sP,sA,tyS,simprocAttr,rI,denilL_Nd,mU,iD,List.range',List.map_cons,List.map_nil];exact AX h_);refine HS rfl rfl fun K' hK'=>?_;simp only[sH,↓sP,sA,tyS,simprocAttr,rI,denilL_Nd,mU,iD,List.range',List.map_cons,List.map_nil];refine tG (args:=[_]) (cE8 l) (by simp) ⟨rfl,rfl,rfl,rfl⟩ ?_;refine AX (hK' _ _ ?_);clear hK' K';simp only[sE,↓reduceIte,simprocAttr,rI];refine AX (hK _ _ _ ?_);clear hK K;refine aN ?_;refine qX 36 0 4 1 rfl rfl rfl rfl ?_;refine aA5 (ids:=[44]) (fin [(3,.ptr 0 0),(5,.ptr 20 0),(6,.ptr 36 0)]) (fun i=>fob [(0,.box 24 (.c (.slc (tr.map bC)))),(20,.box 3 (.c (.int .i64 (lv (l.take (l.length-i)):Nat)))),(36,.box 24 (cN 48 (cP l tr i).1.length 1 (cP l tr i).2)),(48,.row 4 1 ((cP l tr i).1.map bC))]) 20000 (fun i=>EvOk l tr i) (EvOk.zero l tr) (bL5 l (by omega)) rfl rfl (by decide) ?_ ?_ ?_ ?_ ?_ rfl rfl ?_ ?_
 ·
  intro j x hx
  match j,hx with
  |0,hx=>cases hx;rfl
 · exact aM (by omega) (by simp[aZ,fin_at,finA_at,upd_at,HV.men,HV.menL,HV.norm,HV.toC,HV.toCL,mU,cP,aW,List.take_length]) (by simp[bA,fob_at,upd_at,none0_at,bX,HO.men,HV.men,HV.menL,HV.norm,HV.toC,HV.toCL,mU,cP,aW,List.take_length])
 · intro id hid;simp only[List.mem_cons,List.not_mem_nil,or_false]at hid;subst hid;rfl
 · intro x hx;obtain⟨p,_,rfl⟩:=List.mem_map.1 hx;rfl
 · intro p hp;simp only[List.mem_cons,List.not_mem_nil,or_false]at hp;rcases hp with rfl|rfl<;>exact Nat.le_of_ble_eq_true rfl
 ·
  intro i hi hΦ K hK;have hi2:i<l.length:=by rw[←sD l];exact hi
  have hp:l.length-1-i<l.length:=by omega
  rw[bV1 hi hp];simp only[xC];obtain⟨w,hw⟩: ∃w,w=(cP l tr i).1:=⟨_,rfl⟩;obtain⟨m,hm⟩: ∃m,m=(cP l tr i).2:=⟨_,rfl⟩;have hfit:=hΦ.fit;have hsmall:=hΦ.small;rw[←hw,←hm]at hfit;rw[←hw]at hsmall;rw[←hw,←hm];refine aK (by kernel_rfl) ?_;refine TQ rI ?_;refine AX (hK _ _ _ ?_);clear hK K;refine aN ?_;refine aB fun K hK=>?_;refine RF ?_;refine aG (b:=(l[l.length-1-i].k==1)) rfl (fun hb=>?_) (fun hb=>?_)
  ·
   have hk1:l[l.length-1-i].k=1:=by simpa using hb
   obtain⟨hok,hst⟩:=hΦ.leaf hi2 hk1;rw[←hw,←hm]at hst;have hlv:=bD7 hp;rw[if_pos hk1,show l.length-1-i+1=l.length-i from by omega]at hlv;have hlb:=aX8 l (l.length-1-i);have hw1:IntKind.i64.wrap ((lv (l.take (l.length-i)):Int)-1)=((lv (l.take (l.length-1-i)):Nat):Int):=by rw[hlv,cQ _ (by omega)];omega
   obtain⟨x,hx⟩: ∃x,x=lv (l.take (l.length-1-i)):=⟨_,rfl⟩;have hxl:l.length-(i+1)=l.length-1-i:=by omega
   rw[←hx]at hw1 hst;clear hb;have F:=aI rI hw1;refine RF ?_;by_cases hlt:x<tr.length
   ·
    by_cases hmw:m=w.length
    ·
     subst hmw;have hg:tr.getD x false=tr[x]:=by simp[hlt]
     refine aB fun K hK=>cY mixed [(0,[],[]),(1,[],[]),(2,[],[]),(3,[],[]),(4,[],[]),(5,[],[]),(6,[],[]),(7,[],[]),(8,[],[]),(9,[],[]),(10,[],[]),(11,[],[]),(12,[],[]),(13,[],[])] [0,0,0,4,14,30,62,62,254,510,1022,2046,4095,8191] (by kernel_rfl) (by kernel_rfl) (by kernel_rfl) (by kernel_rfl) rfl (by kernel_rfl) ?_;iterate 14 refine WG0 ?_ (e:=fun _ h_=>by simp only[sH,↓sP,sA,tyS,simprocAttr,rI,Int.natCast_nonneg,Int.ofNat_lt,hlt,bS hlt,bC,aW,aX,aQ,aL];exact AX h_)
     simp only[sE,↓reduceIte,simprocAttr,rI];refine AX (hK _ _ _ ?_);clear hK K;refine bJ ?_;refine TQ rI ?_;clear hK K;rw[hg,aD2]at hst;refine⟨(show Fits 20000 _ _ (fin []) _ 20000 from aM (by omega) trivial ?_),hok⟩;rw[hst,hxl,←hx];simp[bA,fob_at,upd_at,none0_at,bX,HO.men,HV.men,HV.menL,HV.norm,HV.toC,HV.toCL,aW,bC]
    have hg:tr.getD x false=tr[x]:=by simp[hlt]
    have hmw2:m+1≤w.length:=by omega
    have hw0:0<w.length:=by omega
    have hrow:(lS w m tr[x]).map bC=(w.map bC).take m++[.bool tr[x]]++(w.map bC).drop (m+1):=by simp[lS,List.map_take,List.map_drop,bC]
    refine aB fun K hK=>cY mixed [(0,[],[]),(1,[],[]),(2,[],[]),(3,[],[]),(4,[],[]),(5,[],[]),(6,[],[]),(7,[],[]),(8,[],[]),(9,[],[]),(10,[],[]),(11,[],[]),(12,[],[]),(13,[],[])] [0,0,0,4,14,30,62,62,254,510,1022,2046,4095,8191] (by kernel_rfl) (by kernel_rfl) (by kernel_rfl) (by kernel_rfl) rfl (by kernel_rfl) ?_;iterate 12 refine WG0 ?_ (e:=fun _ h_=>by simp only[sH,↓sP,sA,tyS,simprocAttr,rI,Int.natCast_nonneg,Int.ofNat_lt,hlt,bS hlt,bC,aY hmw,aX,aQ,aL,hw0,hmw2];exact AX h_)
    refine bF (g:=none) rfl rfl fun K' hK'=>?_;simp only[sN,↓hopH.eq_def,sH,↓sP,sA,tyS,simprocAttr,rI,Int.natCast_nonneg,Int.ofNat_lt,hlt,bS hlt,bC,aY hmw,aX,aQ,aL,hw0,hmw2];refine AX (hK' _ _ ?_);clear hK' K';refine WG0 ?_ (e:=fun _ h_=>by simp only[sH,↓sP,sA,tyS,simprocAttr,rI,Int.natCast_nonneg,Int.ofNat_lt,hlt,bS hlt,bC,aY hmw,aX,aQ,aL,hw0,hmw2];exact AX h_);simp only[sE,↓reduceIte,simprocAttr,rI];refine AX (hK _ _ _ ?_);clear hK K;refine bJ ?_;refine TQ rI ?_;clear hK K;rw[hg]at hst;refine⟨(show Fits 20000 _ _ (fin []) _ 20000 from aM (by omega) trivial ?_),hok⟩;rw[hst,hxl,←hx];simp[bA,fob_at,upd_at,none0_at,bX,HO.men,HV.men,HV.menL,HV.norm,HV.toC,HV.toCL,lT hmw2,hrow,aT,aL]
   by_cases hmw:m=w.length
   ·
    subst hmw;have hg:tr.getD x false=false:=by simp[List.getD_eq_getElem?_getD,List.getElem?_eq_none (Nat.le_of_not_lt hlt)]
    have hlt':decide ((x:Int)<tr.length)=false:=by simp;omega
    refine aB fun K hK=>cY mixed [(0,[],[]),(1,[],[]),(2,[],[]),(3,[],[]),(4,[],[]),(5,[],[]),(6,[],[]),(7,[],[]),(8,[],[]),(9,[],[]),(10,[],[]),(11,[],[]),(12,[],[]),(13,[],[])] [0,0,0,4,14,30,62,62,254,510,1022,2046,4095,8191] (by kernel_rfl) (by kernel_rfl) (by kernel_rfl) (by kernel_rfl) rfl (by kernel_rfl) ?_;have F:=aI rI (aI hlt' (aI @aW (aI @aX (aI @aQ @aL))));iterate 14 refine WGF ?_
    simp only[sE,↓reduceIte,simprocAttr,rI];refine AX (hK _ _ _ ?_);clear hK K;refine bJ ?_;refine TQ rI ?_;clear hK K;rw[hg,aD2]at hst;refine⟨(show Fits 20000 _ _ (fin []) _ 20000 from aM (by omega) trivial ?_),hok⟩;rw[hst,hxl,←hx];simp[bA,fob_at,upd_at,none0_at,bX,HO.men,HV.men,HV.menL,HV.norm,HV.toC,HV.toCL,aW,bC]
   have hg:tr.getD x false=false:=by simp[List.getD_eq_getElem?_getD,List.getElem?_eq_none (Nat.le_of_not_lt hlt)]
   have hlt':decide ((x:Int)<tr.length)=false:=by simp;omega
   have hmw2:m+1≤w.length:=by omega
   have hw0:0<w.length:=by omega
   have hrow:(lS w m false).map bC=(w.map bC).take m++[.bool false]++(w.map bC).drop (m+1):=by simp[lS,List.map_take,List.map_drop,bC]
   refine aB fun K hK=>cY mixed [(0,[],[]),(1,[],[]),(2,[],[]),(3,[],[]),(4,[],[]),(5,[],[]),(6,[],[]),(7,[],[]),(8,[],[]),(9,[],[]),(10,[],[]),(11,[],[]),(12,[],[]),(13,[],[])] [0,0,0,4,14,30,62,62,254,510,1022,2046,4095,8191] (by kernel_rfl) (by kernel_rfl) (by kernel_rfl) (by kernel_rfl) rfl (by kernel_rfl) ?_;iterate 12 refine WG0 ?_ (e:=fun _ h_=>by simp only[sH,↓sP,sA,tyS,simprocAttr,rI,hlt',aY hmw,aX,aQ,aL,hw0,hmw2];exact AX h_)
   refine bF (g:=none) rfl rfl fun K' hK'=>?_;simp only[sN,↓hopH.eq_def,sH,↓sP,sA,tyS,simprocAttr,rI,hlt',aY hmw,aX,aQ,aL,hw0,hmw2];refine AX (hK' _ _ ?_);clear hK' K';refine WG0 ?_ (e:=fun _ h_=>by simp only[sH,↓sP,sA,tyS,simprocAttr,rI,hlt',aY hmw,aX,aQ,aL,hw0,hmw2];exact AX h_);simp only[sE,↓reduceIte,simprocAttr,rI];refine AX (hK _ _ _ ?_);clear hK K;refine bJ ?_;refine TQ rI ?_;clear hK K;rw[hg]at hst;refine⟨(show Fits 20000 _ _ (fin []) _ 20000 from aM (by omega) trivial ?_),hok⟩;rw[hst,hxl,←hx];simp[bA,fob_at,upd_at,none0_at,bX,HO.men,HV.men,HV.menL,HV.norm,HV.toC,HV.toCL,lT hmw2,hrow,aT,aL]
  have hk1:l[l.length-1-i].k≠1:=by simpa using hb
  obtain⟨hcm,hok,hst⟩:=hΦ.inner ht hi2 hk1;rw[←hw,←hm]at hst;rw[←hm]at hcm;obtain⟨c1,c2,c3,c4⟩:=eI (ht.node _ (List.getElem_mem hp));have c5:=c4 hk1;have hlv:=bD7 hp;rw[if_neg hk1,Nat.add_zero,show l.length-1-i+1=l.length-i from by omega]at hlv;have hxl:l.length-(i+1)=l.length-1-i:=by omega
  obtain⟨f,hf⟩: ∃f,f=m-l[l.length-1-i].c.toNat:=⟨_,rfl⟩;have hfc:m-f=l[l.length-1-i].c.toNat:=by omega
  rw[←hf,←hfc]at hst;have hw2:IntKind.i64.wrap ((m:Int)-l[l.length-1-i].c)=(f:Int):=by rw[cQ _ (by omega)];omega
  have hf1:f+1≤w.length:=by omega
  have hfw:f≤w.length:=by omega
  have hfm:f≤m:=by omega
  have hw0:0<w.length:=by omega
  obtain⟨h,hh⟩: ∃h,h=lM l[l.length-1-i] ((w.drop f).take (m-f)):=⟨_,rfl⟩;rw[←hh]at hst;have hrow:(lS w f h).map bC=(w.map bC).take f++[.bool h]++(w.map bC).drop (f+1):=by simp[lS,List.map_take,List.map_drop,bC]
  clear hb;refine aJ ?_;refine TQ rI ?_;refine AX (hK _ _ _ ?_);clear hK K;by_cases hmw:m=w.length
  ·
   rw[←hmw]at hw0 hf1 hfw;refine aB fun K hK=>Rg ?_;iterate 6 refine S0 ?_ (e:=fun _ h_=>by simp only[sH,↓sP,sA,tyS,simprocAttr,rI,aW,←hmw,List.length_map,hw2];exact AX h_)
   simp only[sE,↓reduceIte,simprocAttr,rI];refine AX (hK _ _ _ ?_);clear hK K;refine cY mixed [(0,[],[]),(1,[],[]),(2,[],[]),(3,[],[]),(4,[],[]),(5,[],[]),(6,[],[]),(7,[],[0,1,2]),(8,[],[]),(9,[],[]),(10,[],[])] [0,0,3,0,0,0,48,120,248,511,1023] (by kernel_rfl) (by kernel_rfl) (by kernel_rfl) (by kernel_rfl) rfl (by kernel_rfl) ?_;iterate 7 refine WG0 ?_ (e:=fun _ h_=>by simp only[sH,↓sP,sA,tyS,simprocAttr,rI,aW,aX,aQ,aL,←hmw,List.length_map,Int.natCast_nonneg,Int.ofNat_le,hfw];exact AX h_)
   refine pK (g:=none) rfl rfl fun K' hK'=>?_;simp only[sN,↓hopH.eq_def,sH,↓sP,sA,tyS,simprocAttr,rI,aW,aX,aQ,aL,←hmw,List.length_map,Int.natCast_nonneg,Int.ofNat_le,hfw];refine aN3 [48] (aS4 l[l.length-1-i] w f m (by omega) (by omega) (by omega) (by omega)) (by first|rfl|(rw[←hmw];rfl)) ⟨rfl,trivial⟩ (by simp) ?_ ?_ ?_ ?_ ?_
   ·
    intro j hj
    match j,hj with
    |0,_=>exact .inr ⟨by decide,fun r os' h=>by rw[h.2]⟩
   · exact⟨rfl,rfl,rfl,rfl⟩
   · simp[fA,HO.men]
   · simp[HV.menL,HV.men]
   rintro r os' ⟨rfl,rfl⟩;rw[←hh,show∀n ob,kZ (sub [48] n) ob 0 [.row 4 1 (w.map bC)]=upd ob 48 (some (.row 4 1 (w.map bC)))from fun _ _=>rfl,show∀n b,HV.ren (sub [48] n) (.c b)= .c b from fun _ _=>rfl];refine AX (hK' _ _ ?_);clear hK' K';refine WG0 ?_ (e:=fun _ h_=>by simp only[sH,↓sP,sA,tyS,simprocAttr,rI,aW,aX,aQ,aL,←hmw,List.length_map,Int.natCast_nonneg,Int.ofNat_le,hfw];exact AX h_);refine bF (g:=none) rfl rfl fun K' hK'=>?_;simp only[sN,↓hopH.eq_def,sH,↓sP,sA,tyS,simprocAttr,rI,aW,aX,aQ,aL,←hmw,List.length_map,Int.natCast_nonneg,Int.ofNat_le,hfw];refine AX (hK' _ _ ?_);clear hK' K';refine WG0 ?_ (e:=fun _ h_=>by simp only[sH,↓sP,sA,tyS,simprocAttr,rI,aW,aX,aQ,aL,←hmw,List.length_map,Int.natCast_nonneg,Int.ofNat_le,hfw];exact AX h_);simp only[sE,↓reduceIte,simprocAttr,rI];refine⟨(show Fits 20000 _ _ (fin []) _ 20000 from aM (by omega) trivial ?_),hok⟩;rw[hst,hxl,hlv];simp[bA,fob_at,upd_at,none0_at,bX,HO.men,HV.men,HV.menL,HV.norm,HV.toC,HV.toCL,lT (show f+1≤w.length by omega),hrow,aT,aL,←hmw]
  refine aB fun K hK=>Rg ?_;iterate 6 refine S0 ?_ (e:=fun _ h_=>by simp only[sH,↓sP,sA,tyS,simprocAttr,rI,aY hmw,List.length_map,hw0,hfit,Nat.zero_le,List.length_take,List.length_drop,Nat.sub_zero,Nat.min_eq_left hfit,hw2];exact AX h_)
  simp only[sE,↓reduceIte,simprocAttr,rI];refine AX (hK _ _ _ ?_);clear hK K;refine cY mixed [(0,[],[]),(1,[],[]),(2,[],[]),(3,[],[]),(4,[],[]),(5,[],[]),(6,[],[]),(7,[],[0,1,2]),(8,[],[]),(9,[],[]),(10,[],[])] [0,0,3,0,0,0,48,120,248,511,1023] (by kernel_rfl) (by kernel_rfl) (by kernel_rfl) (by kernel_rfl) rfl (by kernel_rfl) ?_;iterate 2 refine WG0 ?_ (e:=fun _ h_=>by simp only[sH,↓sP,sA,tyS,simprocAttr,rI,aX,aQ,aL,aY hmw,List.length_map,Int.natCast_nonneg,Int.ofNat_le,hfw,hfm];exact AX h_)
  refine bF (g:=none) rfl rfl fun K' hK'=>?_;simp only[sN,↓hopH.eq_def,sH,↓sP,sA,tyS,simprocAttr,rI,aX,aQ,aL,aY hmw,List.length_map,Int.natCast_nonneg,Int.ofNat_le,hfw,hfm];refine AX (hK' _ _ ?_);clear hK' K';iterate 3 refine WG0 ?_ (e:=fun _ h_=>by simp only[sH,↓sP,sA,tyS,simprocAttr,rI,aX,aQ,aL,aY hmw,List.length_map,Int.natCast_nonneg,Int.ofNat_le,hfw,hfm];exact AX h_)
  refine bF (g:=none) rfl rfl fun K' hK'=>?_;simp only[sN,↓hopH.eq_def,sH,↓sP,sA,tyS,simprocAttr,rI,aX,aQ,aL,aY hmw,List.length_map,Int.natCast_nonneg,Int.ofNat_le,hfw,hfm];refine AX (hK' _ _ ?_);clear hK' K';refine pK (g:=none) rfl rfl fun K' hK'=>?_;simp only[sN,↓hopH.eq_def,sH,↓sP,sA,tyS,simprocAttr,rI,aX,aQ,aL,aY hmw,List.length_map,Int.natCast_nonneg,Int.ofNat_le,hfw,hfm];refine aN3 [48] (aS4 l[l.length-1-i] w f m (by omega) (by omega) (by omega) (by omega)) (by first|rfl|(rw[←hmw];rfl)) ⟨rfl,trivial⟩ (by simp) ?_ ?_ ?_ ?_ ?_
  ·
   intro j hj
   match j,hj with
   |0,_=>exact .inr ⟨by decide,fun r os' h=>by rw[h.2]⟩
  · exact⟨rfl,rfl,rfl,rfl⟩
  · simp[fA,HO.men]
  · simp[HV.menL,HV.men]
  rintro r os' ⟨rfl,rfl⟩;rw[←hh,show∀n ob,kZ (sub [48] n) ob 0 [.row 4 1 (w.map bC)]=upd ob 48 (some (.row 4 1 (w.map bC)))from fun _ _=>rfl,show∀n b,HV.ren (sub [48] n) (.c b)= .c b from fun _ _=>rfl];refine AX (hK' _ _ ?_);clear hK' K';refine WG0 ?_ (e:=fun _ h_=>by simp only[sH,↓sP,sA,tyS,simprocAttr,rI,aX,aQ,aL,aY hmw,List.length_map,Int.natCast_nonneg,Int.ofNat_le,hfw,hfm];exact AX h_);refine bF (g:=none) rfl rfl fun K' hK'=>?_;simp only[sN,↓hopH.eq_def,sH,↓sP,sA,tyS,simprocAttr,rI,aX,aQ,aL,aY hmw,List.length_map,Int.natCast_nonneg,Int.ofNat_le,hfw,hfm];refine AX (hK' _ _ ?_);clear hK' K';refine WG0 ?_ (e:=fun _ h_=>by simp only[sH,↓sP,sA,tyS,simprocAttr,rI,aX,aQ,aL,aY hmw,List.length_map,Int.natCast_nonneg,Int.ofNat_le,hfw,hfm];exact AX h_);simp only[sE,↓reduceIte,simprocAttr,rI];refine⟨(show Fits 20000 _ _ (fin []) _ 20000 from aM (by omega) trivial ?_),hok⟩;rw[hst,hxl,hlv];simp[bA,fob_at,upd_at,none0_at,bX,HO.men,HV.men,HV.menL,HV.norm,HV.toC,HV.toCL,lT hf1,hrow,aT,aL]
 intro hΦ;simp only[sE,↓reduceIte,simprocAttr,rI];have hfin:=hΦ;rw[sD]at hfin;obtain⟨h1,h0,h2⟩:=hfin.fin ht;rw[sD,h1];obtain⟨w,hw⟩: ∃w,w=(cP l tr l.length).1:=⟨_,rfl⟩;rw[←hw]at h0;have h3:xK l tr=w[0]:=by rw[h2];simp only[hw]
 rw[←hw];refine AX (hK _ _ _ ?_);clear hK K;by_cases hw1:w.length=1
 ·
  rw[hw1];refine aB fun K hK=>Rg ?_;iterate 4 refine S0 ?_ (e:=fun _ h_=>by simp only[sH,↓sP,sA,tyS,simprocAttr,rI,aW,bS h0,bC,Nat.lt_irrefl];exact AX h_)
  simp only[sE,↓reduceIte,simprocAttr,rI];refine AX (hK _ _ _ ?_);clear hK K;refine aE ?_;simp only[fU,Tryz.results20,fI,fT,eW,↓sP,sA,tyS,simprocAttr,rI];exact aH [] (.bool w[0]) rfl (by rw[h3])
 refine aB fun K hK=>Rg ?_;iterate 4 refine S0 ?_ (e:=fun _ h_=>by simp only[sH,↓sP,sA,tyS,simprocAttr,rI,aY (Ne.symm hw1),bS h0,bC,h0];exact AX h_)
 simp only[sE,↓reduceIte,simprocAttr,rI];refine AX (hK _ _ _ ?_);clear hK K;refine aE ?_;simp only[fU,Tryz.results20,fI,fT,eW,↓sP,sA,tyS,simprocAttr,rI];exact aH [] (.bool w[0]) rfl (by rw[h3])
end Go.Proofs.YtlldglbooaefhaaGreatDoor
namespace Go.Hl
open Go
def mvN (id d:Nat):Nat→Nat:=fun i=>if i=id then d else i
def mvF (id d:Nat)(fr:Fr):Fr:=fun t=>(fr t).ren (mvN id d)
def mvO (id d:Nat)(ob:Ob):Ob:=fun i=>if i=d then(ob id).map (HO.ren (mvN id d))else if i=id then none else(ob i).map (HO.ren (mvN id d))
section
variable {P:Program}{n k:Nat}{Q:eU}{fr:Fr}{ob:Ob}{nx:Nat}
theorem RepA.mv {c:Ctx}{a:Act}{w:World}{M:Nat→Prop}(hA:RepA c M fr ob a w)(hk':c.M0=(· <k))(id d nx2:Nat)(hk:k≤id)(hkd:k≤d)(hid:M id)(hM: ∀i,M i→i<nx2∧i≠d)(hd:d<nx2):RepA c (· <nx2) (mvF id d fr) (mvO id d ob) a w:=by
 obtain⟨ρ,hA⟩:=hA;have hne:id≠d:=(hM id hid).2
 let ρ2:Env:=fun i=>if i=d then ρ id else if i=id then none else ρ i
 have hm: ∀i,M i→ρ2 (mvN id d i)=ρ i:=fun i hi=>by
  have:=hM i hi;simp only[ρ2,mvN];grind
 have hinv: ∀i L,ρ2 i=some L→ ∃j,M j∧mvN id d j=i∧ρ j=some L:=fun i L hL=>by
  simp only[ρ2]at hL;split at hL
  · grind[mvN]
  ·
   split at hL
   · grind
   ·
    rename_i e1 e2;refine⟨i,?_,by simp[mvN,e2],hL⟩;by_cases h1:M i
    · exact h1
    · have:=(hA.nid_none (nid:=i) h1).2;grind
 have hown: ∀b,Own ρ2 b→Own ρ b:=fun b ⟨i,L,h1,h2⟩=>let⟨j,_,_,h3⟩:=hinv i L h1;⟨j,L,h3,h2⟩;have hst:Stay w (Owned ρ c.X) w (Owned ρ2 c.X):=Stay.same (fun b _ hb=>hb.imp _root_.id (hown b));have hmv:Moves M ρ (fun i=>ρ2 (mvN id d i)):=Moves.of_eq fun i hi=>hm i hi;have hobj: ∀i o,mvO id d ob i=some o→ ∃j o',M j∧mvN id d j=i∧ob j=some o'∧o=o'.ren (mvN id d):=fun i o ho=>by
  simp only[mvO]at ho;split at ho
  · grind[Option.map_eq_some_iff,mvN]
  ·
   split at ho
   · grind
   · rename_i e1 e2;obtain⟨o',h1,h2⟩:=Option.map_eq_some_iff.1 ho;exact⟨i,o',(hA.mo i o' h1).1,by simp[mvN,e2],h1,h2.symm⟩
 have hmen: ∀i,M i→mvN id d i<nx2:=fun i hi=>by
  have:=hM i hi;grind[mvN]
 refine⟨ρ2,⟨fun i o ho=>?_,fun i hi=>?_,fun i i' L L' b h1 h2 h3 h4=>?_,fun i L b h1 h2=>?_⟩,fun t ht=>?_,fun t=>?_,fun i o ho=>?_,fun i hi=>?_,?_,?_,hA.defers,hA.size,hA.xlt⟩
 · obtain⟨j,o',hj,rfl,h1,rfl⟩:=hobj i o ho;exact RepO.unsub hst hmv (hA.mo j o' h1).2 (hm j hj) (hA.s.objs j o' h1)
 ·
  simp only[mvO]at hi;simp only[ρ2];split at hi
  · rename_i e;rw[if_pos e];exact hA.s.none id (by simp_all)
  ·
   rename_i e;rw[if_neg e];split at hi
   · grind
   · rename_i e2;rw[if_neg e2];exact hA.s.none i (by simp_all)
 · obtain⟨j,_,rfl,e1⟩:=hinv i L h1;obtain⟨j',_,rfl,e2⟩:=hinv i' L' h2;rw[hA.s.apart j j' L L' b e1 e2 h3 h4]
 · obtain⟨j,_,rfl,e1⟩:=hinv i L h1;exact hA.s.xb j L b e1 h2
 ·
  have hj:fr t≠ .junk:=by intro e;apply ht;simp only[mvF,e,HV.ren]
  have hf:=hA.f t hj;exact⟨jT.2 (RepH.stay hst hmv (hA.mf t) hf.1),by simp only[mvF,HV.ren_isAgg];exact hf.2⟩
 · exact men_ren.2 (HV.men_mono hmen (hA.mf t))
 · obtain⟨j,o',hj,rfl,h1,rfl⟩:=hobj i o ho;exact⟨hmen j hj,HO.men_ren.2 (HO.men_mono hmen (hA.mo j o' h1).2)⟩
 · exact(hM i (hA.m0 i hi)).1
 · exact hA.base.trans ⟨fun _ _ _=>rfl,fun b hb=> .inl (hown b hb),Nat.le_refl _,rfl,rfl,rfl⟩
 ·
  refine Moves.trans (M':=c.M0) (fun i hi=>hi) hA.moves fun i L hi hL=>⟨L,?_,.inl rfl⟩;rw[hk']at hi;have h1:i<k:=hi;simp only[ρ2]at hL
  rwa [if_neg (by omega),if_neg (by omega)]at hL
theorem bE4 {M:Nat→Prop}: ∀{l:List (Nat×HV)},(∀p∈l,p.2.men M)→ ∀t,(fin l t).men M
 |[],_,t=>by simp[fin,HV.men]
 |(t',v)::l,h,t=>by
  by_cases ht:t=t'
  · subst ht;simp only[fin,aU];exact h (t,v) (by simp)
  · simp only[fin,bE _ _ ht];exact bE4 (fun p hp=>h p (by simp[hp])) t
theorem bE5 {M N:Nat→Prop}: ∀{l:List (Nat×HO)},(∀p∈l,N p.1∧p.2.men M)→ ∀t o,fob l t=some o→N t∧o.men M
 |[],_,t,o,ho=>by simp[fob]at ho
 |(t',v)::l,h,t,o,ho=>by
  by_cases ht:t=t'
  · subst ht;simp only[fob,aU]at ho;cases ho;exact h (t,v) (by simp)
  · simp only[fob,bE _ _ ht]at ho;exact bE5 (fun p hp=>h p (by simp[hp])) t o ho
theorem cK5 {code:Code}(id d nx2:Nat)(l:List (Nat×HV))(h:List (Nat×HO))(h1:aZ nx fr l)(h2:bA nx ob h)(hk0:k≤nx)(hk:k≤id)(hkd:k≤d)(hid:id<nx)(hne:id≠d)(hnx:nx≤nx2)(hd:d<nx2)
  (hl: ∀p∈l,p.2.men fun i=>i<nx∧i≠d) (hh: ∀p∈h,(p.1<nx∧p.1≠d)∧p.2.men fun i=>i<nx∧i≠d) (hw:Hw P n k code Q (mvF id d (fin l)) (mvO id d (fob h)) nx2):Hw P n k code Q fr ob nx:=by
 intro c a w hn hk' hz hA;refine hw c a w hn hk' hz ?_;obtain⟨ρ,hB⟩:=hA.fits hk' (aM hk0 h1 h2);refine RepA.mv (M:=fun i=>i<nx∧i≠d) ⟨ρ,hB.s,hB.f,bE4 hl,bE5 (N:=fun i=>i<nx∧i≠d) hh,fun i hi=>?_,hB.base,hB.moves,hB.defers,hB.size,hB.xlt⟩ hk' id d nx2 hk hkd ⟨hid,hne⟩ (fun i hi=>⟨by omega,hi.2⟩) hd;rw[hk']at hi;have:i<k:=hi;omega
end
end Go.Hl
namespace Go.Proofs.YtlldglbooaefhaaGreatDoor
open Go Go.Hl Go.Pl
set_option maxRecDepth 10000
set_option maxHeartbeats 16000000
def rbx (n:aF)(v:Int)(R:HV)(O:HV)(d:Bool):HV:= .agg [.agg [.c (.str n),.c (.int .i64 v),R],O,.c (.bool d)]
theorem cH1 (a b c:HO):lst [a,b,c]=fob [(0,a),(1,b),(2,c)]:=by
 funext i
 match i with
 |0=>rfl
 |1=>rfl
 |2=>rfl
 |i+3=>simp[lst,fob,upd]
theorem cO9 (a b c d:HO):lst [a,b,c,d]=fob [(0,a),(1,b),(2,c),(3,d)]:=by
 funext i
 match i with
 |0=>rfl
 |1=>rfl
 |2=>rfl
 |3=>rfl
 |i+4=>simp[lst,fob,upd]
def st0 :List HO:=[.box 100 (rbx [] 0 (.own 1 0) (.own 2 0) false),.hrow 54 5 [],.row 3 1 []]
variable {R:HV→List HO→Prop}{v:Int}{n:aF}{b:CV}{ob:Ob}
theorem bE6 {r:HV}(hr:r= .c b)(h0:ob 0=some (.box 100 (rbx n v (.own 1 0) (.own 2 0) false)))(h1:ob 1=some (.hrow 54 5 []))(h2:ob 2=some (.row 3 1 []))
  (hR:R (.c b.denil) [.box 100 (rbx n v (.own 1 0) (.own 2 0) false),.hrow 54 5 [],.row 3 1 []]):mA 3 r ob (fun r ob'=> ∃os',ob'=lst os'∧(3≤os'.length∧os'.length≤3+4)∧R r os'):=by
 subst hr;refine eN [] [] (.c b.denil) [.box 100 (rbx n v (.own 1 0) (.own 2 0) false),.hrow 54 5 [],.row 3 1 []] (by simp[HV.close,HV.norm,HV.toC,HV.ren]) (by simp[HV.men]) ⟨⟨by simp[HO.men,HV.men,HV.menL,rbx],by simp,_,h0,by simp[rbx,HO.close,HV.close,HV.closeL,HO.ren,HV.ren,HV.renL,HV.norm,fK,HV.toC,HV.toCL,CV.denil,CV.denilL,tau]⟩,⟨by simp[HO.men,HV.menL],by simp,_,h1,by simp[HO.close,HV.closeL,HO.ren,HV.renL,fK]⟩,⟨by simp[HO.men],by simp,_,h2,rfl⟩,trivial⟩ rfl List.nodup_nil (by simp) (by simp) hR
theorem aS5 (w:List aF)(hw:0<w.length):HGe Tryz.prog 65 [.ptr 0 0,.c (lsC w),.c (.bool true)] st0
  (fun r os'=>r= .c (.bool (cS w true ⟨[],0,[],[],false⟩).isSome)∧match cS w true ⟨[],0,[],[],false⟩with
   |some y=>y=⟨y.n,y.v,[],[],false⟩∧os'=[.box 100 (rbx y.n y.v (.own 1 0) (.own 2 0) false),.hrow 54 5 [],.row 3 1 []]
   |none=>os'=st0):=by
 refine cL (args:=[.ptr 0 0,.c (lsC w),.c (.bool true)]) Tryz.func65 rfl (by kernel_rfl) (gJ rfl (by simp[st0,rbx,fA,HO.men,HV.men,HV.menL]) (by simp[st0,HV.menL,HV.men])) (Nat.le_of_ble_eq_true rfl) ?_;show Hw _ _ 3 _ _ _ (lst _) 3;rw[st0,cH1];unfold lsC;have hw0:nth (w.map CV.str) 0= .str (wd w 0):=cE hw;refine R0 ?_;refine aB fun K hK=>?_;refine R0 ?_;refine CT rfl ?_;refine aB fun K hK=>?_;refine aB fun K hK=>?_;have key: ∀(b:Bool) fr ob nx,b=!(decide (w.length=3∧wd w 0=wPolicy)&&(bK (wd w 2)).isSome)→Fits 3 fr ob (fin [(0,.ptr 0 0),(1,.c (.slc (w.map .str))),(26,.c (.bool b))]) (fob [(0,.box 100 (rbx [] 0 (.own 1 0) (.own 2 0) false)),(1,.hrow 54 5 []),(2,.row 3 1 [])]) 100→K fr ob nx:=by
  rintro b fr ob nx rfl hf;refine hK _ _ _ (bM hf ?_);clear hf hK K;refine aG (b:=!(decide (w.length=3∧wd w 0=wPolicy)&&(bK (wd w 2)).isSome)) rfl (fun hb=>?_) (fun hb=>?_)
  ·
   refine R0 ?_;refine aE (RT Tryz.results65 ?_);have hn:cS w true ⟨[],0,[],[],false⟩=none:=by
    unfold cS;rw[if_pos rfl];split
    · rename_i h;rw[decide_eq_true h]at hb;simp only[Bool.true_and,Bool.not_eq_true',Option.isSome_eq_false_iff,Option.isNone_iff_eq_none]at hb;rw[hb];rfl
    rfl
   exact bE6 (b:= .bool false) rfl rfl rfl rfl ⟨by rw[hn]<;>rfl,by rw[hn]<;>rfl⟩
  refine aJ ?_;refine T0 (hK _ _ _ ?_);clear hK K;obtain⟨⟨hL,hP⟩,v,hv⟩:(w.length=3∧wd w 0=wPolicy)∧ ∃v,bK (wd w 2)=some v:=by
   simp only[Bool.not_eq_false',Bool.and_eq_true,decide_eq_true_eq]at hb;exact⟨hb.1,Option.isSome_iff_exists.1 hb.2⟩
  have hs:cS w true ⟨[],0,[],[],false⟩=some ⟨wd w 1,v,[],[],false⟩:=by
   unfold cS;rw[if_pos rfl,if_pos ⟨hL,hP⟩,hv];rfl
  clear hb;refine aB fun K hK=>DW [(0,[],[]),(1,[],[]),(2,[],[]),(3,[],[]),(4,[],[]),(5,[],[]),(6,[],[]),(7,[],[]),(8,[],[0,1,2,3,4]),(9,[],[]),(10,[],[]),(11,[],[]),(12,[],[1]),(13,[],[]),(14,[],[]),(15,[],[]),(16,[],[])] [0,0,0,4,12,0,32,96,224,509,1021,2045,4093,8191,16383,32767,65535] ?_;iterate 8 refine W0 ?_ (e:=fun _ h_=>by simp only[sH,↓sP,sA,tyS,simprocAttr,rbx,hL,cE (show 1<w.length by omega),cE (show 2<w.length by omega)];exact AX h_)
  refine cX (g:=none) rfl rfl fun K' hK'=>?_;simp only[sH,↓sP,sA,tyS,simprocAttr,rbx,hL,cE (show 1<w.length by omega),cE (show 2<w.length by omega)];refine C1 (pC (wd w 2)) ?_;rintro u rfl;rw[hv];refine AX (hK' _ _ ?_);clear hK' K';iterate 8 refine W0 ?_ (e:=fun _ h_=>by simp only[sH,↓sP,sA,tyS,simprocAttr,rbx,hL,cE (show 1<w.length by omega),cE (show 2<w.length by omega)];exact AX h_)
  refine T2 (hK _ _ _ ?_);clear hK K;refine R0 ?_;refine aE (RT Tryz.results65 ?_);exact bE6 (b:= .bool true) (n:=wd w 1) (v:=v) rfl rfl rfl rfl ⟨by rw[hs]<;>rfl,by rw[hs];exact⟨rfl,rfl⟩⟩
 by_cases hL:w.length=3
 ·
  by_cases hP:wd w 0=wPolicy
  ·
   refine Rg ?_;have F:=aI hL (aI hw0 (aI (cE (show 2<w.length by omega)) (show(wd w 0==[112,111,108,105,99,121])=true from by rw[hP];decide)));iterate 13 refine SF ?_
   refine aP (g:=some (20,false)) rfl rfl fun K' hK'=>T6 ?_;refine C1 (pC (wd w 2)) ?_;rintro u rfl;refine AX (hK' _ _ ?_);clear hK' K';iterate 2 refine SF ?_
   refine T4 ?_;exact key (decide ((bK (wd w 2)).getD (-1)<0)) _ _ _ (by
    have hy:decide ((bK (wd w 2)).getD (-1)<0)=!(bK (wd w 2)).isSome:=by
     cases h:bK (wd w 2)with
     |none=>rfl
     |some n=>have:=(jZ h).1;simp;omega
    rw[hy,decide_eq_true ⟨hL,hP⟩,Bool.true_and]) (aM (by omega) (by simp[aZ,fin_at,finA_at,upd_at,HV.men,HV.menL,HV.norm,HV.toC,HV.toCL,rbx]) (by simp[bA,fob_at,upd_at,none0_at,bX,HO.men,HV.men,HV.menL,HV.norm,HV.toC,HV.toCL,rbx]))
  refine Rg ?_;have F:=aI hL (aI hw0 (show(wd w 0==[112,111,108,105,99,121])=false from beq_false_of_ne hP));iterate 16 refine SF ?_
  refine T4 ?_;exact key true _ _ _ (by rw[decide_eq_false (fun h=>hP h.2)];rfl) (aM (by omega) (by simp[aZ,fin_at,finA_at,upd_at,HV.men,HV.menL,HV.norm,HV.toC,HV.toCL,rbx]) (by simp[bA,fob_at,upd_at,none0_at,bX,HO.men,HV.men,HV.menL,HV.norm,HV.toC,HV.toCL,rbx]))
 refine Rg ?_;have F:=aI (show((w.length:Int) !=3)=true by simp;omega) hw0;iterate 16 refine SF ?_
 refine T4 ?_;exact key true _ _ _ (by rw[decide_eq_false (fun h=>hL h.1)];rfl) (aM (by omega) (by simp[aZ,fin_at,finA_at,upd_at,HV.men,HV.menL,HV.norm,HV.toC,HV.toCL,rbx]) (by simp[bA,fob_at,upd_at,none0_at,bX,HO.men,HV.men,HV.menL,HV.norm,HV.toC,HV.toCL,rbx]))
abbrev os2 (n:aF)(v:Int)(r:List Pr)(W:List Nat):List HO:=[.box 100 (rbx n v (.own 1 r.length) (cN 2 W.length 1 0) false),.hrow 54 5 (r.map fun x=> .c x.cv),.row 3 1 (W.map iC)]
theorem cK (r:List Pr)(x:HV):mT ((r.map fun x=> .c x.cv)++[x]) r.length=x:=by
 have:=bF7 (r.map fun x:Pr=>HV.c x.cv) x;simpa using this
theorem bN {M:Nat→Prop}(r:List Pr):HV.menL M (r.map fun x=> .c x.cv):=by
 induction r with
 |nil=>simp[HV.menL]
 |cons x l ih=>simp only[List.map_cons,HV.menL,HV.men,true_and];exact ih
theorem gV (id n sz m:Nat):(cN id n sz m).norm=cN id n sz m:=by unfold cN;split<;>rfl
variable {cl:List Nat}
theorem pD (r:List Pr):HV.closeL ob cl (r.map fun x=> .c x.cv)=r.map fun x=> .c x.cv:=by
 induction r with
 |nil=>simp[HV.closeL]
 |cons x l ih=>simp only[List.map_cons,HV.closeL,HV.close,Pr.denil,HV.norm,HV.toC,ih]
variable {N:Nat→Nat}
theorem jM (r:List Pr):HV.renL N (r.map fun x=> .c x.cv)=r.map fun x=> .c x.cv:=by
 induction r with
 |nil=>simp[HV.renL]
 |cons x l ih=>simp only[List.map_cons,HV.renL,HV.ren,ih]
theorem qJ (l m:List HV):HV.closeL ob cl (l++m)=HV.closeL ob cl l++HV.closeL ob cl m:=by
 induction l with
 |nil=>simp[HV.closeL]
 |cons x l ih=>simp only[List.cons_append,HV.closeL,ih]
theorem lU (l m:List HV):HV.renL N (l++m)=HV.renL N l++HV.renL N m:=by
 induction l with
 |nil=>simp[HV.renL]
 |cons x l ih=>simp only[List.cons_append,HV.renL,ih]
theorem mQ (r:List Pr)(x y:HV):((r.map fun x=>HV.c x.cv)++[x]).set r.length y=(r.map fun x=>HV.c x.cv)++[y]:=by
 rw[List.set_append_right _ _ (by simp)];simp
theorem oF (m:Nat)(W:List Nat)(h:ob 2=some (.row 3 1 (W.map iC))):(cN 2 W.length 1 m).close ob []=cN 2 W.length 1 m:=by
 unfold cN;split<;>simp[HV.close]
theorem gD (id n sz m:Nat):(cN id n sz m).ren N=cN (N id) n sz m:=by unfold cN;split<;>rfl
theorem bX7 {r:List Pr}{W:List Nat}{u:HV}(hr:u= .c b)(h0:ob 0=some (.box 100 (rbx n v (.own 1 r.length) (cN 2 W.length 1 0) false)))(h1:ob 1=some (.hrow 54 5 (r.map fun x=> .c x.cv)))(h2:ob 2=some (.row 3 1 (W.map iC)))
  (hR:R (.c b.denil) (os2 n v r W)):mA 3 u ob (fun r ob'=> ∃os',ob'=lst os'∧(3≤os'.length∧os'.length≤3+4)∧R r os'):=by
 subst hr;refine eN [] [] (.c b.denil) (os2 n v r W) (by simp[HV.close,HV.norm,HV.toC,HV.ren]) (by simp[HV.men]) ⟨⟨by simp[HO.men,HV.men,HV.menL,rbx,aT],by simp,_,h0,?_⟩,⟨by simp[HO.men,bN],by simp,_,h1,?_⟩,⟨by simp[HO.men],by simp,_,h2,rfl⟩,trivial⟩ rfl List.nodup_nil (by simp) (by simp) hR
 · simp[rbx,HO.close,HV.close,HV.closeL,oF 0 W h2,CV.denil,fK,HV.norm,HV.toC,HV.toCL,HO.ren,HV.ren,HV.renL,aL,gV,gD,tau]
 simp[HO.close,HO.ren,pD,jM,fK]
theorem aS6 (w:List aF)(hw:0<w.length)(n:aF)(v:Int)(r:List Pr)(W:List Nat)(hr:r.length<2^40):HGe Tryz.prog 65 [.ptr 0 0,.c (lsC w),.c (.bool false)] (os2 n v r W)
  (fun u os'=>u= .c (.bool (cS w false ⟨n,v,r,[],false⟩).isSome)∧match cS w false ⟨n,v,r,[],false⟩with
   |some y=> ∃g,y=⟨n,v,r++[⟨wd w 1,wd w 2,wd w 3,g,[]⟩],[],true⟩∧os'=[.box 100 (rbx n v (.own 1 (r.length+1)) (cN 2 W.length 1 0) true),.hrow 54 5 ((r.map fun x=> .c x.cv)++[.agg [.c (.str (wd w 1)),.c (.str (wd w 2)),.c (.str (wd w 3)),.c (.int .i64 g),.own 3 0]]),.row 3 1 (W.map iC),.row 40 7 []]
   |none=>os'=os2 n v r W):=by
 refine cL (args:=[.ptr 0 0,.c (lsC w),.c (.bool false)]) Tryz.func65 rfl (by kernel_rfl) (gJ rfl (by simp[rbx,fA,HO.men,HV.men,HV.menL,aT,bN]) (by simp[HV.menL,HV.men])) (Nat.le_of_ble_eq_true rfl) ?_;show Hw _ _ 3 _ _ _ (lst _) 3;rw[cH1];unfold lsC;have hw0:nth (w.map CV.str) 0= .str (wd w 0):=cE hw;refine R0 ?_;refine aB fun K hK=>?_;refine R0 ?_;refine CF rfl ?_;refine aJ ?_;refine T0 (hK _ _ _ ?_);clear hK K;refine aB fun K hK=>?_;refine aB fun K hK=>?_;have key: ∀fr ob nx,Fits 3 fr ob (fin [(0,.ptr 0 0),(1,.c (.slc (w.map .str))),(54,.c (.bool true))]) (fob [(0,.box 100 (rbx n v (.own 1 r.length) (cN 2 W.length 1 0) false)),(1,.hrow 54 5 (r.map fun x=> .c x.cv)),(2,.row 3 1 (W.map iC))]) 100→K fr ob nx:=by
  rintro fr ob nx hf;refine hK _ _ _ (bM hf ?_);clear hf hK K;refine CT rfl ?_;refine aB fun K hK=>?_;refine aB fun K hK=>?_;have key: ∀(b:Bool) fr ob nx,b=!(decide (w.length=5∧wd w 0=wRule)&&(bK (wd w 4)).isSome)→Fits 3 fr ob (fin [(0,.ptr 0 0),(1,.c (.slc (w.map .str))),(70,.c (.bool b))]) (fob [(0,.box 100 (rbx n v (.own 1 r.length) (cN 2 W.length 1 0) false)),(1,.hrow 54 5 (r.map fun x=> .c x.cv)),(2,.row 3 1 (W.map iC))]) 200→K fr ob nx:=by
   rintro b fr ob nx rfl hf;refine hK _ _ _ (bM hf ?_);clear hf hK K;refine aG (b:=!(decide (w.length=5∧wd w 0=wRule)&&(bK (wd w 4)).isSome)) rfl (fun hb=>?_) (fun hb=>?_)
   ·
    refine R0 ?_;refine aE (RT Tryz.results65 ?_);have hn:cS w false ⟨n,v,r,[],false⟩=none:=by
     unfold cS;rw[if_neg (by decide),if_pos ⟨rfl,rfl⟩];split
     · rename_i h;rw[decide_eq_true h]at hb;simp only[Bool.true_and,Bool.not_eq_true',Option.isSome_eq_false_iff,Option.isNone_iff_eq_none]at hb;rw[hb];rfl
     rfl
    exact bX7 (b:= .bool false) rfl rfl rfl rfl ⟨by rw[hn]<;>rfl,by rw[hn]<;>rfl⟩
   refine aJ ?_;refine T0 (hK _ _ _ ?_);clear hK K;obtain⟨⟨hL,hP⟩,g,hg⟩:(w.length=5∧wd w 0=wRule)∧ ∃v,bK (wd w 4)=some v:=by
    simp only[Bool.not_eq_false',Bool.and_eq_true,decide_eq_true_eq]at hb;exact⟨hb.1,Option.isSome_iff_exists.1 hb.2⟩
   have hs:cS w false ⟨n,v,r,[],false⟩=some ⟨n,v,r++[⟨wd w 1,wd w 2,wd w 3,g,[]⟩],[],true⟩:=by
    unfold cS;rw[if_neg (by decide),if_pos ⟨rfl,rfl⟩,if_pos ⟨hL,hP⟩,hg];rfl
   clear hb;refine aB fun K hK=>cY mixed [(0,[],[]),(1,[],[]),(2,[],[]),(3,[],[]),(4,[],[]),(5,[],[]),(6,[],[]),(7,[],[]),(8,[],[]),(9,[],[]),(10,[],[]),(11,[],[]),(12,[],[]),(13,[],[]),(14,[],[]),(15,[],[]),(16,[],[]),(17,[],[]),(18,[],[0,1,2,3,4,5,6,7,8,9,10,11,12,13,14]),(19,[],[]),(20,[],[]),(21,[],[0]),(22,[],[]),(23,[],[]),(24,[],[]),(25,[],[])] [0,0,2,6,14,30,0,64,192,0,512,1536,0,4096,12288,0,32768,98304,229376,524224,1048512,2097150,4194303,8388607,16777215,33554431] (by kernel_rfl) (by kernel_rfl) (by kernel_rfl) (by kernel_rfl) rfl (by kernel_rfl) ?_;iterate 18 refine WG0 ?_ (e:=fun _ h_=>by simp only[sH,↓sP,sA,tyS,simprocAttr,rbx,hL,cE (show 1<w.length by omega),cE (show 2<w.length by omega),cE (show 3<w.length by omega),cE (show 4<w.length by omega),aX,aQ,aL,List.length_map];exact AX h_)
   refine bU (g:=none) rfl rfl fun K' hK'=>?_;simp only[sH,↓sP,sA,tyS,simprocAttr,rbx,hL,cE (show 1<w.length by omega),cE (show 2<w.length by omega),cE (show 3<w.length by omega),cE (show 4<w.length by omega),aX,aQ,aL,List.length_map];refine C1 (pC (wd w 4)) ?_;rintro u rfl;rw[hg];refine AX (hK' _ _ ?_);clear hK' K';refine WG0 ?_ (e:=fun _ h_=>by simp only[sH,↓sP,sA,tyS,simprocAttr,rbx,hL,cE (show 1<w.length by omega),cE (show 2<w.length by omega),cE (show 3<w.length by omega),cE (show 4<w.length by omega),aX,aQ,aL,List.length_map];exact AX h_);refine bF (g:=none) rfl rfl fun K' hK'=>?_;simp only[sN,↓hopH.eq_def,sH,↓sP,sA,tyS,simprocAttr,rbx,hL,cE (show 1<w.length by omega),cE (show 2<w.length by omega),cE (show 3<w.length by omega),cE (show 4<w.length by omega),aX,aQ,aL,List.length_map];refine AX (hK' _ _ ?_);clear hK' K';refine bF (g:=none) rfl rfl fun K' hK'=>?_;simp only[sN,↓hopH.eq_def,sH,↓sP,sA,tyS,simprocAttr,rbx,hL,cE (show 1<w.length by omega),cE (show 2<w.length by omega),cE (show 3<w.length by omega),cE (show 4<w.length by omega),aX,aQ,aL,List.length_map];refine AX (hK' _ _ ?_);clear hK' K';iterate 4 refine WG0 ?_ (e:=fun _ h_=>by simp only[sH,↓sP,sA,tyS,simprocAttr,rbx,hL,cE (show 1<w.length by omega),cE (show 2<w.length by omega),cE (show 3<w.length by omega),cE (show 4<w.length by omega),aX,aQ,aL,List.length_map];exact AX h_)
   refine T2 (hK _ _ _ ?_);clear hK K;refine aB fun K hK=>Rg ?_;iterate 4 refine S0 ?_ (e:=fun _ h_=>by simp only[sH,↓sP,sA,tyS,simprocAttr,rbx,aX,aQ,aL];exact AX h_)
   refine T2 (hK _ _ _ ?_);clear hK K;refine cA1 1 r.length 4 40 7 rfl (by simp) (by rw[cK];rfl) (by rw[cK];rfl) ?_;refine R0 ?_;refine aE (RT Tryz.results65 ?_);refine eN [] [320] (.c (.bool true)) [.box 100 (rbx n v (.own 1 (r.length+1)) (cN 2 W.length 1 0) true),.hrow 54 5 ((r.map fun x=> .c x.cv)++[.agg [.c (.str (wd w 1)),.c (.str (wd w 2)),.c (.str (wd w 3)),.c (.int .i64 g),.own 3 0]]),.row 3 1 (W.map iC),.row 40 7 []] rfl (by simp[HV.men]) ⟨⟨by simp[HO.men,HV.men,HV.menL,rbx,aT],by simp,_,rfl,?_⟩,⟨by simp[HO.men,HV.menL_append,HV.menL,HV.men,bN],by simp,_,rfl,?_⟩,⟨by simp[HO.men],by simp,_,rfl,rfl⟩,⟨by simp[HO.men],by simp,_,rfl,rfl⟩,trivial⟩ rfl (by simp) (by simp) (by simp) ⟨by rw[hs]<;>rfl,by rw[hs];exact⟨g,rfl,rfl⟩⟩
   · simp[rbx,HO.close,HV.close,HV.closeL,oF,CV.denil,fK,HV.norm,HV.toC,HV.toCL,HO.ren,HV.ren,HV.renL,aL,gV,gD,tau,upd_at,fob_at]
   simp[mQ,HO.close,HO.ren,qJ,pD,lU,jM,fK,HV.close,HV.closeL,HV.ren,HV.renL,HV.norm,HV.toC,HV.toCL,CV.denil,tau,upd_at,fob_at]
  by_cases hL:w.length=5
  ·
   by_cases hP:wd w 0=wRule
   ·
    refine Rg ?_;have F:=aI hL (aI hw0 (aI (cE (show 4<w.length by omega)) (show(wd w 0==[114,117,108,101])=true from by rw[hP];decide)));iterate 13 refine SF ?_
    refine aP (g:=some (64,false)) rfl rfl fun K' hK'=>T6 ?_;refine C1 (pC (wd w 4)) ?_;rintro u rfl;refine AX (hK' _ _ ?_);clear hK' K';iterate 2 refine SF ?_
    refine T4 ?_;exact key (decide ((bK (wd w 4)).getD (-1)<0)) _ _ _ (by
     have hy:decide ((bK (wd w 4)).getD (-1)<0)=!(bK (wd w 4)).isSome:=by
      cases h:bK (wd w 4)with
      |none=>rfl
      |some n=>have:=(jZ h).1;simp;omega
     rw[hy,decide_eq_true ⟨hL,hP⟩,Bool.true_and]) (aM (by omega) (by simp[aZ,fin_at,finA_at,upd_at,HV.men,HV.menL,HV.norm,HV.toC,HV.toCL,rbx,aT,bN,aL]) (by simp[bA,fob_at,upd_at,none0_at,bX,HO.men,HV.men,HV.menL,HV.norm,HV.toC,HV.toCL,rbx,aT,bN,aL]))
   refine Rg ?_;have F:=aI hL (aI hw0 (show(wd w 0==[114,117,108,101])=false from beq_false_of_ne hP));iterate 16 refine SF ?_
   refine T4 ?_;exact key true _ _ _ (by rw[decide_eq_false (fun h=>hP h.2)];rfl) (aM (by omega) (by simp[aZ,fin_at,finA_at,upd_at,HV.men,HV.menL,HV.norm,HV.toC,HV.toCL,rbx,aT,bN,aL]) (by simp[bA,fob_at,upd_at,none0_at,bX,HO.men,HV.men,HV.menL,HV.norm,HV.toC,HV.toCL,rbx,aT,bN,aL]))
  refine Rg ?_;have F:=aI (show((w.length:Int) !=5)=true by simp;omega) hw0;iterate 16 refine SF ?_
  refine T4 ?_;exact key true _ _ _ (by rw[decide_eq_false (fun h=>hL h.1)];rfl) (aM (by omega) (by simp[aZ,fin_at,finA_at,upd_at,HV.men,HV.menL,HV.norm,HV.toC,HV.toCL,rbx,aT,bN,aL]) (by simp[bA,fob_at,upd_at,none0_at,bX,HO.men,HV.men,HV.menL,HV.norm,HV.toC,HV.toCL,rbx,aT,bN,aL]))
 by_cases hW:W.length=0
 ·
  refine Rg ?_;iterate 13 refine S0 ?_ (e:=fun _ h_=>by simp only[sH,↓sP,sA,tyS,simprocAttr,rbx,hW,aW,aX,aQ,aL];exact AX h_)
  refine T4 ?_;exact key _ _ _ (aM (by omega) (by simp[aZ,fin_at,finA_at,upd_at,HV.men,HV.menL,HV.norm,HV.toC,HV.toCL,rbx,aT,bN,aL,hW,aW]) (by simp[bA,fob_at,upd_at,none0_at,bX,HO.men,HV.men,HV.menL,HV.norm,HV.toC,HV.toCL,rbx,aT,bN,aL,hW,aW]))
 refine Rg ?_;iterate 13 refine S0 ?_ (e:=fun _ h_=>by simp only[sH,↓sP,sA,tyS,simprocAttr,rbx,aY (show 0≠W.length from Ne.symm hW),List.length_map,(show 0<W.length by omega),Nat.zero_le,List.take_zero,List.length_nil,List.length_take,List.length_drop,Nat.sub_zero,Nat.zero_min];exact AX h_)
 refine T4 ?_;exact key _ _ _ (aM (by omega) (by simp[aZ,fin_at,finA_at,upd_at,HV.men,HV.menL,HV.norm,HV.toC,HV.toCL,rbx,aT,bN,aL,aY (show 0≠W.length from Ne.symm hW)]) (by simp[bA,fob_at,upd_at,none0_at,bX,HO.men,HV.men,HV.menL,HV.norm,HV.toC,HV.toCL,rbx,aT,bN,aL,aY (show 0≠W.length from Ne.symm hW)]))
end Go.Proofs.YtlldglbooaefhaaGreatDoor
