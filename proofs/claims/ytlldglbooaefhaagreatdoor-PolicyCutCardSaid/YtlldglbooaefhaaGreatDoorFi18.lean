/- PolicyCut: for any tape of numbers and any index the law returns true and leaves them as they were: of a policy text that is cut off within its first rule a syntax error is found at its end. The listed tables of the library are tied to the program's text by the card. By an AI agent. -/
import Derived.Test.YtlldglbooaefhaaGreatDoorHzU1
import Derived.Test.YtlldglbooaefhaaGreatDoorPl28l
import Derived.Test.YtlldglbooaefhaaGreatDoorHlTlaw
import Derived.Test.YtlldglbooaefhaaGreatDoorHlIt
import Derived.Test.YtlldglbooaefhaaGreatDoorPl28q
import Derived.Test.YtlldglbooaefhaaGreatDoorHzUh
import Derived.Test.YtlldglbooaefhaaGreatDoorPl11u
import Derived.Test.YtlldglbooaefhaaGreatDoorHzTm
import Derived.Test.YtlldglbooaefhaaGreatDoorPl28r
import Derived.Lay
import Derived.SevenTiedAt
import Derived.Test.YtlldglbooaefhaaGreatDoorRows
import Derived.Test.YtlldglbooaefhaaGreatDoorCards
import Derived.Test.YtlldglbooaefhaaGreatDoorTie
set_option linter.unusedSimpArgs false
set_option linter.unusedVariables false
set_option linter.defProp false
namespace Go.Proofs.YtlldglbooaefhaaGreatDoor
open Go Go.Hl Go.Pl
set_option maxRecDepth 10000
set_option maxHeartbeats 16000000
theorem cD (id n sz m:Nat):(iT id n sz m).sto=true:=by unfold iT;split<;>rfl
theorem bP (id n sz m:Nat):(iT id n sz m).cells=1:=by unfold iT;split<;>rfl
theorem bU (id n sz m:Nat):(iT id n sz m).toC=none:=by unfold iT;split<;>rfl
theorem dA (id n sz:Nat):iT id n sz n= .own id n:=by unfold iT;rw[if_pos rfl]
theorem cS {id n sz m:Nat}(h:m≠n):iT id n sz m= .osl id n 0 sz m:=by unfold iT;rw[if_neg h]
theorem oV {M:Nat→Prop}{id n sz m:Nat}(h:M id):(iT id n sz m).men M:=by unfold iT;split<;>exact h
theorem bC5 (l:List Nd)(hn: ∀n∈l,n.q.t.length<2^63)(tr:List Bool)(htr:tr.length<2^63):bS Tryz.prog 20 [.slc (l.map Nd.cv),.slc (tr.map bC)] (fun v=>v= .bool (xC l tr)):=by
 refine FW Tryz.func20 ?_;have F:=rI;refine RF ?_;refine aC fun K hK=>Rg ?_;refine SF ?_;refine HS rfl rfl fun K' hK'=>T6 ?_;refine C1 (aB6 l hn) ?_;rintro u rfl;refine AX (hK' _ _ ?_);clear hK' K';iterate 3 refine SF ?_
 simp only[sE,↓reduceIte,simprocAttr,rI];refine AX (hK _ _ _ ?_);clear hK K;refine aC fun K hK=>?_;refine RF ?_;refine aG (b:=(((jI l).length:Int)==0)) rfl (fun hb=>?_) (fun hb=>?_)
 ·
  refine RF ?_;refine aF ?_;simp only[gU,Tryz.results20,fV,gT,fD,↓sP,sA,tyS,simprocAttr,rI];have hlv:jI l=[]:=by simpa using hb
  have htf:dH l=false:=by
   cases h:dH l with
   |false=>rfl
   |true=>
    have h1:=aN3 (lG h);rw[pW h]at hlv;have h2:=lL l 0;rw[hlv]at h2;simp at h2;omega
  exact aH [] (.bool false) rfl (by rw[xC,htf];rfl)
 have htt:dH l=true:=by
  cases h:dH l with
  |true=>rfl
  |false=>rw[uJ h]at hb;simp at hb
 have ht:=lG htt;have hl:=ht.len;have hlen:(jI l).length=lv l:=by rw[pW htt,lL]
 rw[hlen];clear hb;refine aK ?_;refine TQ rI ?_;refine AX (hK _ _ _ ?_);clear hK K;refine RF ?_;refine aC fun K hK=>?_;refine aC fun K hK=>Rg ?_;refine S0 ?_ (e:=fun _ h_=>by simp only[sH,↓sP,sA,tyS,simprocAttr,rI,denilL_Nd,mP,gX,List.range',List.map_cons,List.map_nil];exact AX h_);refine HS rfl rfl fun K' hK'=>?_;simp only[sH,↓sP,sA,tyS,simprocAttr,rI,denilL_Nd,mP,gX,List.range',List.map_cons,List.map_nil];refine sY (args:=[_]) (cC7 l) (by simp) ⟨rfl,rfl,rfl,rfl⟩ ?_;refine AX (hK' _ _ ?_);clear hK' K';simp only[sE,↓reduceIte,simprocAttr,rI];refine AX (hK _ _ _ ?_);clear hK K;refine aL ?_;refine aE3 36 0 4 1 rfl rfl rfl rfl ?_;refine zU (ids:=[44]) (fin [(3,.ptr 0 0),(5,.ptr 20 0),(6,.ptr 36 0)]) (fun i=>fob [(0,.box 24 (.c (.slc (tr.map bC)))),(20,.box 3 (.c (.int .i64 (lv (l.take (l.length-i)):Nat)))),(36,.box 24 (iT 48 (cA l tr i).1.length 1 (cA l tr i).2)),(48,.row 4 1 ((cA l tr i).1.map bC))]) 20000 (fun i=>EvOk l tr i) (EvOk.zero l tr) (bJ9 l (by omega)) rfl rfl (by decide) ?_ ?_ ?_ ?_ ?_ rfl rfl ?_ ?_
 ·
  intro j x hx
  match j,hx with
  |0,hx=>cases hx;rfl
 · exact aN (by omega) (by simp[aW,fin_at,finA_at,upd_at,HV.men,HV.menL,HV.norm,HV.toC,HV.toCL,mP,cA,dA,List.take_length]) (by simp[aY,fob_at,upd_at,none0_at,bX,HO.men,HV.men,HV.menL,HV.norm,HV.toC,HV.toCL,mP,cA,dA,List.take_length])
 · intro id hid;simp only[List.mem_cons,List.not_mem_nil,or_false]at hid;subst hid;rfl
 · intro x hx;obtain⟨p,_,rfl⟩:=List.mem_map.1 hx;rfl
 · intro p hp;simp only[List.mem_cons,List.not_mem_nil,or_false]at hp;rcases hp with rfl|rfl<;>exact Nat.le_of_ble_eq_true rfl
 ·
  intro i hi hΦ K hK;have hi2:i<l.length:=by rw[←rQ l];exact hi
  have hp:l.length-1-i<l.length:=by omega
  rw[bS3 hi hp];simp only[wT];obtain⟨w,hw⟩: ∃w,w=(cA l tr i).1:=⟨_,rfl⟩;obtain⟨m,hm⟩: ∃m,m=(cA l tr i).2:=⟨_,rfl⟩;have hfit:=hΦ.fit;have hsmall:=hΦ.small;rw[←hw,←hm]at hfit;rw[←hw]at hsmall;rw[←hw,←hm];refine aM (by kernel_rfl) ?_;refine TQ rI ?_;refine AX (hK _ _ _ ?_);clear hK K;refine aL ?_;refine aC fun K hK=>?_;refine RF ?_;refine aG (b:=(l[l.length-1-i].k==1)) rfl (fun hb=>?_) (fun hb=>?_)
  ·
   have hk1:l[l.length-1-i].k=1:=by simpa using hb
   obtain⟨hok,hst⟩:=hΦ.leaf hi2 hk1;rw[←hw,←hm]at hst;have hlv:=bA7 hp;rw[if_pos hk1,show l.length-1-i+1=l.length-i from by omega]at hlv;have hlb:=aV0 l (l.length-1-i);have hw1:IntKind.i64.wrap ((lv (l.take (l.length-i)):Int)-1)=((lv (l.take (l.length-1-i)):Nat):Int):=by rw[hlv,cR _ (by omega)];omega
   obtain⟨x,hx⟩: ∃x,x=lv (l.take (l.length-1-i)):=⟨_,rfl⟩;have hxl:l.length-(i+1)=l.length-1-i:=by omega
   rw[←hx]at hw1 hst;clear hb;have F:=aI rI hw1;refine RF ?_;by_cases hlt:x<tr.length
   ·
    by_cases hmw:m=w.length
    ·
     subst hmw;have hg:tr.getD x false=tr[x]:=by simp[hlt]
     refine aC fun K hK=>eF mixed [(0,[],[]),(1,[],[]),(2,[],[]),(3,[],[]),(4,[],[]),(5,[],[]),(6,[],[]),(7,[],[]),(8,[],[]),(9,[],[]),(10,[],[]),(11,[],[]),(12,[],[]),(13,[],[])] [0,0,0,4,14,30,62,62,254,510,1022,2046,4095,8191] (by kernel_rfl) (by kernel_rfl) (by kernel_rfl) (by kernel_rfl) rfl (by kernel_rfl) ?_;iterate 14 refine WG0 ?_ (e:=fun _ h_=>by simp only[sH,↓sP,sA,tyS,simprocAttr,rI,Int.natCast_nonneg,Int.ofNat_lt,hlt,bL hlt,bC,dA,cD,bP,bU];exact AX h_)
     simp only[sE,↓reduceIte,simprocAttr,rI];refine AX (hK _ _ _ ?_);clear hK K;refine bA ?_;refine TQ rI ?_;clear hK K;rw[hg,aC4]at hst;refine⟨(show Fits 20000 _ _ (fin []) _ 20000 from aN (by omega) trivial ?_),hok⟩;rw[hst,hxl,←hx];simp[aY,fob_at,upd_at,none0_at,bX,HO.men,HV.men,HV.menL,HV.norm,HV.toC,HV.toCL,dA,bC]
    have hg:tr.getD x false=tr[x]:=by simp[hlt]
    have hmw2:m+1≤w.length:=by omega
    have hw0:0<w.length:=by omega
    have hrow:(lW w m tr[x]).map bC=(w.map bC).take m++[.bool tr[x]]++(w.map bC).drop (m+1):=by simp[lW,List.map_take,List.map_drop,bC]
    refine aC fun K hK=>eF mixed [(0,[],[]),(1,[],[]),(2,[],[]),(3,[],[]),(4,[],[]),(5,[],[]),(6,[],[]),(7,[],[]),(8,[],[]),(9,[],[]),(10,[],[]),(11,[],[]),(12,[],[]),(13,[],[])] [0,0,0,4,14,30,62,62,254,510,1022,2046,4095,8191] (by kernel_rfl) (by kernel_rfl) (by kernel_rfl) (by kernel_rfl) rfl (by kernel_rfl) ?_;iterate 12 refine WG0 ?_ (e:=fun _ h_=>by simp only[sH,↓sP,sA,tyS,simprocAttr,rI,Int.natCast_nonneg,Int.ofNat_lt,hlt,bL hlt,bC,cS hmw,cD,bP,bU,hw0,hmw2];exact AX h_)
    refine eT (g:=none) rfl rfl fun K' hK'=>?_;simp only[sN,↓hopH.eq_def,sH,↓sP,sA,tyS,simprocAttr,rI,Int.natCast_nonneg,Int.ofNat_lt,hlt,bL hlt,bC,cS hmw,cD,bP,bU,hw0,hmw2];refine AX (hK' _ _ ?_);clear hK' K';refine WG0 ?_ (e:=fun _ h_=>by simp only[sH,↓sP,sA,tyS,simprocAttr,rI,Int.natCast_nonneg,Int.ofNat_lt,hlt,bL hlt,bC,cS hmw,cD,bP,bU,hw0,hmw2];exact AX h_);simp only[sE,↓reduceIte,simprocAttr,rI];refine AX (hK _ _ _ ?_);clear hK K;refine bA ?_;refine TQ rI ?_;clear hK K;rw[hg]at hst;refine⟨(show Fits 20000 _ _ (fin []) _ 20000 from aN (by omega) trivial ?_),hok⟩;rw[hst,hxl,←hx];simp[aY,fob_at,upd_at,none0_at,bX,HO.men,HV.men,HV.menL,HV.norm,HV.toC,HV.toCL,lX hmw2,hrow,oV,bU]
   by_cases hmw:m=w.length
   ·
    subst hmw;have hg:tr.getD x false=false:=by simp[List.getD_eq_getElem?_getD,List.getElem?_eq_none (Nat.le_of_not_lt hlt)]
    have hlt':decide ((x:Int)<tr.length)=false:=by simp;omega
    refine aC fun K hK=>eF mixed [(0,[],[]),(1,[],[]),(2,[],[]),(3,[],[]),(4,[],[]),(5,[],[]),(6,[],[]),(7,[],[]),(8,[],[]),(9,[],[]),(10,[],[]),(11,[],[]),(12,[],[]),(13,[],[])] [0,0,0,4,14,30,62,62,254,510,1022,2046,4095,8191] (by kernel_rfl) (by kernel_rfl) (by kernel_rfl) (by kernel_rfl) rfl (by kernel_rfl) ?_;have F:=aI rI (aI hlt' (aI @dA (aI @cD (aI @bP @bU))));iterate 14 refine WGF ?_
    simp only[sE,↓reduceIte,simprocAttr,rI];refine AX (hK _ _ _ ?_);clear hK K;refine bA ?_;refine TQ rI ?_;clear hK K;rw[hg,aC4]at hst;refine⟨(show Fits 20000 _ _ (fin []) _ 20000 from aN (by omega) trivial ?_),hok⟩;rw[hst,hxl,←hx];simp[aY,fob_at,upd_at,none0_at,bX,HO.men,HV.men,HV.menL,HV.norm,HV.toC,HV.toCL,dA,bC]
   have hg:tr.getD x false=false:=by simp[List.getD_eq_getElem?_getD,List.getElem?_eq_none (Nat.le_of_not_lt hlt)]
   have hlt':decide ((x:Int)<tr.length)=false:=by simp;omega
   have hmw2:m+1≤w.length:=by omega
   have hw0:0<w.length:=by omega
   have hrow:(lW w m false).map bC=(w.map bC).take m++[.bool false]++(w.map bC).drop (m+1):=by simp[lW,List.map_take,List.map_drop,bC]
   refine aC fun K hK=>eF mixed [(0,[],[]),(1,[],[]),(2,[],[]),(3,[],[]),(4,[],[]),(5,[],[]),(6,[],[]),(7,[],[]),(8,[],[]),(9,[],[]),(10,[],[]),(11,[],[]),(12,[],[]),(13,[],[])] [0,0,0,4,14,30,62,62,254,510,1022,2046,4095,8191] (by kernel_rfl) (by kernel_rfl) (by kernel_rfl) (by kernel_rfl) rfl (by kernel_rfl) ?_;iterate 12 refine WG0 ?_ (e:=fun _ h_=>by simp only[sH,↓sP,sA,tyS,simprocAttr,rI,hlt',cS hmw,cD,bP,bU,hw0,hmw2];exact AX h_)
   refine eT (g:=none) rfl rfl fun K' hK'=>?_;simp only[sN,↓hopH.eq_def,sH,↓sP,sA,tyS,simprocAttr,rI,hlt',cS hmw,cD,bP,bU,hw0,hmw2];refine AX (hK' _ _ ?_);clear hK' K';refine WG0 ?_ (e:=fun _ h_=>by simp only[sH,↓sP,sA,tyS,simprocAttr,rI,hlt',cS hmw,cD,bP,bU,hw0,hmw2];exact AX h_);simp only[sE,↓reduceIte,simprocAttr,rI];refine AX (hK _ _ _ ?_);clear hK K;refine bA ?_;refine TQ rI ?_;clear hK K;rw[hg]at hst;refine⟨(show Fits 20000 _ _ (fin []) _ 20000 from aN (by omega) trivial ?_),hok⟩;rw[hst,hxl,←hx];simp[aY,fob_at,upd_at,none0_at,bX,HO.men,HV.men,HV.menL,HV.norm,HV.toC,HV.toCL,lX hmw2,hrow,oV,bU]
  have hk1:l[l.length-1-i].k≠1:=by simpa using hb
  obtain⟨hcm,hok,hst⟩:=hΦ.inner ht hi2 hk1;rw[←hw,←hm]at hst;rw[←hm]at hcm;obtain⟨c1,c2,c3,c4⟩:=dG (ht.node _ (List.getElem_mem hp));have c5:=c4 hk1;have hlv:=bA7 hp;rw[if_neg hk1,Nat.add_zero,show l.length-1-i+1=l.length-i from by omega]at hlv;have hxl:l.length-(i+1)=l.length-1-i:=by omega
  obtain⟨f,hf⟩: ∃f,f=m-l[l.length-1-i].c.toNat:=⟨_,rfl⟩;have hfc:m-f=l[l.length-1-i].c.toNat:=by omega
  rw[←hf,←hfc]at hst;have hw2:IntKind.i64.wrap ((m:Int)-l[l.length-1-i].c)=(f:Int):=by rw[cR _ (by omega)];omega
  have hf1:f+1≤w.length:=by omega
  have hfw:f≤w.length:=by omega
  have hfm:f≤m:=by omega
  have hw0:0<w.length:=by omega
  obtain⟨h,hh⟩: ∃h,h=lM l[l.length-1-i] ((w.drop f).take (m-f)):=⟨_,rfl⟩;rw[←hh]at hst;have hrow:(lW w f h).map bC=(w.map bC).take f++[.bool h]++(w.map bC).drop (f+1):=by simp[lW,List.map_take,List.map_drop,bC]
  clear hb;refine aK ?_;refine TQ rI ?_;refine AX (hK _ _ _ ?_);clear hK K;by_cases hmw:m=w.length
  ·
   rw[←hmw]at hw0 hf1 hfw;refine aC fun K hK=>Rg ?_;iterate 6 refine S0 ?_ (e:=fun _ h_=>by simp only[sH,↓sP,sA,tyS,simprocAttr,rI,dA,←hmw,List.length_map,hw2];exact AX h_)
   simp only[sE,↓reduceIte,simprocAttr,rI];refine AX (hK _ _ _ ?_);clear hK K;refine eF mixed [(0,[],[]),(1,[],[]),(2,[],[]),(3,[],[]),(4,[],[]),(5,[],[]),(6,[],[]),(7,[],[0,1,2]),(8,[],[]),(9,[],[]),(10,[],[])] [0,0,3,0,0,0,48,120,248,511,1023] (by kernel_rfl) (by kernel_rfl) (by kernel_rfl) (by kernel_rfl) rfl (by kernel_rfl) ?_;iterate 7 refine WG0 ?_ (e:=fun _ h_=>by simp only[sH,↓sP,sA,tyS,simprocAttr,rI,dA,cD,bP,bU,←hmw,List.length_map,Int.natCast_nonneg,Int.ofNat_le,hfw];exact AX h_)
   refine pA (g:=none) rfl rfl fun K' hK'=>?_;simp only[sN,↓hopH.eq_def,sH,↓sP,sA,tyS,simprocAttr,rI,dA,cD,bP,bU,←hmw,List.length_map,Int.natCast_nonneg,Int.ofNat_le,hfw];refine aL7 [48] (aQ7 l[l.length-1-i] w f m (by omega) (by omega) (by omega) (by omega)) (by first|rfl|(rw[←hmw];rfl)) ⟨rfl,trivial⟩ (by simp) ?_ ?_ ?_ ?_ ?_
   ·
    intro j hj
    match j,hj with
    |0,_=>exact .inr ⟨by decide,fun r os' h=>by rw[h.2]⟩
   · exact⟨rfl,rfl,rfl,rfl⟩
   · simp[eO,HO.men]
   · simp[HV.menL,HV.men]
   rintro r os' ⟨rfl,rfl⟩;rw[←hh,show∀n ob,kG (sub [48] n) ob 0 [.row 4 1 (w.map bC)]=upd ob 48 (some (.row 4 1 (w.map bC)))from fun _ _=>rfl,show∀n b,HV.ren (sub [48] n) (.c b)= .c b from fun _ _=>rfl];refine AX (hK' _ _ ?_);clear hK' K';refine WG0 ?_ (e:=fun _ h_=>by simp only[sH,↓sP,sA,tyS,simprocAttr,rI,dA,cD,bP,bU,←hmw,List.length_map,Int.natCast_nonneg,Int.ofNat_le,hfw];exact AX h_);refine eT (g:=none) rfl rfl fun K' hK'=>?_;simp only[sN,↓hopH.eq_def,sH,↓sP,sA,tyS,simprocAttr,rI,dA,cD,bP,bU,←hmw,List.length_map,Int.natCast_nonneg,Int.ofNat_le,hfw];refine AX (hK' _ _ ?_);clear hK' K';refine WG0 ?_ (e:=fun _ h_=>by simp only[sH,↓sP,sA,tyS,simprocAttr,rI,dA,cD,bP,bU,←hmw,List.length_map,Int.natCast_nonneg,Int.ofNat_le,hfw];exact AX h_);simp only[sE,↓reduceIte,simprocAttr,rI];refine⟨(show Fits 20000 _ _ (fin []) _ 20000 from aN (by omega) trivial ?_),hok⟩;rw[hst,hxl,hlv];simp[aY,fob_at,upd_at,none0_at,bX,HO.men,HV.men,HV.menL,HV.norm,HV.toC,HV.toCL,lX (show f+1≤w.length by omega),hrow,oV,bU,←hmw]
  refine aC fun K hK=>Rg ?_;iterate 6 refine S0 ?_ (e:=fun _ h_=>by simp only[sH,↓sP,sA,tyS,simprocAttr,rI,cS hmw,List.length_map,hw0,hfit,Nat.zero_le,List.length_take,List.length_drop,Nat.sub_zero,Nat.min_eq_left hfit,hw2];exact AX h_)
  simp only[sE,↓reduceIte,simprocAttr,rI];refine AX (hK _ _ _ ?_);clear hK K;refine eF mixed [(0,[],[]),(1,[],[]),(2,[],[]),(3,[],[]),(4,[],[]),(5,[],[]),(6,[],[]),(7,[],[0,1,2]),(8,[],[]),(9,[],[]),(10,[],[])] [0,0,3,0,0,0,48,120,248,511,1023] (by kernel_rfl) (by kernel_rfl) (by kernel_rfl) (by kernel_rfl) rfl (by kernel_rfl) ?_;iterate 2 refine WG0 ?_ (e:=fun _ h_=>by simp only[sH,↓sP,sA,tyS,simprocAttr,rI,cD,bP,bU,cS hmw,List.length_map,Int.natCast_nonneg,Int.ofNat_le,hfw,hfm];exact AX h_)
  refine eT (g:=none) rfl rfl fun K' hK'=>?_;simp only[sN,↓hopH.eq_def,sH,↓sP,sA,tyS,simprocAttr,rI,cD,bP,bU,cS hmw,List.length_map,Int.natCast_nonneg,Int.ofNat_le,hfw,hfm];refine AX (hK' _ _ ?_);clear hK' K';iterate 3 refine WG0 ?_ (e:=fun _ h_=>by simp only[sH,↓sP,sA,tyS,simprocAttr,rI,cD,bP,bU,cS hmw,List.length_map,Int.natCast_nonneg,Int.ofNat_le,hfw,hfm];exact AX h_)
  refine eT (g:=none) rfl rfl fun K' hK'=>?_;simp only[sN,↓hopH.eq_def,sH,↓sP,sA,tyS,simprocAttr,rI,cD,bP,bU,cS hmw,List.length_map,Int.natCast_nonneg,Int.ofNat_le,hfw,hfm];refine AX (hK' _ _ ?_);clear hK' K';refine pA (g:=none) rfl rfl fun K' hK'=>?_;simp only[sN,↓hopH.eq_def,sH,↓sP,sA,tyS,simprocAttr,rI,cD,bP,bU,cS hmw,List.length_map,Int.natCast_nonneg,Int.ofNat_le,hfw,hfm];refine aL7 [48] (aQ7 l[l.length-1-i] w f m (by omega) (by omega) (by omega) (by omega)) (by first|rfl|(rw[←hmw];rfl)) ⟨rfl,trivial⟩ (by simp) ?_ ?_ ?_ ?_ ?_
  ·
   intro j hj
   match j,hj with
   |0,_=>exact .inr ⟨by decide,fun r os' h=>by rw[h.2]⟩
  · exact⟨rfl,rfl,rfl,rfl⟩
  · simp[eO,HO.men]
  · simp[HV.menL,HV.men]
  rintro r os' ⟨rfl,rfl⟩;rw[←hh,show∀n ob,kG (sub [48] n) ob 0 [.row 4 1 (w.map bC)]=upd ob 48 (some (.row 4 1 (w.map bC)))from fun _ _=>rfl,show∀n b,HV.ren (sub [48] n) (.c b)= .c b from fun _ _=>rfl];refine AX (hK' _ _ ?_);clear hK' K';refine WG0 ?_ (e:=fun _ h_=>by simp only[sH,↓sP,sA,tyS,simprocAttr,rI,cD,bP,bU,cS hmw,List.length_map,Int.natCast_nonneg,Int.ofNat_le,hfw,hfm];exact AX h_);refine eT (g:=none) rfl rfl fun K' hK'=>?_;simp only[sN,↓hopH.eq_def,sH,↓sP,sA,tyS,simprocAttr,rI,cD,bP,bU,cS hmw,List.length_map,Int.natCast_nonneg,Int.ofNat_le,hfw,hfm];refine AX (hK' _ _ ?_);clear hK' K';refine WG0 ?_ (e:=fun _ h_=>by simp only[sH,↓sP,sA,tyS,simprocAttr,rI,cD,bP,bU,cS hmw,List.length_map,Int.natCast_nonneg,Int.ofNat_le,hfw,hfm];exact AX h_);simp only[sE,↓reduceIte,simprocAttr,rI];refine⟨(show Fits 20000 _ _ (fin []) _ 20000 from aN (by omega) trivial ?_),hok⟩;rw[hst,hxl,hlv];simp[aY,fob_at,upd_at,none0_at,bX,HO.men,HV.men,HV.menL,HV.norm,HV.toC,HV.toCL,lX hf1,hrow,oV,bU]
 intro hΦ;simp only[sE,↓reduceIte,simprocAttr,rI];have hfin:=hΦ;rw[rQ]at hfin;obtain⟨h1,h0,h2⟩:=hfin.fin ht;rw[rQ,h1];obtain⟨w,hw⟩: ∃w,w=(cA l tr l.length).1:=⟨_,rfl⟩;rw[←hw]at h0;have h3:xC l tr=w[0]:=by rw[h2];simp only[hw]
 rw[←hw];refine AX (hK _ _ _ ?_);clear hK K;by_cases hw1:w.length=1
 ·
  rw[hw1];refine aC fun K hK=>Rg ?_;iterate 4 refine S0 ?_ (e:=fun _ h_=>by simp only[sH,↓sP,sA,tyS,simprocAttr,rI,dA,bL h0,bC,Nat.lt_irrefl];exact AX h_)
  simp only[sE,↓reduceIte,simprocAttr,rI];refine AX (hK _ _ _ ?_);clear hK K;refine aF ?_;simp only[gU,Tryz.results20,fV,gT,fD,↓sP,sA,tyS,simprocAttr,rI];exact aH [] (.bool w[0]) rfl (by rw[h3])
 refine aC fun K hK=>Rg ?_;iterate 4 refine S0 ?_ (e:=fun _ h_=>by simp only[sH,↓sP,sA,tyS,simprocAttr,rI,cS (Ne.symm hw1),bL h0,bC,h0];exact AX h_)
 simp only[sE,↓reduceIte,simprocAttr,rI];refine AX (hK _ _ _ ?_);clear hK K;refine aF ?_;simp only[gU,Tryz.results20,fV,gT,fD,↓sP,sA,tyS,simprocAttr,rI];exact aH [] (.bool w[0]) rfl (by rw[h3])
theorem aH6 (n:Int):bS Tryz.prog 49 [.int .i64 n] (fun v=>v=(aO3 n).cv):=by
 refine FW Tryz.func49 ?_;refine R0 ?_;refine aC fun K hK=>Rg ?_;iterate 4 refine S0 ?_
 refine T2 (hK _ _ _ ?_);clear hK K;refine aF (RT Tryz.results49 ?_);exact aH [] (aO3 n).cv rfl rfl
theorem bV4 :PoSz awP:=⟨by decide,by decide,by decide,by decide⟩
theorem bV5 : ∀n∈awT,n.q.t.length<2^63:=by decide
theorem bV6 :oW awP=0:=by decide+kernel
theorem cI1 :(kZ awP).length<2^40:=by decide+kernel
theorem bV7 :nL Tryz.prog 22 tabs [] (fun v=>v= .bool true):=by
 refine bQ (args:=[]) Tryz.func22 rfl (by kernel_rfl) (fO tabs []) (Nat.le_of_ble_eq_true rfl) ?_;unfold eP;obtain⟨aw1,aw2,aw3⟩:=bG9 bV6;refine R0 ?_;refine aC fun K hK=>bD (by kernel_rfl) ?_;simp only[sR,simprocAttr];refine SG0 ?_;refine bJ (g:=none) rfl rfl fun K' hK'=>T5 ?_;refine C1 (aH6 1) ?_;rintro u rfl;refine AX (hK' _ _ ?_);clear hK' K';refine bJ (g:=none) rfl rfl fun K' hK'=>T5 ?_;refine C1 (aH6 2) ?_;rintro u rfl;refine AX (hK' _ _ ?_);clear hK' K';refine bJ (g:=none) rfl rfl fun K' hK'=>T5 ?_;refine C1 (aH6 3) ?_;rintro u rfl;refine AX (hK' _ _ ?_);clear hK' K';refine bZ (g:=none) 21 rfl rfl fun K' hK'=>?_;simp only[eN,iD,sH,↓sP,sA,tyS,simprocAttr];repeat refine AI ?_
 refine cB (by first|rfl|simp) ?_;try simp only[sH,↓sP,sA,tyS,simprocAttr]
 refine AX (hK' _ _ ?_);clear hK' K';refine SG0 ?_;refine T2 (hK _ _ _ ?_);clear hK K;refine aC fun K hK=>bD (by kernel_rfl) ?_;simp only[sR,simprocAttr];iterate 2 refine SG0 ?_
 refine bZ (g:=none) 37 rfl rfl fun K' hK'=>?_;simp only[eN,iD,sH,↓sP,sA,tyS,simprocAttr];repeat refine AI ?_
 refine cB (by first|rfl|simp) ?_;try simp only[sH,↓sP,sA,tyS,simprocAttr]
 refine AX (hK' _ _ ?_);clear hK' K';iterate 3 refine SG0 ?_
 refine T2 (hK _ _ _ ?_);clear hK K;refine aC fun K hK=>Rg ?_;refine S0 ?_;refine HS rfl rfl fun K' hK'=>T5 ?_;refine uE (args:=[_]) 0 (bC2 awP bV4) rfl (by simp) ⟨rfl,rfl,rfl,rfl⟩ ?_;rintro u v ⟨rfl,rfl⟩;rw[bV6];refine AX (hK' _ _ ?_);clear hK' K';iterate 5 refine S0 ?_
 refine T2 (hK _ _ _ ?_);clear hK K;refine aC fun K hK=>Rg ?_;have F:=@cM;refine SF ?_;refine HS rfl rfl fun K' hK'=>T6 ?_;refine uM (args:=[_]) 0 (bC4 (kZ awP) cI1) rfl (by simp) ⟨rfl,rfl,rfl,rfl⟩ ?_;rintro u v x ⟨rfl,rfl,rfl⟩;rw[aw1,aw2,aw3];refine AX (hK' _ _ ?_);clear hK' K';iterate 8 refine SF ?_
 refine T2 (hK _ _ _ ?_);clear hK K;refine aC fun K hK=>bD (by kernel_rfl) ?_;simp only[sR,simprocAttr];have F:=aI @List.length_map.{0,0} (aI @lT (aI @rH (show awP.r.length=1 from rfl)));refine SGF ?_;refine bJ (g:=none) rfl rfl fun K' hK'=>T6 ?_;refine C1 (vH awT bV5) ?_;rintro u rfl;rw[cG6];refine AX (hK' _ _ ?_);clear hK' K';iterate 2 refine SGF ?_
 refine bJ (g:=some (30,true)) rfl rfl fun K' hK'=>T6 ?_;refine C1 (tI awP bV4) ?_;rintro u rfl;rw[cG7];refine AX (hK' _ _ ?_);clear hK' K';iterate 17 refine SGF ?_
 refine bZ (g:=some (48,true)) 209 rfl rfl fun K' hK'=>?_;simp only[eN,iD,sH,↓sP,sA,tyS,simprocAttr,List.length_map,lT,rH,(show awP.r.length=1 from rfl)];repeat refine AI ?_
 refine cB (by first|rfl|simp) ?_;try simp only[sH,↓sP,sA,tyS,simprocAttr,List.length_map,lT,rH,(show awP.r.length=1 from rfl)]
 refine AX (hK' _ _ ?_);clear hK' K';refine bJ (g:=some (48,true)) rfl rfl fun K' hK'=>T6 ?_;refine C2 (bC5 awT bV5 [true,false,true] (by decide)) ?_;rintro u rfl;rw[bR1];refine AX (hK' _ _ ?_);clear hK' K';iterate 3 refine SGF ?_
 refine bZ (g:=some (53,true)) 229 rfl rfl fun K' hK'=>?_;simp only[eN,iD,sH,↓sP,sA,tyS,simprocAttr,List.length_map,lT,rH,(show awP.r.length=1 from rfl)];repeat refine AI ?_
 refine cB (by first|rfl|simp) ?_;try simp only[sH,↓sP,sA,tyS,simprocAttr,List.length_map,lT,rH,(show awP.r.length=1 from rfl)]
 refine AX (hK' _ _ ?_);clear hK' K';refine bJ (g:=some (53,true)) rfl rfl fun K' hK'=>T6 ?_;refine C2 (bC5 awT bV5 [true] (by decide)) ?_;rintro u rfl;rw[bR2];refine AX (hK' _ _ ?_);clear hK' K';iterate 4 refine SGF ?_
 refine bJ (g:=some (59,true)) rfl rfl fun K' hK'=>T6 ?_;refine C3 (cB0 awP bV4 [112,114,111,100,47,101,117] [119,101,98]) ?_;rintro u rfl;rw[cG8];refine AX (hK' _ _ ?_);clear hK' K';iterate 4 refine SGF ?_
 refine bJ (g:=some (64,true)) rfl rfl fun K' hK'=>T6 ?_;refine C1 (aB6 awT bV5) ?_;rintro u rfl;refine AX (hK' _ _ ?_);clear hK' K';iterate 5 refine SGF ?_
 refine bJ (g:=some (70,true)) rfl rfl fun K' hK'=>T6 ?_;refine C2 (aP4 awT bV5 0) ?_;rintro u rfl;refine AX (hK' _ _ ?_);clear hK' K';iterate 4 refine SGF ?_
 refine T2 (hK _ _ _ ?_);clear hK K;refine aF (RT Tryz.results22 ?_);exact dW [] (.bool true) rfl rfl (by simp) rfl
theorem cC8 (s:aJ)(hl:s.length<2^40):fR Tryz.prog 69 [.str s] (fun u v=>u= .str ((unW s).getD [])∧v= .bool (unW s).isSome):=by
 refine FW Tryz.func69 ?_;refine R0 ?_;refine aC fun K hK=>?_;refine R0 ?_;refine aG (b:=s==[126]) rfl (fun hb=>?_) (fun hb=>?_)
 ·
  refine R0 ?_;refine aF (RT Tryz.results69 ?_);have hs:s=[126]:=by simpa using hb
  subst hs;exact aR [] (.str []) (.bool true) rfl ⟨rfl,rfl⟩
 refine aK ?_;refine T0 (hK _ _ _ ?_);clear hK K;refine aC fun K hK=>?_;have hne:s≠[126]:=by simpa using hb
 clear hb;refine R0 ?_;refine aG (b:=s==[]) rfl (fun hb=>?_) (fun hb=>?_)
 ·
  refine R0 ?_;refine aF (RT Tryz.results69 ?_);have hs:s=[]:=by simpa using hb
  subst hs;exact aR [] (.str []) (.bool false) rfl ⟨rfl,rfl⟩
 refine aK ?_;refine T0 (hK _ _ _ ?_);clear hK K;have hne0:s≠[]:=by simpa using hb
 clear hb;refine R0 ?_;refine aC fun K hK=>?_;refine R0 ?_;refine aL ?_;refine jV 4 0 5 1 rfl rfl rfl rfl ?_;refine bF (α:={y:Nat×aJ//UnSt s y.1 y.2}) (fun y=>(fin [(0,.c (.str s)),(4,.own 32 y.1.2.length),(5,.c (.int .i64 y.1.1))],fob [(32,.row 5 1 (y.1.2.map cP))])) 100 (fun y=>s.length-y.1.1) ⟨(0,[]),UnSt.init s⟩ (fF) ?_;rintro⟨⟨i,out⟩,hst⟩;simp only at hst;have hi:=hst.1;have ho:=hst.2.2.2;refine aC fun K hK=>?_;refine aC fun K hK=>Rg ?_;iterate 4 refine S0 ?_
 refine T2 (hK _ _ _ ?_);clear hK K;refine aG (b:=decide ((i:Int)<s.length)) rfl (fun hb=>?_) (fun hb=>?_)
 ·
  have hlt:i<s.length:=by simpa using hb
  clear hb;have hgd:s.getD i 0=s[i]:=by simp[hlt]
  refine aK ?_;refine T0 (hK _ _ _ ?_);clear hK K;refine aC fun K hK=>?_;refine aL ?_;refine aC fun K hK=>?_;refine aC fun K hK=>Rg ?_;iterate 3 refine S0 ?_ (e:=fun _ h_=>by simp only[sH,↓sP,sA,tyS,simprocAttr,Int.natCast_nonneg,Int.ofNat_lt,hlt,hgd];exact AX h_)
  refine HS rfl rfl fun K' hK'=>?_;simp only[sH,↓sP,sA,tyS,simprocAttr,Int.natCast_nonneg,Int.ofNat_lt,hlt,hgd];refine C1 (tA s[i]) ?_;rintro u rfl;refine AX (hK' _ _ ?_);clear hK' K';refine T2 (hK _ _ _ ?_);clear hK K;refine aG (b:=cG s[i]) rfl (fun hb=>?_) (fun hb=>?_)
  ·
   refine aC fun K hK=>Rg ?_;iterate 7 refine S0 ?_ (e:=fun _ h_=>by simp only[sH,↓sP,sA,tyS,simprocAttr,Int.natCast_nonneg,Int.ofNat_lt,hlt,hgd,List.length_append,List.length_map];exact AX h_)
   refine T2 (hK _ _ _ ?_);clear hK K;refine bA (T3 ?_);clear hK K;refine AX (hK _ _ _ ?_);clear hK K;refine aM (by kernel_rfl) ?_;refine TQ (iL i) ?_;refine⟨⟨(i+1,out++[s[i]]),hst.plain hlt hb⟩,aN (by omega) ?_ ?_,?_⟩
   · simp[aW,upd_at,fin_at,HV.men]
   · simp only[aY,List.map_append];exact⟨rfl,by omega,trivial,trivial⟩
   show s.length-(i+1)<s.length-i;omega
  refine aK ?_;refine T0 (hK _ _ _ ?_);clear hK K;refine aC fun K hK=>?_;have hp:cG s[i]=false:=hb;clear hb;have hw1:IntKind.i64.wrap ((i:Int)+1)=((i+1:Nat):Int):=by rw[IntWalk.i64_in _ (by omega)];rfl
  have hw2:IntKind.i64.wrap ((i:Int)+2)=((i+2:Nat):Int):=by rw[IntWalk.i64_in _ (by omega)];rfl
  have hw3:IntKind.i64.wrap (((i+2:Nat):Int)+1)=((i+3:Nat):Int):=by rw[IntWalk.i64_in _ (by omega)];rfl
  have hwd:IntKind.i64.wrap ((s.length:Int)-(i:Int))=((s.length-i:Nat):Int):=by rw[IntWalk.i64_in _ (by omega)];omega
  refine aC fun K hK=>Rg ?_;iterate 5 refine S0 ?_ (e:=fun _ h_=>by simp only[sH,↓sP,sA,tyS,simprocAttr,Int.natCast_nonneg,Int.ofNat_lt,hlt,hgd,hwd];exact AX h_)
  refine aE 31 rfl (fun h11_31=>?_) (fun h11_31=>?_)
  ·
   iterate 6 refine S0 ?_ (e:=fun _ h_=>by simp only[sH,↓sP,sA,tyS,simprocAttr,Int.natCast_nonneg,Int.ofNat_lt,hlt,hgd,hwd,h11_31];exact AX h_)
   refine T2 (hK _ _ _ ?_);clear hK K;refine CT rfl ?_;refine R0 ?_;refine aF (RT Tryz.results69 ?_);have h37:s[i]≠37:=by rintro h;rw[h]at h11_31;simp at h11_31
   have hn:=fW (hst.bad1 hlt hp (.inl h37)) hne;exact aR [] (.str []) (.bool false) rfl ⟨by rw[hn];rfl,by rw[hn];rfl⟩
  iterate 6 refine S0 ?_ (e:=fun _ h_=>by simp only[sH,↓sP,sA,tyS,simprocAttr,Int.natCast_nonneg,Int.ofNat_lt,hlt,hgd,hwd,h11_31];exact AX h_)
  refine aE 37 rfl (fun h11_37=>?_) (fun h11_37=>?_)
  ·
   simp only[h11_37];refine T2 (hK _ _ _ ?_);clear hK K;refine CT rfl ?_;refine R0 ?_;refine aF (RT Tryz.results69 ?_);have hi2:s.length≤i+2:=by simp at h11_37;omega
   have hn:=fW (hst.bad1 hlt hp (.inr hi2)) hne;exact aR [] (.str []) (.bool false) rfl ⟨by rw[hn];rfl,by rw[hn];rfl⟩
  simp only[h11_37];refine T2 (hK _ _ _ ?_);clear hK K;refine CF rfl ?_;refine aK ?_;refine T0 (hK _ _ _ ?_);clear hK K;have h37:s[i]=37:=by
   simp only[bne_eq_false_iff_eq]at h11_31;exact UInt8.toNat_inj.1 (by show s[i].toNat=37;omega)
  have hi2:i+2<s.length:=by simp at h11_37;omega
  have hi1:i+1<s.length:=by omega
  have hg1:s.getD (i+1) 0=s[i+1]:=by simp[hi1]
  have hg2:s.getD (i+2) 0=s[i+2]:=by simp[hi2]
  refine aC fun K hK=>DW [(0,[],[]),(1,[],[]),(2,[],[]),(3,[],[]),(5,[],[]),(6,[],[]),(7,[],[]),(8,[],[]),(4,[],[5,6,7,8]),(9,[],[]),(10,[],[]),(11,[],[])] [0,0,2,7,15,0,0,64,224,511,1023,2047] ?_;have F:=aI @Int.natCast_nonneg (aI @Int.ofNat_lt (aI hw1 (aI hw2 (aI hg1 (aI hg2 (aI hi1 (aI hi2 (aI h11_31 h11_37))))))));iterate 8 refine WF ?_
  refine cF (g:=none) rfl rfl fun K' hK'=>T6 ?_;refine C1 (aQ2 s[i+1]) ?_;rintro u rfl;refine AX (hK' _ _ ?_);clear hK' K';refine cF (g:=none) rfl rfl fun K' hK'=>T6 ?_;refine C1 (aQ2 s[i+2]) ?_;rintro u rfl;refine AX (hK' _ _ ?_);clear hK' K';iterate 2 refine WF ?_
  refine T2 (hK _ _ _ ?_);clear hK K;refine aC fun K hK=>?_;by_cases hx:valH s[i+1]<16
  ·
   by_cases hy:valH s[i+2]<16
   ·
    have hx0:(((valH s[i+1]:Nat):Int)==16)=false:=by rw[beq_eq_false_iff_ne];omega
    have hy0:(((valH s[i+2]:Nat):Int)==16)=false:=by rw[beq_eq_false_iff_ne];omega
    have e1:IntKind.i64.wrap (16*((valH s[i+1]:Nat):Int))=((16*valH s[i+1]:Nat):Int):=by rw[IntWalk.i64_in _ (by omega)];omega
    have e2:IntKind.i64.wrap (((16*valH s[i+1]:Nat):Int)+((valH s[i+2]:Nat):Int))=((16*valH s[i+1]+valH s[i+2]:Nat):Int):=by rw[IntWalk.i64_in _ (by omega)];omega
    have e3:IntKind.u8.wrap ((16*valH s[i+1]+valH s[i+2]:Nat):Int)=((byteH s[i+1] s[i+2]).toNat:Int):=by rw[IntWalk.u8_in _ (by omega),sU hx hy]
    refine aC fun K hK=>Rg ?_;have F:=aI hx0 (aI hy0 (aI e1 (aI e2 (aI e3 (aI h11_31 h11_37)))));iterate 12 refine SF ?_
    refine bB (g:=some (55,false)) rfl rfl fun K' hK'=>T6 ?_;refine C1 (tA (byteH s[i+1] s[i+2])) ?_;rintro u rfl;refine AX (hK' _ _ ?_);clear hK' K';refine SF ?_;refine T2 (hK _ _ _ ?_);clear hK K;refine aG (b:=cG (byteH s[i+1] s[i+2])) rfl (fun hb=>?_) (fun hb=>?_)
    · refine R0 ?_;refine aF (RT Tryz.results69 ?_);have hn:=fW (hst.bad2 hi2 h37 (by simp[okH,hx,hy,hb])) hne;exact aR [] (.str []) (.bool false) rfl ⟨by rw[hn];rfl,by rw[hn];rfl⟩
    refine aK ?_;refine T0 (hK _ _ _ ?_);clear hK K;refine aC fun K hK=>Rg ?_;have F:=aI @Int.natCast_nonneg (aI @List.length_append.{0} (aI @List.length_map.{0,0} (aI e1 (aI e2 (aI e3 (aI h11_31 h11_37))))));iterate 9 refine SF ?_
    refine T2 (hK _ _ _ ?_);clear hK K;refine aM (by kernel_rfl) ?_;refine TQ hw2 ?_;refine AX (hK _ _ _ ?_);clear hK K;refine aM (by kernel_rfl) ?_;refine TQ hw3 ?_;refine⟨⟨(i+3,out++[byteH s[i+1] s[i+2]]),hst.esc hi2 h37 (by simp[okH,hx,hy,hb])⟩,aN (by omega) ?_ ?_,?_⟩
    · simp[aW,upd_at,fin_at,HV.men]
    · simp only[aY,List.map_append];exact⟨rfl,by omega,trivial,trivial⟩
    show s.length-(i+3)<s.length-i;omega
   have hx0:(((valH s[i+1]:Nat):Int)==16)=false:=by rw[beq_eq_false_iff_ne];omega
   have hy0:(((valH s[i+2]:Nat):Int)==16)=true:=by have:=aY3 s[i+2];rw[beq_iff_eq];omega
   refine aC fun K hK=>Rg ?_;have F:=aI hx0 (aI hy0 (aI h11_31 h11_37));iterate 14 refine SF ?_
   refine T2 (hK _ _ _ ?_);clear hK K;refine CT rfl ?_;refine R0 ?_;refine aF (RT Tryz.results69 ?_);have hn:=fW (hst.bad2 hi2 h37 (by simp[okH,hx,hy])) hne;exact aR [] (.str []) (.bool false) rfl ⟨by rw[hn];rfl,by rw[hn];rfl⟩
  have hx0:(((valH s[i+1]:Nat):Int)==16)=true:=by have:=aY3 s[i+1];rw[beq_iff_eq];omega
  refine aC fun K hK=>Rg ?_;have F:=aI hx0 (aI h11_31 h11_37);iterate 14 refine SF ?_
  refine T2 (hK _ _ _ ?_);clear hK K;refine CT rfl ?_;refine R0 ?_;refine aF (RT Tryz.results69 ?_);have hn:=fW (hst.bad2 hi2 h37 (by simp[okH,hx])) hne;exact aR [] (.str []) (.bool false) rfl ⟨by rw[hn];rfl,by rw[hn];rfl⟩
 refine bA (T3 ?_);clear hK K;refine AX (hK _ _ _ ?_);clear hK K;have hei:i=s.length:=by simp at hb;omega
 have hfin:=hst.fin hei hne;have ho0:out≠[]:=fun h=>hne0 (List.eq_nil_of_length_eq_zero (by have:=hst.2.2.1 h;omega));rw[if_neg ho0]at hfin;refine dV [32] (bH (fr2:=fin [(4,.c (.slc (out.map cP)))]) (ob2:=fob []) (nx2:=200) (aN (by omega) (by simp[aW,gJ,fin_at,finA_at,upd_at,fob_at,HV.close,HV.closeL,CV.denil,CV.denilL,cM,HV.men,HV.menL,HV.norm,HV.toC,HV.toCL]) (by simp[aY,gK,fob_at,upd_at,none0_at,bX,HO.close,HV.close,HV.closeL,HO.men,HV.men,HV.menL,HV.norm,HV.toC,HV.toCL])) ?_);refine aC fun K hK=>Rg ?_;have F:=aI @bytesC_map @List.length_map.{0,0};iterate 4 refine SF ?_
 refine T2 (hK _ _ _ ?_);clear hK K;refine aF (RT Tryz.results69 ?_);exact aR [] (.str out) (.bool true) rfl ⟨by rw[hfin];rfl,by rw[hfin];rfl⟩
theorem cC9 (b:aJ)(hl:b.length<2^40):fR Tryz.prog 38 [.slc (b.map u8)] (fun u v=>u= .slc ((eD b).map lsC)∧v= .int .i64 (eC b)):=by
 refine FW Tryz.func38 ?_;refine R0 ?_;refine aC fun K hK=>?_;have F:=@List.length_map.{0,0};refine RF ?_;refine aG (b:=decide ((262144:Int)<b.length)) rfl (fun hb=>?_) (fun hb=>?_)
 ·
  refine R0 ?_;refine aF (RT Tryz.results38 ?_);have hE:eC b=3:=by unfold eC;rw[if_pos (by simp at hb;omega)]
  refine aR [] (.slc []) (.int .i64 3) ?_ ⟨by simp only[eD,hE];rfl,by rw[hE]⟩;simp[HV.close,HV.closeL,CV.denil,CV.denilL,HV.norm,HV.toC,HV.toCL]
 refine aK ?_;refine T0 (hK _ _ _ ?_);clear hK K;refine aC fun K hK=>?_;have hle: ¬262144<b.length:=by simp at hb;omega
 clear hb;refine RF ?_;refine aG (b:=(b.length:Int)==0) rfl (fun hb=>?_) (fun hb=>?_)
 ·
  refine R0 ?_;refine aF (RT Tryz.results38 ?_);have hbe:b=[]:=by simpa using hb
  subst hbe;refine aR [] (.slc []) (.int .i64 0) ?_ ⟨rfl,rfl⟩;simp[HV.close,HV.closeL,CV.denil,CV.denilL,HV.norm,HV.toC,HV.toCL]
 refine aK ?_;refine T0 (hK _ _ _ ?_);clear hK K;refine aC fun K hK=>?_;have hne:b≠[]:=by rintro rfl;simp at hb
 clear hb;have hpos:0<b.length:=List.length_pos_iff.2 hne;have hlt1:b.length-1<b.length:=by omega
 have hwl:IntKind.i64.wrap ((b.length:Int)-1)=((b.length-1:Nat):Int):=by rw[IntWalk.i64_in _ (by omega)];omega
 refine aC fun K hK=>Rg ?_;have F:=aI @List.length_map.{0,0} (aI hwl (aI @Int.natCast_nonneg (aI @Int.ofNat_lt (aI hlt1 (aI (nM hlt1) @u8.eq_1)))));iterate 7 refine SF ?_
 refine T2 (hK _ _ _ ?_);clear hK K;refine aG (b:=((b[b.length-1]).toNat:Int) !=10) rfl (fun hb=>?_) (fun hb=>?_)
 ·
  refine R0 ?_;refine aF (RT Tryz.results38 ?_);have hE:eC b=2:=bG2 hle hne (by
   intro h;rw[List.getD_eq_getElem?_getD,List.getElem?_eq_getElem hlt1]at h;simp only[Option.getD_some]at h;rw[h]at hb;simp at hb)
  refine aR [] (.slc []) (.int .i64 2) ?_ ⟨by simp only[eD,hE];rfl,by rw[hE]⟩;simp[HV.close,HV.closeL,CV.denil,CV.denilL,HV.norm,HV.toC,HV.toCL]
 refine aK ?_;refine T0 (hK _ _ _ ?_);clear hK K;have hl10:b[b.length-1]=10:=by
  simp only[bne_eq_false_iff_eq]at hb;exact UInt8.toNat_inj.1 (by show b[b.length-1].toNat=10;omega)
 clear hb;obtain⟨m,hm⟩: ∃m,b=m++[10]:=⟨b.dropLast,by rw[←hl10,←List.getLast_eq_getElem hne];exact(List.dropLast_concat_getLast hne).symm⟩;have htk:List.take (b.length-1) (b.map u8)=m.map u8:=by rw[hm];simp
 have hbc:iH (m.map u8)=some m:=bytesC_map m;have hml:m.length+1=b.length:=by rw[hm];simp
 have hml3:(m++[(10:UInt8)]).length=m.length+1:=by simp
 rw[hm]at hle;refine aC fun K hK=>Rg ?_;have F:=aI @List.length_map.{0,0} (aI hwl (aI @Int.natCast_nonneg (aI @Int.ofNat_le (aI @Nat.sub_le (aI @lF (aI @List.drop_zero.{0} (aI @Nat.sub_zero (aI htk hbc))))))));iterate 6 refine SF ?_
 refine HS rfl rfl fun K' hK'=>T6 ?_;refine C2 (aN2 m 10 (by omega)) ?_;rintro u rfl;refine AX (hK' _ _ ?_);clear hK' K';refine SF ?_;refine T2 (hK _ _ _ ?_);clear hK K;obtain⟨rows,hrows⟩: ∃rows,rows=aP 10 m:=⟨_,rfl⟩;have hrl:=eB 10 m;have hrs:=mF 10 m;rw[←hrows]at hrl hrs⊢;have hE2:rows.mapM unL=none→eC b=2:=fun h=>by rw[hm];exact bG3 hle (by rw[←hrows];exact h)
 refine R0 ?_;refine aC fun K hK=>?_;refine R0 ?_;refine aL ?_;refine jV 5 0 60 1 rfl rfl rfl rfl ?_;refine bF (α:={i:Nat//i≤rows.length∧ ∀r∈rows.take i,(unL r).isSome=true}) (fun i=>(fin [(4,.c (.slc (rows.map .str))),(5,.own 100 i.1),(6,.c (.int .i64 i.1))],fob [(100,.row 60 1 ((lsT rows i.1).map lsC))])) 200 (fun i=>rows.length-i.1) ⟨0,by omega,by simp⟩ (by simp only[lsT,List.take_zero,List.map_nil];exact fF) ?_;rintro⟨i,hi,hok⟩;simp only;have hlsl:=aU4 hi;refine aC fun K hK=>?_;refine aC fun K hK=>Rg ?_;have F:=@List.length_map.{0,0};iterate 4 refine SF ?_
 refine T2 (hK _ _ _ ?_);clear hK K;refine aG (b:=decide ((i:Int)<rows.length)) rfl (fun hb=>?_) (fun hb=>?_)
 ·
  have hlt:i<rows.length:=by simpa using hb
  clear hb;obtain⟨r,hr⟩: ∃r,r=rows[i]:=⟨_,rfl⟩;have hrin:r∈rows:=by rw[hr];exact List.getElem_mem hlt
  have hrn:=hrs r hrin;have hnr:nth (rows.map CV.str) i= .str r:=by rw[bL hlt,hr]
  refine aK ?_;refine T0 (hK _ _ _ ?_);clear hK K;refine aC fun K hK=>?_;refine aL ?_;refine aC fun K hK=>Rg ?_;have F:=aI @Int.natCast_nonneg (aI @Int.ofNat_lt (aI hlt (aI hnr @List.length_map.{0,0})));iterate 4 refine SF ?_
  refine HS rfl rfl fun K' hK'=>T6 ?_;refine C2 (aN2 r 32 (by omega)) ?_;rintro u rfl;refine AX (hK' _ _ ?_);clear hK' K';refine SF ?_;refine T2 (hK _ _ _ ?_);clear hK K;refine R0 ?_;refine aC fun K hK=>?_;refine R0 ?_;refine aL ?_;refine jV 8 0 9 1 rfl rfl rfl rfl ?_;refine bF (α:={k:Nat//k≤(aP 32 r).length∧aL2 r k}) (fun k=>(fin [(4,.c (.slc (rows.map .str))),(5,.own 100 i),(6,.c (.int .i64 i)),(7,.c (.slc ((aP 32 r).map .str))),(8,.own 248 k.1),(9,.c (.int .i64 k.1))],fob [(100,.row 60 1 ((lsT rows i).map lsC)),(248,.row 9 1 ((wsT r k.1).map .str))])) 300 (fun k=>(aP 32 r).length-k.1) ⟨0,by omega,fun p hp=>by simp at hp⟩ (by simp only[wsT,List.take_zero,List.map_nil];exact fF) ?_;rintro⟨k,hk,hwo⟩;simp only;have hwl2:=pM hk;have hsl:=eB 32 r;refine aC fun K hK=>?_;refine aC fun K hK=>Rg ?_;have F:=@List.length_map.{0,0};iterate 4 refine SF ?_
  refine T2 (hK _ _ _ ?_);clear hK K;refine aG (b:=decide ((k:Int)<(aP 32 r).length)) rfl (fun hb=>?_) (fun hb=>?_)
  ·
   have hkl:k<(aP 32 r).length:=by simpa using hb
   clear hb;obtain⟨p,hp⟩: ∃p,p=(aP 32 r)[k]:=⟨_,rfl⟩;have hpl:=mF 32 r p (by rw[hp];exact List.getElem_mem hkl);have hnp:nth ((aP 32 r).map CV.str) k= .str p:=by rw[bL hkl,hp]
   refine aK ?_;refine T0 (hK _ _ _ ?_);clear hK K;refine aC fun K hK=>?_;refine aL ?_;refine aC fun K hK=>Rg ?_;have F:=aI @Int.natCast_nonneg (aI @Int.ofNat_lt (aI hkl (aI hnp @List.length_map.{0,0})));iterate 4 refine SF ?_
   refine HS rfl rfl fun K' hK'=>T6 ?_;refine D1 (cC8 p (by omega)) ?_;rintro u v ⟨rfl,rfl⟩;refine AX (hK' _ _ ?_);clear hK' K';iterate 5 refine SF ?_
   refine T2 (hK _ _ _ ?_);clear hK K;refine aC fun K hK=>?_;refine R0 ?_;refine aG (b:=!(unW p).isSome) rfl (fun hb=>?_) (fun hb=>?_)
   · refine R0 ?_;refine aF (RT Tryz.results38 ?_);have hE:=hE2 (oL hrin (bP1 hkl (by rw[←hp];simpa using hb)));refine aR [] (.slc []) (.int .i64 2) ?_ ⟨by simp only[eD,hE];rfl,by rw[hE]⟩;simp[HV.close,HV.closeL,CV.denil,CV.denilL,HV.norm,HV.toC,HV.toCL]
   refine aK ?_;refine T0 (hK _ _ _ ?_);clear hK K;refine Rg ?_;have F:=aI @List.length_append.{0} (aI @List.length_map.{0,0} hwl2);iterate 5 refine SF ?_
   refine T2 (hK _ _ _ ?_);clear hK K;refine aM (by kernel_rfl) ?_;refine TQ (iL k) ?_;refine⟨⟨k+1,hkl,zO hkl hwo (by rw[←hp];simpa using hb)⟩,aN (by omega) ?_ ?_,?_⟩
   · simp[aW,upd_at,fin_at,HV.men]
   · simp only[aL3 hkl,←hp,aY,List.map_append];exact⟨rfl,by omega,trivial,rfl,by omega,trivial,trivial⟩
   show(aP 32 r).length-(k+1)<(aP 32 r).length-k;omega
  refine bA (T3 ?_);clear hK K;refine AX (hK _ _ _ ?_);clear hK K;have hke:k=(aP 32 r).length:=by simp at hb;omega
  subst hke;have hul:=bY4 hwo;obtain⟨ws,hws⟩: ∃ws,ws=wsT r (aP 32 r).length:=⟨_,rfl⟩;rw[←hws]at hul hwl2⊢;rw[←hwl2];refine dV [248] (bH (fr2:=fin [(4,.c (.slc (rows.map .str))),(5,.own 100 i),(6,.c (.int .i64 i)),(8,.c (.slc (ws.map .str)))]) (ob2:=fob [(100,.row 60 1 ((lsT rows i).map lsC))]) (nx2:=400) (aN (by omega) (by simp[aW,gJ,fin_at,finA_at,upd_at,fob_at,HV.close,HV.closeL,CV.denil,CV.denilL,denilL_str,HV.men,HV.menL,HV.norm,HV.toC,HV.toCL]) (by simp[aY,gK,fob_at,upd_at,none0_at,bX,HO.close,HV.close,HV.closeL,HO.men,HV.men,HV.menL,HV.norm,HV.toC,HV.toCL])) ?_);refine Rg ?_;have F:=aI @List.length_append.{0} (aI @List.length_map.{0,0} hlsl);iterate 5 refine SF ?_
  refine T2 (hK _ _ _ ?_);clear hK K;refine aM (by kernel_rfl) ?_;refine TQ (iL i) ?_;have hok1: ∀x∈rows.take (i+1),(unL x).isSome=true:=by
   intro x hx;rw[List.take_succ_eq_append_getElem hlt,List.mem_append,List.mem_singleton]at hx;rcases hx with hx|rfl
   · exact hok x hx
   rw[←hr,hul];rfl
  refine⟨⟨i+1,hlt,hok1⟩,aN (by omega) ?_ ?_,?_⟩
  · simp[aW,upd_at,fin_at,HV.men]
  · simp only[bP0 hlt,←hr,hul,aY,List.map_append,Option.getD_some];exact⟨rfl,by omega,trivial,trivial⟩
  show rows.length-(i+1)<rows.length-i;omega
 refine bA (T3 ?_);clear hK K;refine AX (hK _ _ _ ?_);clear hK K;refine aC fun K hK=>?_;have hie:i=rows.length:=by simp at hb;omega
 subst hie;have hml2:=bY5 hok;have hlens:=bP2 (rows:=rows) (n:=2^39) (fun r hr=>by have:=hrs r hr;omega);obtain⟨ls,hls⟩: ∃ls,ls=lsT rows rows.length:=⟨_,rfl⟩;rw[←hls]at hml2 hlsl hlens⊢;rw[hrows]at hml2;obtain⟨hE0,hEn⟩:=bO9 hle hml2;rw[←hm]at hE0 hEn;rw[←hlsl];refine dV [100] (bH (fr2:=fin [(5,.c (.slc (ls.map lsC)))]) (ob2:=fob []) (nx2:=300) (aN (by omega) (by simp[aW,gJ,fin_at,finA_at,upd_at,fob_at,HV.close,HV.closeL,CV.denil,CV.denilL,aQ,HV.men,HV.menL,HV.norm,HV.toC,HV.toCL]) (by simp[aY,gK,fob_at,upd_at,none0_at,bX,HO.close,HV.close,HV.closeL,HO.men,HV.men,HV.menL,HV.norm,HV.toC,HV.toCL])) ?_);refine aC fun K hK=>Rg ?_;have F:=@aQ;refine SF ?_;refine HS rfl rfl fun K' hK'=>T6 ?_;refine D1 (bB9 ls (by omega) (fun l hl=>by have:=hlens l hl;omega)) ?_;rintro u v ⟨rfl,rfl⟩;refine AX (hK' _ _ ?_);clear hK' K';iterate 5 refine SF ?_
 refine T2 (hK _ _ _ ?_);clear hK K;refine R0 ?_;refine aG (b:=gM ls !=0) rfl (fun hb=>?_) (fun hb=>?_)
 · refine R0 ?_;refine aF (RT Tryz.results38 ?_);have hE:=hEn (by simpa using hb);refine aR [] (.slc []) (.int .i64 2) ?_ ⟨by simp only[eD,hE];rfl,by rw[hE]⟩;simp[HV.close,HV.closeL,CV.denil,CV.denilL,HV.norm,HV.toC,HV.toCL]
 refine aK ?_;refine T0 (hK _ _ _ ?_);clear hK K;refine R0 ?_;refine aF (RT Tryz.results38 ?_);obtain⟨hE,hO⟩:=hE0 (by simpa using hb);refine aR [] (.slc (ls.map lsC)) (.int .i64 0) ?_ ⟨by rw[hO],by rw[hE]⟩;simp[HV.close,HV.closeL,CV.denil,CV.denilL,HV.norm,HV.toC,HV.toCL,aQ]
theorem cI2 (T:List Nd):CV.agg [.str [112],.int .i64 1,.slc [Pr.cv ⟨[114],[42],[42],0,T⟩]]=(tJ T).cv:=rfl
theorem bC6 :cP=u8:=rfl
theorem cD0 (L:List Int)(i:Int):nL Tryz.prog 10 tabs [.slc (L.map (.int .i64)),.int .i64 i] (fun v=>v= .bool true):=by
 refine bQ (args:=[.c (.slc (L.map (.int .i64))),.c (.int .i64 i)]) Tryz.func10 rfl (by kernel_rfl) (fO tabs [.slc (L.map (.int .i64)),.int .i64 i]) (Nat.le_of_ble_eq_true rfl) ?_;unfold eP;refine R0 ?_;refine aC fun K hK=>Rg ?_;have F:=@denilL_int;refine SF ?_;refine HS rfl rfl fun K' hK'=>T6 ?_;refine gW [] (cB2 L 200) rfl trivial (by simp) (by simp) ⟨rfl,rfl,rfl,rfl⟩ (by simp[eO]) (by simp[HV.menL,HV.men]) ?_;rintro r os' ⟨rfl,rfl⟩;rw[bT8,bI7];refine AX (hK' _ _ ?_);clear hK' K';refine SF ?_;refine T2 (hK _ _ _ ?_);clear hK K;refine aC fun K hK=>bD (by kernel_rfl) ?_;simp only[sR,simprocAttr];refine SG0 ?_;refine bJ (g:=none) rfl rfl fun K' hK'=>T5 ?_;refine bR (args:=[]) (bI9 (L.take 200) 0 (by omega)) rfl (by simp) ⟨rfl,rfl,rfl,rfl⟩ ?_;rintro u v' ⟨T,a',rfl,rfl,hT,ha'⟩;refine AX (hK' _ _ ?_);clear hK' K';refine SG0 ?_;refine bZ (g:=none) 29 rfl rfl fun K' hK'=>?_;simp only[eN,iD,sH,↓sP,sA,tyS,simprocAttr];repeat refine AI ?_
 refine cB (by first|rfl|simp) ?_;try simp only[sH,↓sP,sA,tyS,simprocAttr]
 refine AX (hK' _ _ ?_);clear hK' K';iterate 3 refine SG0 ?_
 refine T2 (hK _ _ _ ?_);clear hK K;rw[cI2];obtain⟨p,hpd⟩: ∃p:Po,p=tJ T:=⟨_,rfl⟩;have hsm:lS p:=by rw[hpd];exact aH4 hT
 have hp:PoSz p:=bB7 hsm.1;have hl3:3≤(dS p).length:=by rw[hpd];exact bU2 hT
 have hcut: ∀k,2≤k→k<(dS p).length→gM ((dS p).take k)=0∧(iK ((dS p).take k)).length≤255000∧dpE (iK ((dS p).take k))=2∧dpL (iK ((dS p).take k))=k:=fun k h2 hk=>by rw[hpd]at hk⊢;exact bJ2 hT h2 hk
 obtain⟨e1,e2,e3,e4⟩:=cB7 hsm;obtain⟨h3,h4⟩:=vF hsm;rw[←hpd];clear hpd;refine aC fun K hK=>Rg ?_;refine S0 ?_;refine HS rfl rfl fun K' hK'=>T5 ?_;refine D1 (cC5 p hp) ?_;rintro u v ⟨rfl,rfl⟩;rw[e1,bC6];refine AX (hK' _ _ ?_);clear hK' K';iterate 5 refine S0 ?_
 refine T2 (hK _ _ _ ?_);clear hK K;refine aC fun K hK=>Rg ?_;have F:=@denilL_u8;refine SF ?_;refine HS rfl rfl fun K' hK'=>T6 ?_;refine D1 (cC9 (kZ p) (by omega)) ?_;rintro u v ⟨rfl,rfl⟩;rw[e3,e4];refine AX (hK' _ _ ?_);clear hK' K';iterate 5 refine SF ?_
 refine T2 (hK _ _ _ ?_);clear hK K;refine aC fun K hK=>?_;refine aC fun K hK=>Rg ?_;have F:=@bne_self_eq_false.{0};iterate 6 refine SF ?_
 refine T2 (hK _ _ _ ?_);clear hK K;refine CF rfl ?_;refine aK ?_;refine T0 (hK _ _ _ ?_);clear hK K;have hw1:IntKind.i64.wrap (((dS p).length:Int)-2)=((dS p).length:Int)-2:=IntWalk.i64_in _ (by omega);refine aC fun K hK=>Rg ?_;have F:=aI @List.length_map.{0,0} hw1;iterate 4 refine SF ?_
 refine HS rfl rfl fun K' hK'=>T6 ?_;refine C2 (aV7 i (((dS p).length:Int)-2) (by omega) (by omega)) ?_;rintro u ⟨x,hx,rfl⟩;refine AX (hK' _ _ ?_);clear hK' K';iterate 2 refine SF ?_
 refine T2 (hK _ _ _ ?_);clear hK K;obtain⟨k,hk⟩: ∃k:Nat,IntKind.i64.wrap (2+(x:Int))=k∧2≤k∧k<(dS p).length:=⟨2+x,by rw[IntWalk.i64_in _ (by omega)];omega,by omega,by omega⟩;obtain⟨hk,hk2,hkl⟩:=hk;rw[hk];obtain⟨c1,c2,c3,c4⟩:=hcut k hk2 hkl;refine aC fun K hK=>Rg ?_;iterate 3 refine S0 ?_ (e:=fun _ h_=>by simp only[sH,↓sP,sA,tyS,simprocAttr,lV,Int.natCast_nonneg,Int.ofNat_le,Nat.le_of_lt hkl,Int.toNat_natCast,Nat.sub_zero,List.drop_zero,←List.map_take,List.length_map,aQ];exact AX h_)
 refine HS rfl rfl fun K' hK'=>?_;simp only[sH,↓sP,sA,tyS,simprocAttr,lV,Int.natCast_nonneg,Int.ofNat_le,Nat.le_of_lt hkl,Int.toNat_natCast,Nat.sub_zero,List.drop_zero,←List.map_take,List.length_map,aQ];refine D1 (aC3 ((dS p).take k) (by simp;omega) (fun l hl=>by have:=(h3 l (List.mem_of_mem_take hl)).2.1;omega)) ?_;rintro u v ⟨rfl,rfl⟩;rw[c1,bC6];refine AX (hK' _ _ ?_);clear hK' K';iterate 5 refine S0 ?_ (e:=fun _ h_=>by simp only[sH,↓sP,sA,tyS,simprocAttr,lV,Int.natCast_nonneg,Int.ofNat_le,Nat.le_of_lt hkl,Int.toNat_natCast,Nat.sub_zero,List.drop_zero,←List.map_take,List.length_map,aQ];exact AX h_)
 refine T2 (hK _ _ _ ?_);clear hK K;refine aC fun K hK=>Rg ?_;have F:=@denilL_u8;refine SF ?_;refine HS rfl rfl fun K' hK'=>T6 ?_;refine uM (args:=[_]) 0 (bC4 (iK ((dS p).take k)) (by omega)) rfl (by simp) ⟨rfl,rfl,rfl,rfl⟩ ?_;rintro u v x ⟨rfl,rfl,rfl⟩;rw[c3,c4];refine AX (hK' _ _ ?_);clear hK' K';iterate 8 refine SF ?_
 refine T2 (hK _ _ _ ?_);clear hK K;refine aC fun K hK=>Rg ?_;have F:=@beq_self_eq_true.{0};iterate 12 refine SF ?_
 refine bB (g:=some (70,true)) rfl rfl fun K' hK'=>T6 ?_;refine fH (args:=[]) 0 bV7 rfl (by simp) ⟨rfl,rfl,rfl,rfl⟩ ?_;rintro u rfl;refine AX (hK' _ _ ?_);clear hK' K';iterate 2 refine SF ?_
 refine T2 (hK _ _ _ ?_);clear hK K;refine aF (RT Tryz.results10 ?_);exact dW [] (.bool true) rfl rfl (by simp) rfl
set_option maxRecDepth 100000
theorem yQ {W:World}(h:laidMetH Tryz.prog Rows.policyCutRow.laid W):Lib.TabIs Tryz.prog W "internal/strconv.uint64pow10" .u64 Lib.pow10Tab:=by
  rw[MakeChecks.laidMetH_plain _ _ _ (by kernel_rfl)]at h;have h2:=laidMet.filter (fun x=>x.1== "internal/strconv.uint64pow10") h;have e:(Rows.policyCutRow.laid.filter fun x=>x.1== "internal/strconv.uint64pow10")=[("internal/strconv.uint64pow10",Lib.tabData .u64 Lib.pow10Tab)]:=by kernel_rfl
  rw[e]at h2;exact Lib.tabIs_of_head aH5 (by kernel_rfl) Tryz.underlying169 Tryz.underlying116 (by kernel_rfl) (by kernel_rfl) h2
theorem pZ (H:Type)(enc:TypeId×Value→H)(W:World)(args:Array Value)(ds gs:List (DataW H))(before:List MemPlace)
    (hL:laidMetH Tryz.prog Rows.policyCutRow.laid W)
    (hval: ∀(j:Nat) t v,Tryz.f10.params[j]? =some t→args[j]? =some v→Value.okWide Tryz.prog W .any 0 t v)
    (hW:DataW.Whole enc Tryz.prog Tryz.f10.params.toList Rows.policyCutSpec.vars false W args.toList ds gs before):
    Calls Tryz.prog 10 args W fun e W'=> ∃v,e= .returned v∧Rows.policyCutSpec.post enc Tryz.prog Tryz.f10 false true false false W args v W':=by
  refine bE8 (mm:=6) (tb:=4) (tabs:=tabs) (by kernel_rfl) kids aV1 rfl (by kernel_rfl) Tryz.underlying4 ?_ ?_ ?_ ?_ (fun j t v h1 h2=>?_) hW
  · rw[Tryz.params10]
    intro H ds h
    match ds,h with
    |[c0,c1],_=>exact⟨rfl,rfl,rfl⟩
  · rw[Tryz.params10]
    intro t ht;simp only[List.mem_cons,List.not_mem_nil,or_false]at ht;rcases ht with rfl|rfl
    · exact⟨by kernel_rfl,of_decide_eq_true (by kernel_rfl)⟩
    · exact⟨by kernel_rfl,of_decide_eq_true (by kernel_rfl)⟩
  · rw[Tryz.params10]
    intro cs hn hty
    match cs,hn,hty with
    |[c0,c1],_,hty=>
      obtain⟨L,rfl,hw,hl⟩:=cA2 (hty 0 _ c0 rfl rfl);obtain⟨i,rfl,hi⟩:=(hty 1 _ c1 rfl rfl).of_int Tryz.underlying3;exact cD0 L i
  · intro x hx
    simp only[tabs,List.mem_cons,List.not_mem_nil,or_false]at hx;rcases hx with rfl
    · exact yK aH5 (yQ hL)
  · exact hval j t v h1 h2
open Go.ChangeShapes Go.WideShapes Go.ChangeAt Go.RowKit in
set_option maxRecDepth 100000 in
theorem tL (os:Os)(started:os.Started)(H:Type)(enc:TypeId×Value→H):
    ReturnsInHanded {} Tryz.checked os 10 .any (fun w args=>(Rows.policyCutSpec.pre enc Tryz.prog Tryz.f10 [] false w args∧laidMetH Tryz.prog Rows.policyCutRow.laid w)∧sizedMet enc Tryz.prog Tryz.f10 (OpenSpec.ofChange Rows.policyCutSpec) false w args)
      (Rows.policyCutSpec.post enc Tryz.prog Tryz.f10 false true false false):=by
  refine returnsInHanded_of_change_and (C:=Tryz.checked) (X:=fun w _=>laidMetH Tryz.prog Rows.policyCutRow.laid w) (fun _ _ _ hh h=>h.of_heap hh) own started (by kernel_rfl) Tryz.func10
    (ChangeSpec.witness_shaped (enc:=enc) (C:=Tryz.checked) (os:=os) (X:=fun w _=>laidMetH Tryz.prog Rows.policyCutRow.laid w) false (World.laidAll Tryz.prog os Rows.policyCutRow.laid) #[.slice none 0 0,.int .i64 0] 8 (World.laidAll_os _ _ _)
      (World.shaped_of_ZipB (by kernel_rfl) (by kernel_rfl)) (by kernel_rfl) (by kernel_rfl) (by kernel_rfl)
      (by rw[MakeChecks.laidMetH_plain _ _ _ (by kernel_rfl)];exact laidMet_laidAll _ (by kernel_rfl) (by kernel_rfl))) ?_
  intro W base args ds gs before hval hW _ _ hL _;exact pZ H enc W args ds gs before hL (fun j t v h1 h2=>(hval j t v h1 h2)) hW
theorem yR :Rows.PolicyCutSaid:=
  OpenClaim.holds_of_wide 10 Tryz.f10 rfl rfl rfl rfl rfl rfl rfl ⟨rfl,rfl,rfl,rfl,rfl⟩ rfl rfl rfl rfl rfl (by kernel_rfl) Tryz.func10 (by kernel_rfl)
    (of_decide_eq_true (by kernel_rfl)) (by unfold Func.isWrapper;first|(rw[if_pos (by decide+kernel)];kernel_rfl)|(rw[if_neg (by decide+kernel)];exact⟨rfl,rfl⟩))
    (fun os started H enc _=>tL os started H enc)
theorem policyCut_said :Rows.PolicyCutCardSaid:=
  Claim7.holds_tied_plain_at .later [] [.data,.data,.data,.data,.pinned] true (true,"ff5d47cd62c7d13f21802cca9c8b9512cc3c2844dd4407b78ea0f3c0525ec3f2") false yR (fun _ h=>by cases h) (by kernel_rfl) (fun _ h=>by cases h) policyCut_row_tie rfl ⟨rfl,rfl⟩ (by kernel_rfl) rfl
    (fun f fn hf hfn=>by
      obtain rfl:f=10:=Option.some.inj ((show Tryz.prog.funcNamed "admission/admissionlaw28.PolicyCut" =some 10 by kernel_rfl).symm.trans hf)|>.symm;obtain rfl:fn=Tryz.f10:=(Option.some.inj (Tryz.func10.symm.trans hfn)).symm;exact⟨by kernel_rfl,fun j t ht=>by
        rw[Tryz.params10]at ht;have hm:t∈[23,3]:=by simpa using Array.mem_of_getElem? ht
        have hall:([23,3].all fun u=>!Tryz.prog.wantsStandIn u)=true:=by kernel_rfl
        exact(show Tryz.prog.wantsStandIn t=false by simpa using List.all_eq_true.1 hall t hm)⟩)
    (by kernel_rfl)
#print axioms policyCut_said
end Go.Proofs.YtlldglbooaefhaaGreatDoor
