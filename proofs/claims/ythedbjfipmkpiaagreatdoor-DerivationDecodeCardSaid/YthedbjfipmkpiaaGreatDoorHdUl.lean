/- Part of a proof: walks of functions of the program, by contracts, and the rules they use. By an AI agent. -/
import Derived.Test.YthedbjfipmkpiaaGreatDoorPl02g
import Derived.Test.YthedbjfipmkpiaaGreatDoorHdTk
import Derived.Test.YthedbjfipmkpiaaGreatDoorHdSb
import Derived.Test.YthedbjfipmkpiaaGreatDoorHlIt
import Derived.Test.YthedbjfipmkpiaaGreatDoorHlMc
import Derived.Test.YthedbjfipmkpiaaGreatDoorHdX3
import Derived.Test.YthedbjfipmkpiaaGreatDoorHlTlaw
import Derived.Test.YthedbjfipmkpiaaGreatDoorPl18e
import Derived.Shelf.GgSortFunc.InsertionK
import Derived.Sort.Statements
import Derived.Shelf.RegionOpenPlain
import Derived.WalkKit
import Derived.Deep.LoopGhost
import Derived.Lib.Walk
import Derived.Lib.SliceRun
import Derived.Test.YthedbjfipmkpiaaGreatDoorChecked
set_option linter.unusedSimpArgs false
set_option linter.unusedVariables false
set_option linter.defProp false
namespace Go.Proofs.YthedbjfipmkpiaaGreatDoor
open Go Go.Hl Go.Pl
set_option maxRecDepth 10000
set_option maxHeartbeats 16000000
theorem aV (id n sz m:Nat):(cM id n sz m).sto=true:=by unfold cM;split<;>rfl
theorem aS (id n sz m:Nat):(cM id n sz m).cells=1:=by unfold cM;split<;>rfl
theorem aQ (id n sz m:Nat):(cM id n sz m).toC=none:=by unfold cM;split<;>rfl
theorem zO (id n sz m:Nat):(cM id n sz m= .junk)=False:=by unfold cM;split<;>simp
theorem cG (id n sz:Nat):cM id n sz n= .own id n:=by unfold cM;rw[if_pos rfl]
variable {m:Nat}
theorem cB {id n sz:Nat}(h:m≠n):cM id n sz m= .osl id n 0 sz m:=by unfold cM;rw[if_neg h]
theorem bJ {M:Nat→Prop}{id n sz:Nat}(h:M id):(cM id n sz m).men M:=by unfold cM;split<;>exact h
theorem cL1 (l:List Nd)(hn: ∀n∈l,n.q.t.length<2^63)(tr:List Bool)(htr:tr.length<2^63):cJ Tryz.prog 18 [.slc (l.map Nd.cv),.slc (tr.map bC)] (fun v=>v= .bool (mF l tr)):=by
 refine FW Tryz.func18 ?_;have F:=rI;refine RF ?_;refine aB fun K hK=>Rg ?_;refine SF ?_;refine HS rfl rfl fun K' hK'=>T6 ?_;refine C1 (aG5 l hn) ?_;rintro u rfl;refine AX (hK' _ _ ?_);clear hK' K';iterate 3 refine SF ?_
 simp only[sE,↓reduceIte,simprocAttr,rI];refine AX (hK _ _ _ ?_);clear hK K;refine aB fun K hK=>?_;refine RF ?_;refine aH (b:=(((gI l).length:Int)==0)) rfl (fun hb=>?_) (fun hb=>?_)
 ·
  refine RF ?_;refine aF ?_;simp only[bS,Tryz.results18,bN,bR,bM,↓sP,sA,tyS,simprocAttr,rI];have hlv:gI l=[]:=by simpa using hb
  have htf:eN l=false:=by
   cases h:eN l with
   |false=>rfl
   |true=>
    have h1:=aP3 (jL h);rw[nH h]at hlv;have h2:=iO l 0;rw[hlv]at h2;simp at h2;omega
  exact aJ [] (.bool false) rfl (by rw[mF,htf];rfl)
 have htt:eN l=true:=by
  cases h:eN l with
  |true=>rfl
  |false=>rw[wK h]at hb;simp at hb
 have ht:=jL htt;have hl:=ht.len;have hlen:(gI l).length=lv l:=by rw[nH htt,iO]
 rw[hlen];clear hb;refine aK ?_;refine TQ rI ?_;refine AX (hK _ _ _ ?_);clear hK K;refine RF ?_;refine aB fun K hK=>?_;refine aB fun K hK=>Rg ?_;refine S0 ?_ (e:=fun _ h_=>by simp only[sH,↓sP,sA,tyS,simprocAttr,rI,denilL_Nd,nN,iW,List.range',List.map_cons,List.map_nil];exact AX h_);refine HS rfl rfl fun K' hK'=>?_;simp only[sH,↓sP,sA,tyS,simprocAttr,rI,denilL_Nd,nN,iW,List.range',List.map_cons,List.map_nil];refine uP (args:=[_]) (cL0 l) (by simp) ⟨rfl,rfl,rfl,rfl⟩ ?_;refine AX (hK' _ _ ?_);clear hK' K';simp only[sE,↓reduceIte,simprocAttr,rI];refine AX (hK _ _ _ ?_);clear hK K;refine aN ?_;refine dQ 36 0 4 1 rfl rfl rfl rfl ?_;refine aD8 (ids:=[44]) (fin [(3,.ptr 0 0),(5,.ptr 20 0),(6,.ptr 36 0)]) (fun i=>fob [(0,.box 37 (.c (.slc (tr.map bC)))),(20,.box 3 (.c (.int .i64 (lv (l.take (l.length-i)):Nat)))),(36,.box 37 (cM 48 (cO l tr i).1.length 1 (cO l tr i).2)),(48,.row 4 1 ((cO l tr i).1.map bC))]) 20000 (fun i=>EvOk l tr i) (EvOk.zero l tr) (bP4 l (by omega)) rfl rfl (by decide) ?_ ?_ ?_ ?_ ?_ rfl rfl ?_ ?_
 ·
  intro j x hx
  match j,hx with
  |0,hx=>cases hx;rfl
 · exact aM (by omega) (by simp[aW,fin_at,finA_at,upd_at,HV.men,HV.menL,HV.norm,HV.toC,HV.toCL,nN,cO,cG,List.take_length]) (by simp[aX,fob_at,upd_at,none0_at,bT,HO.men,HV.men,HV.menL,HV.norm,HV.toC,HV.toCL,nN,cO,cG,List.take_length])
 · intro id hid;simp only[List.mem_cons,List.not_mem_nil,or_false]at hid;subst hid;rfl
 · intro x hx;obtain⟨p,_,rfl⟩:=List.mem_map.1 hx;rfl
 · intro p hp;simp only[List.mem_cons,List.not_mem_nil,or_false]at hp;rcases hp with rfl|rfl<;>exact Nat.le_of_ble_eq_true rfl
 ·
  intro i hi hΦ K hK;have hi2:i<l.length:=by rw[←tQ l];exact hi
  have hp:l.length-1-i<l.length:=by omega
  rw[cC1 hi hp];simp only[yN];obtain⟨w,hw⟩: ∃w,w=(cO l tr i).1:=⟨_,rfl⟩;obtain⟨m,hm⟩: ∃m,m=(cO l tr i).2:=⟨_,rfl⟩;have hfit:=hΦ.fit;have hsmall:=hΦ.small;rw[←hw,←hm]at hfit;rw[←hw]at hsmall;rw[←hw,←hm];refine aD (by kernel_rfl) ?_;refine TQ rI ?_;refine AX (hK _ _ _ ?_);clear hK K;refine aN ?_;refine aB fun K hK=>?_;refine RF ?_;refine aH (b:=(l[l.length-1-i].k==1)) rfl (fun hb=>?_) (fun hb=>?_)
  ·
   have hk1:l[l.length-1-i].k=1:=by simpa using hb
   obtain⟨hok,hst⟩:=hΦ.leaf hi2 hk1;rw[←hw,←hm]at hst;have hlv:=bH4 hp;rw[if_pos hk1,show l.length-1-i+1=l.length-i from by omega]at hlv;have hlb:=bA6 l (l.length-1-i);have hw1:IntKind.i64.wrap ((lv (l.take (l.length-i)):Int)-1)=((lv (l.take (l.length-1-i)):Nat):Int):=by rw[hlv,dW _ (by omega)];omega
   obtain⟨x,hx⟩: ∃x,x=lv (l.take (l.length-1-i)):=⟨_,rfl⟩;have hxl:l.length-(i+1)=l.length-1-i:=by omega
   rw[←hx]at hw1 hst;clear hb;have F:=aI rI hw1;refine RF ?_;by_cases hlt:x<tr.length
   ·
    by_cases hmw:m=w.length
    ·
     subst hmw;have hg:tr.getD x false=tr[x]:=by simp[hlt]
     refine aB fun K hK=>dM mixed [(0,[],[]),(1,[],[]),(2,[],[]),(3,[],[]),(4,[],[]),(5,[],[]),(6,[],[]),(7,[],[]),(8,[],[]),(9,[],[]),(10,[],[]),(11,[],[]),(12,[],[]),(13,[],[])] [0,0,0,4,14,30,62,62,254,510,1022,2046,4095,8191] (by kernel_rfl) (by kernel_rfl) (by kernel_rfl) (by kernel_rfl) rfl (by kernel_rfl) ?_;iterate 14 refine WG0 ?_ (e:=fun _ h_=>by simp only[sH,↓sP,sA,tyS,simprocAttr,rI,Int.natCast_nonneg,Int.ofNat_lt,hlt,bP hlt,bC,cG,aV,aS,aQ];exact AX h_)
     simp only[sE,↓reduceIte,simprocAttr,rI];refine AX (hK _ _ _ ?_);clear hK K;refine bA ?_;refine TQ rI ?_;clear hK K;rw[hg,aG6]at hst;refine⟨(show Fits 20000 _ _ (fin []) _ 20000 from aM (by omega) trivial ?_),hok⟩;rw[hst,hxl,←hx];simp[aX,fob_at,upd_at,none0_at,bT,HO.men,HV.men,HV.menL,HV.norm,HV.toC,HV.toCL,cG,bC]
    have hg:tr.getD x false=tr[x]:=by simp[hlt]
    have hmw2:m+1≤w.length:=by omega
    have hw0:0<w.length:=by omega
    have hrow:(mM w m tr[x]).map bC=(w.map bC).take m++[.bool tr[x]]++(w.map bC).drop (m+1):=by simp[mM,List.map_take,List.map_drop,bC]
    refine aB fun K hK=>dM mixed [(0,[],[]),(1,[],[]),(2,[],[]),(3,[],[]),(4,[],[]),(5,[],[]),(6,[],[]),(7,[],[]),(8,[],[]),(9,[],[]),(10,[],[]),(11,[],[]),(12,[],[]),(13,[],[])] [0,0,0,4,14,30,62,62,254,510,1022,2046,4095,8191] (by kernel_rfl) (by kernel_rfl) (by kernel_rfl) (by kernel_rfl) rfl (by kernel_rfl) ?_;iterate 12 refine WG0 ?_ (e:=fun _ h_=>by simp only[sH,↓sP,sA,tyS,simprocAttr,rI,Int.natCast_nonneg,Int.ofNat_lt,hlt,bP hlt,bC,cB hmw,aV,aS,aQ,hw0,hmw2];exact AX h_)
    refine bO (g:=none) rfl rfl fun K' hK'=>?_;simp only[sN,↓hopH.eq_def,sH,↓sP,sA,tyS,simprocAttr,rI,Int.natCast_nonneg,Int.ofNat_lt,hlt,bP hlt,bC,cB hmw,aV,aS,aQ,hw0,hmw2];refine AX (hK' _ _ ?_);clear hK' K';refine WG0 ?_ (e:=fun _ h_=>by simp only[sH,↓sP,sA,tyS,simprocAttr,rI,Int.natCast_nonneg,Int.ofNat_lt,hlt,bP hlt,bC,cB hmw,aV,aS,aQ,hw0,hmw2];exact AX h_);simp only[sE,↓reduceIte,simprocAttr,rI];refine AX (hK _ _ _ ?_);clear hK K;refine bA ?_;refine TQ rI ?_;clear hK K;rw[hg]at hst;refine⟨(show Fits 20000 _ _ (fin []) _ 20000 from aM (by omega) trivial ?_),hok⟩;rw[hst,hxl,←hx];simp[aX,fob_at,upd_at,none0_at,bT,HO.men,HV.men,HV.menL,HV.norm,HV.toC,HV.toCL,mN hmw2,hrow,bJ,aQ]
   by_cases hmw:m=w.length
   ·
    subst hmw;have hg:tr.getD x false=false:=by simp[List.getD_eq_getElem?_getD,List.getElem?_eq_none (Nat.le_of_not_lt hlt)]
    have hlt':decide ((x:Int)<tr.length)=false:=by simp;omega
    refine aB fun K hK=>dM mixed [(0,[],[]),(1,[],[]),(2,[],[]),(3,[],[]),(4,[],[]),(5,[],[]),(6,[],[]),(7,[],[]),(8,[],[]),(9,[],[]),(10,[],[]),(11,[],[]),(12,[],[]),(13,[],[])] [0,0,0,4,14,30,62,62,254,510,1022,2046,4095,8191] (by kernel_rfl) (by kernel_rfl) (by kernel_rfl) (by kernel_rfl) rfl (by kernel_rfl) ?_;have F:=aI rI (aI hlt' (aI @cG (aI @aV (aI @aS @aQ))));iterate 14 refine WGF ?_
    simp only[sE,↓reduceIte,simprocAttr,rI];refine AX (hK _ _ _ ?_);clear hK K;refine bA ?_;refine TQ rI ?_;clear hK K;rw[hg,aG6]at hst;refine⟨(show Fits 20000 _ _ (fin []) _ 20000 from aM (by omega) trivial ?_),hok⟩;rw[hst,hxl,←hx];simp[aX,fob_at,upd_at,none0_at,bT,HO.men,HV.men,HV.menL,HV.norm,HV.toC,HV.toCL,cG,bC]
   have hg:tr.getD x false=false:=by simp[List.getD_eq_getElem?_getD,List.getElem?_eq_none (Nat.le_of_not_lt hlt)]
   have hlt':decide ((x:Int)<tr.length)=false:=by simp;omega
   have hmw2:m+1≤w.length:=by omega
   have hw0:0<w.length:=by omega
   have hrow:(mM w m false).map bC=(w.map bC).take m++[.bool false]++(w.map bC).drop (m+1):=by simp[mM,List.map_take,List.map_drop,bC]
   refine aB fun K hK=>dM mixed [(0,[],[]),(1,[],[]),(2,[],[]),(3,[],[]),(4,[],[]),(5,[],[]),(6,[],[]),(7,[],[]),(8,[],[]),(9,[],[]),(10,[],[]),(11,[],[]),(12,[],[]),(13,[],[])] [0,0,0,4,14,30,62,62,254,510,1022,2046,4095,8191] (by kernel_rfl) (by kernel_rfl) (by kernel_rfl) (by kernel_rfl) rfl (by kernel_rfl) ?_;iterate 12 refine WG0 ?_ (e:=fun _ h_=>by simp only[sH,↓sP,sA,tyS,simprocAttr,rI,hlt',cB hmw,aV,aS,aQ,hw0,hmw2];exact AX h_)
   refine bO (g:=none) rfl rfl fun K' hK'=>?_;simp only[sN,↓hopH.eq_def,sH,↓sP,sA,tyS,simprocAttr,rI,hlt',cB hmw,aV,aS,aQ,hw0,hmw2];refine AX (hK' _ _ ?_);clear hK' K';refine WG0 ?_ (e:=fun _ h_=>by simp only[sH,↓sP,sA,tyS,simprocAttr,rI,hlt',cB hmw,aV,aS,aQ,hw0,hmw2];exact AX h_);simp only[sE,↓reduceIte,simprocAttr,rI];refine AX (hK _ _ _ ?_);clear hK K;refine bA ?_;refine TQ rI ?_;clear hK K;rw[hg]at hst;refine⟨(show Fits 20000 _ _ (fin []) _ 20000 from aM (by omega) trivial ?_),hok⟩;rw[hst,hxl,←hx];simp[aX,fob_at,upd_at,none0_at,bT,HO.men,HV.men,HV.menL,HV.norm,HV.toC,HV.toCL,mN hmw2,hrow,bJ,aQ]
  have hk1:l[l.length-1-i].k≠1:=by simpa using hb
  obtain⟨hcm,hok,hst⟩:=hΦ.inner ht hi2 hk1;rw[←hw,←hm]at hst;rw[←hm]at hcm;obtain⟨c1,c2,c3,c4⟩:=iB (ht.node _ (List.getElem_mem hp));have c5:=c4 hk1;have hlv:=bH4 hp;rw[if_neg hk1,Nat.add_zero,show l.length-1-i+1=l.length-i from by omega]at hlv;have hxl:l.length-(i+1)=l.length-1-i:=by omega
  obtain⟨f,hf⟩: ∃f,f=m-l[l.length-1-i].c.toNat:=⟨_,rfl⟩;have hfc:m-f=l[l.length-1-i].c.toNat:=by omega
  rw[←hf,←hfc]at hst;have hw2:IntKind.i64.wrap ((m:Int)-l[l.length-1-i].c)=(f:Int):=by rw[dW _ (by omega)];omega
  have hf1:f+1≤w.length:=by omega
  have hfw:f≤w.length:=by omega
  have hfm:f≤m:=by omega
  have hw0:0<w.length:=by omega
  obtain⟨h,hh⟩: ∃h,h=kJ l[l.length-1-i] ((w.drop f).take (m-f)):=⟨_,rfl⟩;rw[←hh]at hst;have hrow:(mM w f h).map bC=(w.map bC).take f++[.bool h]++(w.map bC).drop (f+1):=by simp[mM,List.map_take,List.map_drop,bC]
  clear hb;refine aK ?_;refine TQ rI ?_;refine AX (hK _ _ _ ?_);clear hK K;by_cases hmw:m=w.length
  ·
   rw[←hmw]at hw0 hf1 hfw;refine aB fun K hK=>Rg ?_;iterate 6 refine S0 ?_ (e:=fun _ h_=>by simp only[sH,↓sP,sA,tyS,simprocAttr,rI,cG,←hmw,List.length_map,hw2];exact AX h_)
   simp only[sE,↓reduceIte,simprocAttr,rI];refine AX (hK _ _ _ ?_);clear hK K;refine dM mixed [(0,[],[]),(1,[],[]),(2,[],[]),(3,[],[]),(4,[],[]),(5,[],[]),(6,[],[]),(7,[],[0,1,2]),(8,[],[]),(9,[],[]),(10,[],[])] [0,0,3,0,0,0,48,120,248,511,1023] (by kernel_rfl) (by kernel_rfl) (by kernel_rfl) (by kernel_rfl) rfl (by kernel_rfl) ?_;iterate 7 refine WG0 ?_ (e:=fun _ h_=>by simp only[sH,↓sP,sA,tyS,simprocAttr,rI,cG,aV,aS,aQ,←hmw,List.length_map,Int.natCast_nonneg,Int.ofNat_le,hfw];exact AX h_)
   refine pZ (g:=none) rfl rfl fun K' hK'=>?_;simp only[sN,↓hopH.eq_def,sH,↓sP,sA,tyS,simprocAttr,rI,cG,aV,aS,aQ,←hmw,List.length_map,Int.natCast_nonneg,Int.ofNat_le,hfw];refine aQ0 [48] (aU1 l[l.length-1-i] w f m (by omega) (by omega) (by omega) (by omega)) (by first|rfl|(rw[←hmw];rfl)) ⟨rfl,trivial⟩ (by simp) ?_ ?_ ?_ ?_ ?_
   ·
    intro j hj
    match j,hj with
    |0,_=>exact .inr ⟨by decide,fun r os' h=>by rw[h.2]⟩
   · exact⟨rfl,rfl,rfl,rfl⟩
   · simp[eH,HO.men]
   · simp[HV.menL,HV.men]
   rintro r os' ⟨rfl,rfl⟩;rw[←hh,show∀n ob,kL (sub [48] n) ob 0 [.row 4 1 (w.map bC)]=upd ob 48 (some (.row 4 1 (w.map bC)))from fun _ _=>rfl,show∀n b,HV.ren (sub [48] n) (.c b)= .c b from fun _ _=>rfl];refine AX (hK' _ _ ?_);clear hK' K';refine WG0 ?_ (e:=fun _ h_=>by simp only[sH,↓sP,sA,tyS,simprocAttr,rI,cG,aV,aS,aQ,←hmw,List.length_map,Int.natCast_nonneg,Int.ofNat_le,hfw];exact AX h_);refine bO (g:=none) rfl rfl fun K' hK'=>?_;simp only[sN,↓hopH.eq_def,sH,↓sP,sA,tyS,simprocAttr,rI,cG,aV,aS,aQ,←hmw,List.length_map,Int.natCast_nonneg,Int.ofNat_le,hfw];refine AX (hK' _ _ ?_);clear hK' K';refine WG0 ?_ (e:=fun _ h_=>by simp only[sH,↓sP,sA,tyS,simprocAttr,rI,cG,aV,aS,aQ,←hmw,List.length_map,Int.natCast_nonneg,Int.ofNat_le,hfw];exact AX h_);simp only[sE,↓reduceIte,simprocAttr,rI];refine⟨(show Fits 20000 _ _ (fin []) _ 20000 from aM (by omega) trivial ?_),hok⟩;rw[hst,hxl,hlv];simp[aX,fob_at,upd_at,none0_at,bT,HO.men,HV.men,HV.menL,HV.norm,HV.toC,HV.toCL,mN (show f+1≤w.length by omega),hrow,bJ,aQ,←hmw]
  refine aB fun K hK=>Rg ?_;iterate 6 refine S0 ?_ (e:=fun _ h_=>by simp only[sH,↓sP,sA,tyS,simprocAttr,rI,cB hmw,List.length_map,hw0,hfit,Nat.zero_le,List.length_take,List.length_drop,Nat.sub_zero,Nat.min_eq_left hfit,hw2];exact AX h_)
  simp only[sE,↓reduceIte,simprocAttr,rI];refine AX (hK _ _ _ ?_);clear hK K;refine dM mixed [(0,[],[]),(1,[],[]),(2,[],[]),(3,[],[]),(4,[],[]),(5,[],[]),(6,[],[]),(7,[],[0,1,2]),(8,[],[]),(9,[],[]),(10,[],[])] [0,0,3,0,0,0,48,120,248,511,1023] (by kernel_rfl) (by kernel_rfl) (by kernel_rfl) (by kernel_rfl) rfl (by kernel_rfl) ?_;iterate 2 refine WG0 ?_ (e:=fun _ h_=>by simp only[sH,↓sP,sA,tyS,simprocAttr,rI,aV,aS,aQ,cB hmw,List.length_map,Int.natCast_nonneg,Int.ofNat_le,hfw,hfm];exact AX h_)
  refine bO (g:=none) rfl rfl fun K' hK'=>?_;simp only[sN,↓hopH.eq_def,sH,↓sP,sA,tyS,simprocAttr,rI,aV,aS,aQ,cB hmw,List.length_map,Int.natCast_nonneg,Int.ofNat_le,hfw,hfm];refine AX (hK' _ _ ?_);clear hK' K';iterate 3 refine WG0 ?_ (e:=fun _ h_=>by simp only[sH,↓sP,sA,tyS,simprocAttr,rI,aV,aS,aQ,cB hmw,List.length_map,Int.natCast_nonneg,Int.ofNat_le,hfw,hfm];exact AX h_)
  refine bO (g:=none) rfl rfl fun K' hK'=>?_;simp only[sN,↓hopH.eq_def,sH,↓sP,sA,tyS,simprocAttr,rI,aV,aS,aQ,cB hmw,List.length_map,Int.natCast_nonneg,Int.ofNat_le,hfw,hfm];refine AX (hK' _ _ ?_);clear hK' K';refine pZ (g:=none) rfl rfl fun K' hK'=>?_;simp only[sN,↓hopH.eq_def,sH,↓sP,sA,tyS,simprocAttr,rI,aV,aS,aQ,cB hmw,List.length_map,Int.natCast_nonneg,Int.ofNat_le,hfw,hfm];refine aQ0 [48] (aU1 l[l.length-1-i] w f m (by omega) (by omega) (by omega) (by omega)) (by first|rfl|(rw[←hmw];rfl)) ⟨rfl,trivial⟩ (by simp) ?_ ?_ ?_ ?_ ?_
  ·
   intro j hj
   match j,hj with
   |0,_=>exact .inr ⟨by decide,fun r os' h=>by rw[h.2]⟩
  · exact⟨rfl,rfl,rfl,rfl⟩
  · simp[eH,HO.men]
  · simp[HV.menL,HV.men]
  rintro r os' ⟨rfl,rfl⟩;rw[←hh,show∀n ob,kL (sub [48] n) ob 0 [.row 4 1 (w.map bC)]=upd ob 48 (some (.row 4 1 (w.map bC)))from fun _ _=>rfl,show∀n b,HV.ren (sub [48] n) (.c b)= .c b from fun _ _=>rfl];refine AX (hK' _ _ ?_);clear hK' K';refine WG0 ?_ (e:=fun _ h_=>by simp only[sH,↓sP,sA,tyS,simprocAttr,rI,aV,aS,aQ,cB hmw,List.length_map,Int.natCast_nonneg,Int.ofNat_le,hfw,hfm];exact AX h_);refine bO (g:=none) rfl rfl fun K' hK'=>?_;simp only[sN,↓hopH.eq_def,sH,↓sP,sA,tyS,simprocAttr,rI,aV,aS,aQ,cB hmw,List.length_map,Int.natCast_nonneg,Int.ofNat_le,hfw,hfm];refine AX (hK' _ _ ?_);clear hK' K';refine WG0 ?_ (e:=fun _ h_=>by simp only[sH,↓sP,sA,tyS,simprocAttr,rI,aV,aS,aQ,cB hmw,List.length_map,Int.natCast_nonneg,Int.ofNat_le,hfw,hfm];exact AX h_);simp only[sE,↓reduceIte,simprocAttr,rI];refine⟨(show Fits 20000 _ _ (fin []) _ 20000 from aM (by omega) trivial ?_),hok⟩;rw[hst,hxl,hlv];simp[aX,fob_at,upd_at,none0_at,bT,HO.men,HV.men,HV.menL,HV.norm,HV.toC,HV.toCL,mN hf1,hrow,bJ,aQ]
 intro hΦ;simp only[sE,↓reduceIte,simprocAttr,rI];have hfin:=hΦ;rw[tQ]at hfin;obtain⟨h1,h0,h2⟩:=hfin.fin ht;rw[tQ,h1];obtain⟨w,hw⟩: ∃w,w=(cO l tr l.length).1:=⟨_,rfl⟩;rw[←hw]at h0;have h3:mF l tr=w[0]:=by rw[h2];simp only[hw]
 rw[←hw];refine AX (hK _ _ _ ?_);clear hK K;by_cases hw1:w.length=1
 ·
  rw[hw1];refine aB fun K hK=>Rg ?_;iterate 4 refine S0 ?_ (e:=fun _ h_=>by simp only[sH,↓sP,sA,tyS,simprocAttr,rI,cG,bP h0,bC,Nat.lt_irrefl];exact AX h_)
  simp only[sE,↓reduceIte,simprocAttr,rI];refine AX (hK _ _ _ ?_);clear hK K;refine aF ?_;simp only[bS,Tryz.results18,bN,bR,bM,↓sP,sA,tyS,simprocAttr,rI];exact aJ [] (.bool w[0]) rfl (by rw[h3])
 refine aB fun K hK=>Rg ?_;iterate 4 refine S0 ?_ (e:=fun _ h_=>by simp only[sH,↓sP,sA,tyS,simprocAttr,rI,cB (Ne.symm hw1),bP h0,bC,h0];exact AX h_)
 simp only[sE,↓reduceIte,simprocAttr,rI];refine AX (hK _ _ _ ?_);clear hK K;refine aF ?_;simp only[bS,Tryz.results18,bN,bR,bM,↓sP,sA,tyS,simprocAttr,rI];exact aJ [] (.bool w[0]) rfl (by rw[h3])
theorem cC7 (S:List Sp)(hl:S.length<2^40):cJ Tryz.prog 19 [.slc (S.map Sp.cv)] (fun v=>v= .slc ((eD S).map bC)):=by
 refine cI Tryz.func19 rfl (by kernel_rfl) (dT _) (Nat.le_of_ble_eq_true rfl) ?_;refine aB fun K hK=>aD (by kernel_rfl) ?_;simp (maxSteps:=4000000) only[↓sP,sA,tyS,simprocAttr,rpost_exit,rpost_normal,rpost_ret,hscope_exit,hscope_normal,hscope_ret,ithen_normal,ithen_exit,ithen_ret,iblk_normal,iblk_exit,iblk_ret];repeat refine AI ?_
 refine hK _ _ _ ?_;clear hK K;refine aB fun K hK=>aD (by kernel_rfl) ?_;simp (maxSteps:=4000000) only[↓sP,sA,tyS,simprocAttr,rpost_exit,rpost_normal,rpost_ret,hscope_exit,hscope_normal,hscope_ret,ithen_normal,ithen_exit,ithen_ret,iblk_normal,iblk_exit,iblk_ret];repeat refine AI ?_
 refine hK _ _ _ ?_;clear hK K;refine aB fun K hK=>?_;refine aB fun K hK=>aD (by kernel_rfl) ?_;simp (maxSteps:=4000000) only[↓sP,sA,tyS,simprocAttr,rpost_exit,rpost_normal,rpost_ret,hscope_exit,hscope_normal,hscope_ret,ithen_normal,ithen_exit,ithen_ret,iblk_normal,iblk_exit,iblk_ret];repeat refine AI ?_
 refine hK _ _ _ ?_;clear hK K;refine aN ?_;refine gQ 3 0 4 1 rfl rfl rfl rfl ?_;refine bF (α:={i:Nat//i≤S.length}) (fun i=>(fin [(3,.own 20 i.1),(6,.c (.slc (S.map Sp.cv))),(7,.c (.int .i64 S.length)),(8,.c (.int .i64 i.1))],fob [(20,.row 4 1 ((eD (S.take i.1)).map bC))])) 100 (fun i=>S.length-i.1) ⟨0,by omega⟩ (aM (by omega) (by simp[aW,fin_at,finA_at,upd_at,HV.men,HV.menL,HV.norm,HV.toC,HV.toCL,eD]) (by simp[aX,fob_at,upd_at,none0_at,bT,HO.men,HV.men,HV.menL,HV.norm,HV.toC,HV.toCL,eD])) ?_;rintro⟨i,hi⟩;have hti:(eD (S.take i)).length=i:=by simp[eD];omega
 refine aB fun K hK=>aD (by kernel_rfl) ?_;simp (maxSteps:=4000000) only[↓sP,sA,tyS,simprocAttr,rpost_exit,rpost_normal,rpost_ret,hscope_exit,hscope_normal,hscope_ret,ithen_normal,ithen_exit,ithen_ret,iblk_normal,iblk_exit,iblk_ret];repeat refine AI ?_
 refine hK _ _ _ ?_;clear hK K;refine aB fun K hK=>?_;refine aH (b:=decide ((i:Int)<S.length)) rfl (fun hb=>?_) (fun hb=>?_)
 ·
  have hlt:i<S.length:=by simpa using hb
  have hsn:eD (S.take (i+1))=eD (S.take i)++[S[i].h]:=by rw[List.take_succ_eq_append_getElem hlt];unfold eD;rw[List.map_append];rfl
  clear hb;refine aK ?_;simp (maxSteps:=4000000) only[↓sP,sA,tyS,simprocAttr,rpost_exit,rpost_normal,rpost_ret,hscope_exit,hscope_normal,hscope_ret,ithen_normal,ithen_exit,ithen_ret,iblk_normal,iblk_exit,iblk_ret];repeat refine AI ?_
  refine hK _ _ _ ?_;clear hK K;refine aB fun K hK=>?_;refine aN ?_;refine aB fun K hK=>aD (by kernel_rfl) ?_;simp only[sR,simprocAttr];iterate 4
   (refine aE (g:=none) rfl rfl fun K' hK'=>?_;simp only[sH,↓sP,sA,tyS,simprocAttr,rpost_exit,rpost_normal,rpost_ret,hscope_exit,hscope_normal,hscope_ret,ithen_normal,ithen_exit,ithen_ret,iblk_normal,iblk_exit,iblk_ret,Int.natCast_nonneg,Int.ofNat_lt,hlt,bP hlt];(repeat refine AI ?_);refine hK' _ _ ?_;clear hK' K')
  simp only[sE,↓reduceIte,simprocAttr,rpost_exit,rpost_normal,rpost_ret,hscope_exit,hscope_normal,hscope_ret,ithen_normal,ithen_exit,ithen_ret,iblk_normal,iblk_exit,iblk_ret];repeat refine AI ?_
  refine hK _ _ _ ?_;clear hK K;refine aD (by kernel_rfl) ?_;simp only[sR,simprocAttr];iterate 6
   (refine aE (g:=none) rfl rfl fun K' hK'=>?_;simp only[sH,↓sP,sA,tyS,simprocAttr,rpost_exit,rpost_normal,rpost_ret,hscope_exit,hscope_normal,hscope_ret,ithen_normal,ithen_exit,ithen_ret,iblk_normal,iblk_exit,iblk_ret,hti];(repeat refine AI ?_);refine hK' _ _ ?_;clear hK' K')
  simp only[sE,↓reduceIte,simprocAttr,rpost_exit,rpost_normal,rpost_ret,hscope_exit,hscope_normal,hscope_ret,ithen_normal,ithen_exit,ithen_ret,iblk_normal,iblk_exit,iblk_ret];repeat refine AI ?_
  refine hK _ _ _ ?_;clear hK K;refine aD (by kernel_rfl) ?_;simp (maxSteps:=4000000) only[↓sP,sA,tyS,simprocAttr,rpost_exit,rpost_normal,rpost_ret,hscope_exit,hscope_normal,hscope_ret,ithen_normal,ithen_exit,ithen_ret,iblk_normal,iblk_exit,iblk_ret,IntWalk.i64_in _ (show-9223372036854775808≤(i:Int)+1∧(i:Int)+1≤9223372036854775807 by omega)];refine⟨⟨i+1,by omega⟩,(aM (by omega) (by simp[aW,fin_at,finA_at,upd_at,HV.men,HV.menL,HV.norm,HV.toC,HV.toCL,hsn,bC,hti]) (by simp[aX,fob_at,upd_at,none0_at,bT,HO.men,HV.men,HV.menL,HV.norm,HV.toC,HV.toCL,hsn,bC,hti])),?_⟩;show S.length-(i+1)<S.length-i;omega
 have hie:i=S.length:=by simp at hb;omega
 subst hie;refine bA ?_;simp (maxSteps:=4000000) only[↓sP,sA,tyS,simprocAttr,rpost_exit,rpost_normal,rpost_ret,hscope_exit,hscope_normal,hscope_ret,ithen_normal,ithen_exit,ithen_ret,iblk_normal,iblk_exit,iblk_ret];clear hK K;repeat refine AI ?_
 refine hK _ _ _ ?_;clear hK K;refine aB fun K hK=>aD (by kernel_rfl) ?_;simp (maxSteps:=4000000) only[↓sP,sA,tyS,simprocAttr,rpost_exit,rpost_normal,rpost_ret,hscope_exit,hscope_normal,hscope_ret,ithen_normal,ithen_exit,ithen_ret,iblk_normal,iblk_exit,iblk_ret];repeat refine AI ?_
 refine hK _ _ _ ?_;clear hK K;refine aF ?_;simp (maxSteps:=4000000) only[bS,Tryz.results19,bN,bR,bM,↓sP,sA,tyS,simprocAttr,rpost_exit,rpost_normal,rpost_ret,hscope_exit,hscope_normal,hscope_ret,ithen_normal,ithen_exit,ithen_ret,iblk_normal,iblk_exit,iblk_ret];have htl:(eD S).length=S.length:=by simp[eD]
 exact aJ [20] (.slc ((eD S).map bC)) (by simp[HV.close,fob_at,upd_at,HV.norm,HV.toC,htl,List.take_length]) rfl
theorem bP5 (l:List Nat)(x:Nat)(hl:l.length<2^40):cJ Tryz.prog 103 [.slc (l.map iC),.int .i64 x] (fun v=> ∀k,(∀j,j<k→l[j]? ≠some x)→l[k]? =some x→v= .int .i64 (k:Nat)):=by
 refine cI Tryz.func103 rfl (by kernel_rfl) (dT _) (Nat.le_of_ble_eq_true rfl) ?_;refine aB fun K hK=>aD (by kernel_rfl) ?_;simp (maxSteps:=4000000) only[↓sP,sA,tyS,simprocAttr,rpost_exit,rpost_normal,rpost_ret,hscope_exit,hscope_normal,hscope_ret,ithen_normal,ithen_exit,ithen_ret,iblk_normal,iblk_exit,iblk_ret];repeat refine AI ?_
 refine hK _ _ _ ?_;clear hK K;refine aB fun K hK=>?_;refine aB fun K hK=>aD (by kernel_rfl) ?_;simp (maxSteps:=4000000) only[↓sP,sA,tyS,simprocAttr,rpost_exit,rpost_normal,rpost_ret,hscope_exit,hscope_normal,hscope_ret,ithen_normal,ithen_exit,ithen_ret,iblk_normal,iblk_exit,iblk_ret];repeat refine AI ?_
 refine hK _ _ _ ?_;clear hK K;refine aN ?_;refine bF (α:={i:Nat//i≤l.length∧ ∀j,j<i→l[j]? ≠some x}) (fun i=>(fin [(0,.c (.slc (l.map iC))),(1,.c (.int .i64 x)),(7,.c (.int .i64 l.length)),(8,.c (.int .i64 i.1))],fob [])) 100 (fun i=>l.length-i.1) ⟨0,by omega,fun j h=>by omega⟩ (aM (by omega) (by simp[aW,fin_at,finA_at,upd_at,HV.men,HV.menL,HV.norm,HV.toC,HV.toCL]) (by simp[aX,fob_at,upd_at,none0_at,bT,HO.men,HV.men,HV.menL,HV.norm,HV.toC,HV.toCL])) ?_;rintro⟨i,hi,hno⟩;refine aB fun K hK=>aD (by kernel_rfl) ?_;simp (maxSteps:=4000000) only[↓sP,sA,tyS,simprocAttr,rpost_exit,rpost_normal,rpost_ret,hscope_exit,hscope_normal,hscope_ret,ithen_normal,ithen_exit,ithen_ret,iblk_normal,iblk_exit,iblk_ret];repeat refine AI ?_
 refine hK _ _ _ ?_;clear hK K;refine aB fun K hK=>?_;refine aH (b:=decide ((i:Int)<l.length)) rfl (fun hb=>?_) (fun hb=>?_)
 ·
  have hlt:i<l.length:=by simpa using hb
  clear hb;refine aK ?_;simp (maxSteps:=4000000) only[↓sP,sA,tyS,simprocAttr,rpost_exit,rpost_normal,rpost_ret,hscope_exit,hscope_normal,hscope_ret,ithen_normal,ithen_exit,ithen_ret,iblk_normal,iblk_exit,iblk_ret];repeat refine AI ?_
  refine hK _ _ _ ?_;clear hK K;refine aB fun K hK=>?_;refine aN ?_;refine aB fun K hK=>aD (by kernel_rfl) ?_;simp (maxSteps:=4000000) only[↓sP,sA,tyS,simprocAttr,rpost_exit,rpost_normal,rpost_ret,hscope_exit,hscope_normal,hscope_ret,ithen_normal,ithen_exit,ithen_ret,iblk_normal,iblk_exit,iblk_ret];repeat refine AI ?_
  refine hK _ _ _ ?_;clear hK K;refine aB fun K hK=>aD (by kernel_rfl) ?_;simp only[sR,simprocAttr];iterate 6
   (refine aE (g:=none) rfl rfl fun K' hK'=>?_;simp only[sH,↓sP,sA,tyS,simprocAttr,rpost_exit,rpost_normal,rpost_ret,hscope_exit,hscope_normal,hscope_ret,ithen_normal,ithen_exit,ithen_ret,iblk_normal,iblk_exit,iblk_ret,Int.natCast_nonneg,Int.ofNat_lt,hlt,bP hlt,iC];(repeat refine AI ?_);refine hK' _ _ ?_;clear hK' K')
  simp only[sE,↓reduceIte,simprocAttr,rpost_exit,rpost_normal,rpost_ret,hscope_exit,hscope_normal,hscope_ret,ithen_normal,ithen_exit,ithen_ret,iblk_normal,iblk_exit,iblk_ret];repeat refine AI ?_
  refine hK _ _ _ ?_;clear hK K;refine aH (b:=((x:Int)==(l[i]:Int))) rfl (fun hb=>?_) (fun hb=>?_)
  ·
   refine aB fun K hK=>aD (by kernel_rfl) ?_;simp (maxSteps:=4000000) only[↓sP,sA,tyS,simprocAttr,rpost_exit,rpost_normal,rpost_ret,hscope_exit,hscope_normal,hscope_ret,ithen_normal,ithen_exit,ithen_ret,iblk_normal,iblk_exit,iblk_ret];repeat refine AI ?_
   refine hK _ _ _ ?_;clear hK K;refine aF ?_;simp (maxSteps:=4000000) only[bS,Tryz.results103,bN,bR,bM,↓sP,sA,tyS,simprocAttr,rpost_exit,rpost_normal,rpost_ret,hscope_exit,hscope_normal,hscope_ret,ithen_normal,ithen_exit,ithen_ret,iblk_normal,iblk_exit,iblk_ret];have hx:l[i]=x:=by
    have:(x:Int)=l[i]:=by simpa using hb
    omega
   exact aJ [] (.int .i64 (i:Nat)) rfl (fun k h1 h2=>by
    have e1: ¬i<k:=fun h=>h1 i h (by rw[List.getElem?_eq_getElem hlt,hx]);have e2: ¬k<i:=fun h=>hno k h h2;rw[show k=i by omega])
  refine aK ?_;simp (maxSteps:=4000000) only[↓sP,sA,tyS,simprocAttr,rpost_exit,rpost_normal,rpost_ret,hscope_exit,hscope_normal,hscope_ret,ithen_normal,ithen_exit,ithen_ret,iblk_normal,iblk_exit,iblk_ret];repeat refine AI ?_
  refine hK _ _ _ ?_;clear hK K;refine aD (by kernel_rfl) ?_;simp (maxSteps:=4000000) only[↓sP,sA,tyS,simprocAttr,rpost_exit,rpost_normal,rpost_ret,hscope_exit,hscope_normal,hscope_ret,ithen_normal,ithen_exit,ithen_ret,iblk_normal,iblk_exit,iblk_ret,IntWalk.i64_in _ (show-9223372036854775808≤(i:Int)+1∧(i:Int)+1≤9223372036854775807 by omega)];refine⟨⟨i+1,by omega,fun j h=>?_⟩,aM (by omega) (by simp[aW,fin_at,finA_at,upd_at,HV.men,HV.menL,HV.norm,HV.toC,HV.toCL]) (by simp[aX,fob_at,upd_at,none0_at,bT,HO.men,HV.men,HV.menL,HV.norm,HV.toC,HV.toCL]),?_⟩
  ·
   by_cases e:j=i
   ·
    subst e;have hx: ¬(x:Int)=l[j]:=by simpa using hb
    rw[List.getElem?_eq_getElem hlt];intro h;cases h;exact hx rfl
   exact hno j (by omega)
  show l.length-(i+1)<l.length-i;omega
 have hie:i=l.length:=by simp at hb;omega
 subst hie;refine bA ?_;simp (maxSteps:=4000000) only[↓sP,sA,tyS,simprocAttr,rpost_exit,rpost_normal,rpost_ret,hscope_exit,hscope_normal,hscope_ret,ithen_normal,ithen_exit,ithen_ret,iblk_normal,iblk_exit,iblk_ret];clear hK K;repeat refine AI ?_
 refine hK _ _ _ ?_;clear hK K;refine aB fun K hK=>aD (by kernel_rfl) ?_;simp (maxSteps:=4000000) only[↓sP,sA,tyS,simprocAttr,rpost_exit,rpost_normal,rpost_ret,hscope_exit,hscope_normal,hscope_ret,ithen_normal,ithen_exit,ithen_ret,iblk_normal,iblk_exit,iblk_ret];repeat refine AI ?_
 refine hK _ _ _ ?_;clear hK K;refine aF ?_;simp (maxSteps:=4000000) only[bS,Tryz.results103,bN,bR,bM,↓sP,sA,tyS,simprocAttr,rpost_exit,rpost_normal,rpost_ret,hscope_exit,hscope_normal,hscope_ret,ithen_normal,ithen_exit,ithen_ret,iblk_normal,iblk_exit,iblk_ret];exact aJ [] (.int .i64 (-1)) rfl (fun k h1 h2=>by
  have:=(List.getElem?_eq_some_iff.1 h2).1;exact absurd h2 (hno k this))
theorem rH (id n sz m:Nat):(cM id n sz m).norm=cM id n sz m:=by unfold cM;split<;>rfl
theorem kE {N:Nat→Nat}(id n sz m:Nat):(cM id n sz m).ren N=cM (N id) n sz m:=by unfold cM;split<;>rfl
variable {ob:Ob}
theorem tR (m n:Nat){L:List CV}(h:ob 1=some (.row 41 4 L)):(cM 1 n 4 m).close ob []=cM 1 n 4 m:=by
 unfold cM;split<;>simp[HV.close]
abbrev pvb (l:List Nd)(S:List Sp)(X:HV):HV:= .agg [.c (.slc (l.map Nd.cv)),.c (.slc ((gI l).map iC)),.c (.slc (S.map Sp.cv)),X]
abbrev osP (l:List Nd)(S:List Sp)(W:List Ln)(m:Nat):List HO:=[.box 80 (pvb l S (cM 1 W.length 4 m)),.row 41 4 (W.map Ln.cv)]
def oV (W:List Ln)(m:Nat)(x:Ln):List Ln:=W.take m++[x]++W.drop (m+1)
variable {W:List Ln}
theorem kT (h:m≤W.length)(x:Ln):(oV W m x).length=max W.length (m+1):=by simp[oV];omega
theorem aG8 (W:List Ln)(x:Ln):oV W W.length x=W++[x]:=by simp[oV]
theorem vI (h:m≤W.length)(x:Ln):(oV W m x).take (m+1)=W.take m++[x]:=by
 unfold oV;rw[List.take_append_of_le_length (by simp;omega),List.take_of_length_le (by simp;omega)]
theorem aU2 (W:List Ln)(m:Nat)(x:Ln):(oV W m x).map Ln.cv=List.take m (W.map Ln.cv)++[x.cv]++List.drop (m+1) (W.map Ln.cv):=by simp[oV,List.map_take,List.map_drop]
theorem cC8 (a b:HO):lst [a,b]=fob [(0,a),(1,b)]:=by
 funext i
 match i with
 |0=>rfl
 |1=>rfl
 |i+2=>simp[lst,fob,upd]
theorem zP {c0:CV}{l:List Nd}{S:List Sp}{u:HV}{R:HV→List HO→Prop}(hr:u= .c c0)(h0:ob 0=some (.box 80 (pvb l S (cM 1 W.length 4 m))))(h1:ob 1=some (.row 41 4 (W.map Ln.cv)))(hR:R (.c c0.denil) (osP l S W m)):
  iJ 2 u ob (fun r ob'=> ∃os',ob'=lst os'∧(2≤os'.length∧os'.length≤2+4)∧R r os'):=by
 subst hr;refine iD [] [] (.c c0.denil) (osP l S W m) (by simp[HV.close,HV.norm,HV.toC,HV.ren]) (by simp[HV.men]) ⟨⟨by simp[HO.men,HV.men,HV.menL,pvb,bJ],by simp,_,h0,?_⟩,⟨by simp[HO.men],by simp,_,h1,rfl⟩,trivial⟩ rfl List.nodup_nil (by simp) (by simp) hR;simp[pvb,HO.close,HV.close,HV.closeL,tR m W.length h1,CV.denil,denilL_Nd,cQ,denilL_Sp,sI,HV.norm,HV.toC,HV.toCL,HO.ren,HV.ren,HV.renL,aQ,rH,kE,tau]
theorem aL7 (l:List Nd)(S:List Sp)(W:List Ln)(m:Nat)(x:Ln)(hm:m≤W.length)(hW:W.length<2^40):
  HGe Tryz.prog 38 [.ptr 0 0,.c x.cv] (osP l S W m) (fun r os'=>r= .c (.int .i64 m)∧os'=osP l S (oV W m x) (m+1)):=by
 refine cI (args:=[.ptr 0 0,.c x.cv]) Tryz.func38 rfl (by kernel_rfl) (fP rfl (by simp[pvb,eH,HO.men,HV.men,HV.menL,bJ]) (by simp[HV.menL,HV.men])) (Nat.le_of_ble_eq_true rfl) ?_;show Hw _ _ 2 _ _ _ (lst _) 2;rw[cC8];have hw1:IntKind.i64.wrap (((m+1:Nat):Int)-1)=(m:Int):=by rw[dW _ (by omega)];omega
 refine aB fun K hK=>aD (by kernel_rfl) ?_;simp (maxSteps:=4000000) only[↓sP,sA,tyS,simprocAttr];repeat refine AI ?_
 refine hK _ _ _ ?_;clear hK K;by_cases hmW:m=W.length
 ·
  subst hmW;refine aB fun K hK=>dM mixed [(0,[],[]),(1,[],[]),(2,[],[]),(3,[],[]),(4,[],[]),(5,[],[]),(6,[],[]),(7,[],[0]),(8,[],[]),(9,[],[]),(10,[],[])] [0,0,2,6,14,0,32,126,255,511,1023] (by kernel_rfl) (by kernel_rfl) (by kernel_rfl) (by kernel_rfl) rfl (by kernel_rfl) ?_;iterate 11
   (refine cF (g:=none) rfl rfl fun K' hK'=>?_;simp only[sH,↓sP,sA,tyS,simprocAttr,pvb,cG,aV,aS,aQ];(repeat refine AI ?_);refine hK' _ _ ?_;clear hK' K')
  simp only[sE,↓reduceIte,simprocAttr];repeat refine AI ?_
  refine hK _ _ _ ?_;clear hK K;refine aB fun K hK=>aD (by kernel_rfl) ?_;simp only[sR,simprocAttr];iterate 7
   (refine aE (g:=none) rfl rfl fun K' hK'=>?_;simp only[sH,↓sP,sA,tyS,simprocAttr,List.length_append,List.length_map,hw1];(repeat refine AI ?_);refine hK' _ _ ?_;clear hK' K')
  simp only[sE,↓reduceIte,simprocAttr];repeat refine AI ?_
  refine hK _ _ _ ?_;clear hK K;refine aF ?_;simp (maxSteps:=4000000) only[bS,Tryz.results38,bN,bR,bM,↓sP,sA,tyS,simprocAttr];exact zP (W:=oV W W.length x) (m:=W.length+1) rfl (by rw[aG8];simp[fob_at,upd_at,cG]) (by rw[aG8];simp[fob_at,upd_at]) ⟨rfl,rfl⟩
 have hWp:0<W.length:=by omega
 have hm2:m+1≤W.length:=by omega
 refine aB fun K hK=>dM mixed [(0,[],[]),(1,[],[]),(2,[],[]),(3,[],[]),(4,[],[]),(5,[],[]),(6,[],[]),(7,[],[0]),(8,[],[]),(9,[],[]),(10,[],[])] [0,0,2,6,14,0,32,126,255,511,1023] (by kernel_rfl) (by kernel_rfl) (by kernel_rfl) (by kernel_rfl) rfl (by kernel_rfl) ?_;iterate 7
  (refine cF (g:=none) rfl rfl fun K' hK'=>?_;simp only[sH,↓sP,sA,tyS,simprocAttr,pvb,cB hmW,aV,aS,aQ,List.length_map,hWp,hm,hm2];(repeat refine AI ?_);refine hK' _ _ ?_;clear hK' K')
 refine bO (g:=none) rfl rfl fun K' hK'=>?_;simp (maxSteps:=4000000) only[sN,↓hopH.eq_def,sH,↓sP,sA,tyS,simprocAttr,pvb,cB hmW,aV,aS,aQ,List.length_map,hWp,hm,hm2];repeat refine AI ?_
 refine hK' _ _ ?_;clear hK' K';iterate 3
  (refine cF (g:=none) rfl rfl fun K' hK'=>?_;simp only[sH,↓sP,sA,tyS,simprocAttr,pvb,cB hmW,aV,aS,aQ,List.length_map,hWp,hm,hm2];(repeat refine AI ?_);refine hK' _ _ ?_;clear hK' K')
 simp only[sE,↓reduceIte,simprocAttr];repeat refine AI ?_
 refine hK _ _ _ ?_;clear hK K;by_cases hm1:m+1=W.length
 ·
  have hcan:cM 1 W.length 4 (m+1)= .own 1 (m+1):=by rw[←hm1];exact cG 1 (m+1) 4
  have hll:(List.take m (W.map Ln.cv)++[x.cv]++List.drop (m+1) (W.map Ln.cv)).length=m+1:=by simp;omega
  refine aB fun K hK=>aD (by kernel_rfl) ?_;simp only[sR,simprocAttr];iterate 7
   (refine aE (g:=none) rfl rfl fun K' hK'=>?_;simp only[sH,↓sP,sA,tyS,simprocAttr,hcan,hll,hw1];(repeat refine AI ?_);refine hK' _ _ ?_;clear hK' K')
  simp only[sE,↓reduceIte,simprocAttr];repeat refine AI ?_
  refine hK _ _ _ ?_;clear hK K;refine aF ?_;simp (maxSteps:=4000000) only[bS,Tryz.results38,bN,bR,bM,↓sP,sA,tyS,simprocAttr];exact zP (W:=oV W m x) (m:=m+1) rfl (by rw[kT hm,show max W.length (m+1)=W.length from by omega,hcan];rfl) (by rw[aU2];rfl) ⟨rfl,rfl⟩
 have hll:(List.take m (W.map Ln.cv)++[x.cv]++List.drop (m+1) (W.map Ln.cv)).length=W.length:=by simp;omega
 have hlt:(List.take (m+1) (List.take m (W.map Ln.cv)++[x.cv]++List.drop (m+1) (W.map Ln.cv))).length=m+1:=by rw[List.length_take,hll];omega
 refine aB fun K hK=>aD (by kernel_rfl) ?_;simp only[sR,simprocAttr];iterate 7
  (refine aE (g:=none) rfl rfl fun K' hK'=>?_;simp only[sH,↓sP,sA,tyS,simprocAttr,cB hm1,hll,hlt,hWp,hm2,Nat.zero_le,List.drop_zero,Nat.sub_zero,hw1];(repeat refine AI ?_);refine hK' _ _ ?_;clear hK' K')
 simp only[sE,↓reduceIte,simprocAttr];repeat refine AI ?_
 refine hK _ _ _ ?_;clear hK K;refine aF ?_;simp (maxSteps:=4000000) only[bS,Tryz.results38,bN,bR,bM,↓sP,sA,tyS,simprocAttr];exact zP (W:=oV W m x) (m:=m+1) rfl (by rw[kT hm,show max W.length (m+1)=W.length from by omega,cB hm1];rfl) (by rw[aU2];rfl) ⟨rfl,rfl⟩
end Go.Proofs.YthedbjfipmkpiaaGreatDoor
namespace Go.Hl
open Go Go.RowKit Go.Sort Go.Pl Go.Proofs
def eJ (d:Dig):List Value:=d.1.map fun b=> .int .u8 b.toNat
theorem mO (d:Dig):(eJ d).length=32:=by simp[eJ,d.2]
instance :Inhabited Dig:=⟨zdg⟩
theorem zQ {w:World}{O:Nat→Prop}: ∀{l:List UInt8} {xs:List Value},RepL w O (l.map fun b=>CV.int .u8 b.toNat) xs↔xs=l.map fun b=>Value.int .u8 b.toNat
 |[],xs=>by simp only[List.map_nil,RepL]
 |b::l,xs=>by
  simp only[List.map_cons,RepL,RepC,zQ];constructor
  · rintro⟨c1,c2,rfl,rfl,rfl⟩;rfl
  · rintro rfl;exact⟨_,_,rfl,rfl,rfl⟩
theorem mP {w:World}{O:Nat→Prop}: ∀{l:List Dig} {xs:List Value},RepL w O (l.map dg) xs↔xs=l.flatMap eJ
 |[],xs=>by simp only[List.map_nil,RepL,List.flatMap_nil]
 |d::l,xs=>by
  have e: ∀c,RepC w O (dg d) c↔c=eJ d:=fun c=>by simp only[dg,dgl,RepC,zQ,eJ]
  simp only[List.map_cons,RepL,List.flatMap_cons,mP,e];constructor
  · rintro⟨c1,c2,rfl,rfl,rfl⟩;rfl
  · rintro rfl;exact⟨_,_,rfl,rfl,rfl⟩
theorem tS (l:List Dig):(l.flatMap eJ).length=l.length*32:=by
 induction l with
 |nil=>rfl
 |cons d l ih=>rw[List.flatMap_cons,List.length_append,mO,ih,List.length_cons];omega
theorem aU3 : ∀(l:List Dig) (t:Nat) (h:t<l.length*32),(l.flatMap eJ)[t]? =(eJ (l.toArray[t/32]!))[t%32]?
 |[],t,h=>by simp at h
 |d::l,t,h=>by
  rw[List.flatMap_cons];by_cases ht:t<32
  · rw[List.getElem?_append_left (by rw[mO];exact ht),Nat.div_eq_of_lt ht,Nat.mod_eq_of_lt ht];simp
  · rw[List.getElem?_append_right (by rw[mO];omega),mO,aU3 l (t-32) (by simp only[List.length_cons]at h;omega)];obtain⟨s,rfl⟩: ∃s,t=s+32:=⟨t-32,by omega⟩;rw[Nat.add_sub_cancel,Nat.add_mod_right,Nat.add_div_right _ (by omega)];simp
theorem zR (l:List Dig):(flatK eJ 32 l.toArray).toList=l.flatMap eJ:=by
 apply List.ext_getElem?;intro t;by_cases ht:t<l.length*32
 ·
  rw[aU3 l t ht,Array.getElem?_toList,Array.getElem?_eq_getElem (by simpa using ht)];have h1:=get_flatK eJ 32 l.toArray t (by simpa using ht);rw[getElem!_pos _ t (by simpa using ht)]at h1;rw[h1];have h2:t%32<(eJ l.toArray[t/32]!).length:=by rw[mO];omega
  rw[List.getElem?_eq_getElem h2,getElem!_pos (eJ l.toArray[t/32]!) (t%32) h2]
 · rw[List.getElem?_eq_none (by simp;omega),List.getElem?_eq_none (by rw[tS];omega)]
theorem zS (F cur:Array Value)(h:F.size≤cur.size):(putCells id 0 F cur).toList.take F.size=F.toList:=by
 apply List.ext_getElem?;intro i;by_cases hi:i<F.size
 ·
  rw[List.getElem?_take,if_pos hi];have hc:i<cur.size:=by omega
  simp only[putCells,Array.getElem?_toList,Array.getElem?_mapIdx,Array.getElem?_eq_getElem hc,Option.map_some,Array.getElem?_eq_getElem hi];simp[hi]
 · rw[List.getElem?_take,if_neg hi,List.getElem?_eq_none (by simpa using hi)]
end Go.Hl
namespace Go.Hl
open Go Go.RowKit Go.Sort Go.Pl
theorem aL8 {P:Program}{f:FuncId}{e:TypeId}{l:List Dig}(hok:eO P f=true)(hbig:l.length*32≤140737488355328)
  (hc: ∀(b off c:Nat) (w:World),(∀j u,(l.flatMap eJ)[j]? =some u→w.cell? ⟨b,off+j,none⟩=some u)→Calls P f #[.slice (some ⟨b,off,none⟩) l.length c] w fun x w'=> ∃v',x= .returned v'∧w'.ownsRow w.heap.size e 32 v' l.length (l.flatMap eJ)∧v'≠ .slice none 0 0∧Below w.heap.size w w')
  (hc0: ∀(c:Nat) (w:World),Calls P f #[.slice none 0 c] w fun x w'=>x= .returned (.slice none 0 0)∧w'=w)
  (hcz: ∀(a:Addr) (c:Nat) (w:World),Calls P f #[.slice (some a) 0 c] w fun x w'=> ∃v',x= .returned v'∧w'.ownsRow w.heap.size e 32 v' 0 []∧v'≠ .slice none 0 0∧Below w.heap.size w w'):
  cJ P f [.slc (l.map dg)] (fun v=>v= .slc (l.map dg)):=by
 refine⟨rV hok,fun w ρ X xs hS hA hX=>Does.of hok ?_⟩;have done: ∀(w':World) (v:Value),w'.ownsRow w.heap.size e 32 v l.length (l.flatMap eJ)→Below w.heap.size w w'→ ∃r ob' ρ' x,Ending.returned v= .returned x∧(∃u,r=HV.c u∧u= .slc (l.map dg)∧ob'=cZ)∧Gave w ρ X 0 r ob' w' ρ' x:=by
  intro w' v hrow hb;have hs2:Stay2 w (Own ρ) w' (Own ρ):=⟨fun g hg _=>hb.block g hg,fun _ h=> .inl h,hb.size,hb.os,hb.tape,hb.output⟩;have hst:=hs2.stay X;refine⟨_,_,ρ,v,rfl,⟨_,rfl,rfl,rfl⟩,⟨?_,⟨fun i o ho=>by simp[cZ]at ho,hS.none,hS.apart,hS.xb⟩,by simp[HV.men],fun i o ho=>by simp[cZ]at ho,hs2,Moves.refl _ _⟩⟩;have hag:Value.isAgg' v=false:=by rcases hrow.2 with⟨rfl,_⟩|⟨g,cap,cur,rfl,_⟩<;>rfl
  refine bW ?_ rfl hag;simp only[RepC];rcases hrow.2 with⟨rfl,hz⟩|⟨g,cap,cur,rfl,hg0,hg,hcap,_⟩
  · have:l=[]:=List.eq_nil_of_length_eq_zero hz;exact⟨none,0,[],32,by simp[this],by simp[this,RepL],by simp[this],by simp[this],fun _=>rfl,fun ad had=>(by cases had)⟩
  ·
   refine⟨some ⟨g,0,none⟩,cap,l.flatMap eJ,32,by simp,mP.2 rfl,fun u hu=>?_,by simp;exact hcap,fun hh=>(by cases hh),fun ad had=>?_⟩
   · obtain⟨k,_,rfl⟩:=List.mem_map.1 hu;exact dg_cells k
   ·
    cases had;refine⟨hrow.cells (g:=g) rfl,fun _=>?_⟩;rintro(hx|⟨i,L,h1,h2⟩)
    · have:g<w.heap.size:=hX g hx;omega
    · have:g<w.heap.size:=Owned.lt hS h1 h2;omega
 simp only[List.map_cons,List.map_nil,bK,RepHV]at hA;obtain⟨x,zs,rfl,hx,rfl⟩:=hA;have h1:=RepV.single hx rfl;simp only[RepC,List.cons.injEq,and_true]at h1;obtain⟨a,cap,ys,sz,rfl,h2,_,h4,h5,h6⟩:=h1;have hys:=mP.1 h2;subst hys;simp only[List.length_map];cases a with
 |none=>
  have hz:=h5 rfl;have hl0:l=[]:=by
   refine List.eq_nil_of_length_eq_zero ?_;simp only[List.length_map]at h4;omega
  subst hl0;refine(hc0 cap w).mono ?_;rintro ex w' ⟨rfl,rfl⟩;exact done w' _ ⟨rfl,.inl ⟨rfl,rfl⟩⟩ (Below.refl _ _)
 |some ad=>
  have hr:=(h6 ad rfl).1;by_cases hl0:l=[]
  · subst hl0;refine(hcz ad cap w).mono ?_;rintro ex w' ⟨v',rfl,hrow,_,hb⟩;exact done w' v' hrow hb
  ·
   have hpos:0<l.length:=List.length_pos_iff.2 hl0;have hspot:ad.spot=none:=by
    obtain⟨u,hu⟩: ∃u,(l.flatMap eJ)[0]? =some u:=⟨(l.flatMap eJ)[0]'(by rw[tS];omega),List.getElem?_eq_getElem _⟩;have:=hr 0 u hu;simp only[World.cell?]at this;split at this
    ·
     split at this
     · cases this
     · rename_i hh;simpa[Addr.add]using hh
    · cases this
   obtain⟨b,off,spot⟩:=ad;simp only at hspot;subst hspot;refine(hc b off cap w fun j u hj=>?_).mono ?_
   ·
    have:=hr j u hj;have e:(⟨b,off,none⟩:Addr).add j=⟨b,off+j,none⟩:=by
     by_cases h0:j=0
     · subst h0;rfl
     · simp[Addr.add,h0]
    rwa [e]at this
   · rintro ex w' ⟨v',rfl,hrow,_,hb⟩;exact done w' v' hrow hb
end Go.Hl
namespace Go.Proofs.YthedbjfipmkpiaaGreatDoor
open Go Go.Hl Go.Pl Go.Sort Go.RowKit Go.Lib
set_option maxRecDepth 100000
set_option maxHeartbeats 16000000 in
theorem aU4 (news:List Value)(n b off c:Nat)(w:World)(hl:news.length=n*32)(hbig:n*32≤140737488355328)(h1: ∀u∈news,u.oneCell'=true)(hc: ∀j u,news[j]? =some u→w.cell? ⟨b,off+j,none⟩=some u):
  Calls Tryz.prog 104 #[.slice (some ⟨b,off,none⟩) n c] w fun e w'=> ∃v',e= .returned v'∧w'.ownsRow w.heap.size 44 32 v' n news∧v'≠ .slice none 0 0∧Below w.heap.size w w':=by
 obtain⟨i0,hi,hz⟩:=Option.map_eq_some_iff.1 (show(Tryz.prog.info? 44).map (fun i=>(i.zero,i.size,i.bytes))=some (some (.agg (Array.replicate 32 (.int .u8 0))),32,32)from by kernel_rfl);simp only[Prod.mk.injEq]at hz;have q24: ∀(w:World) (a:Option Addr) (n c n' c':Nat),(binOp .eql 39 (.slice a n c) (.slice none n' c')).run Tryz.prog w= .ok (.bool a.isNone) w:=fun w a n c n' c'=>Lib.run_eql_slice_nil w _ _ a n c n' c' Tryz.underlying39;have A:Aside (∀j u,news[j]? =some u→w.cell? ⟨b,off+j,none⟩=some u):=hc;clear hc
 go_enter Tryz.func104,Tryz.ntmps104
 go_wp2_with (at_builtin;refine wpList_append_own _ rfl _ _ 39 rfl w.heap.size 44 i0 (.agg (Array.replicate 32 (.int .u8 0))) 32 32 Tryz.underlying39 hi hz.1 hz.2.1 hz.2.2 rfl (by decide) _ _ _ rfl (World.ownsRow_made w #[] 0 (Nat.le_refl _) (Nat.zero_le _) rfl) ⟨b,off,none⟩ n c news rfl hl ?qc2 h1 ?qc4 ?qc5 ?qc6 ?_)
 case qc2=>
  intro j u hj;rw[Addr.add_lit];exact Lib.cell?_alloc_some _ (A.out j u hj)
 case qc4=>unfold maxLen;omega
 case qc5=>omega
 case qc6=>simp
 intro v' w1 hown hgrow hnil
 go_wp2
 go_ret
 refine⟨v',rfl,by simpa using hown,?_,?_⟩
 · exact hnil
 exact((Below.refl _ w).alloc (Nat.le_refl _) _).grown hgrow (by simp) (by intro k hk;simp[Value.ownBlock]at hk;omega)
set_option maxHeartbeats 1000000 in
theorem bP6 (c:Nat)(w:World):Calls Tryz.prog 104 #[.slice none 0 c] w fun e w'=>e= .returned (.slice none 0 0)∧w'=w:=by
 have q24: ∀(w:World) (a:Option Addr) (n c n' c':Nat),(binOp .eql 39 (.slice a n c) (.slice none n' c')).run Tryz.prog w= .ok (.bool a.isNone) w:=fun w a n c n' c'=>Lib.run_eql_slice_nil w _ _ a n c n' c' Tryz.underlying39
 go_enter Tryz.func104,Tryz.ntmps104
 go_wp2
 go_ret
 exact⟨rfl,rfl⟩
set_option maxHeartbeats 16000000 in
theorem bA8 (a:Addr)(c:Nat)(w:World):Calls Tryz.prog 104 #[.slice (some a) 0 c] w fun e w'=> ∃v',e= .returned v'∧w'.ownsRow w.heap.size 44 32 v' 0 []∧v'≠ .slice none 0 0∧Below w.heap.size w w':=by
 obtain⟨i0,hi,hz⟩:=Option.map_eq_some_iff.1 (show(Tryz.prog.info? 44).map (fun i=>(i.zero,i.size,i.bytes))=some (some (.agg (Array.replicate 32 (.int .u8 0))),32,32)from by kernel_rfl);simp only[Prod.mk.injEq]at hz;have q24: ∀(w:World) (a:Option Addr) (n c n' c':Nat),(binOp .eql 39 (.slice a n c) (.slice none n' c')).run Tryz.prog w= .ok (.bool a.isNone) w:=fun w a n c n' c'=>Lib.run_eql_slice_nil w _ _ a n c n' c' Tryz.underlying39
 go_enter Tryz.func104,Tryz.ntmps104
 go_wp2_with (at_builtin;refine wpList_append_own _ rfl _ _ 39 rfl w.heap.size 44 i0 (.agg (Array.replicate 32 (.int .u8 0))) 32 32 Tryz.underlying39 hi hz.1 hz.2.1 hz.2.2 rfl (by decide) _ _ _ rfl (World.ownsRow_made w #[] 0 (Nat.le_refl _) (Nat.zero_le _) rfl) a 0 c [] rfl rfl (by intro j u hj;simp at hj) (by intro u hu;cases hu) (by unfold maxLen;omega) (by omega) (by simp) ?_)
 intro v' w1 hown hgrow hnil
 go_wp2
 go_ret
 refine⟨v',rfl,by simpa using hown,?_,?_⟩
 · first|exact hnil|(intro e;exact absurd (hnil.1 e).1 (by simp))
 exact((Below.refl _ w).alloc (Nat.le_refl _) _).grown hgrow (by simp) (by intro k hk;simp[Value.ownBlock]at hk;omega)
theorem bP7 (l:List Dig)(hl:l.length<2^42):cJ Tryz.prog 104 [.slc (l.map dg)] (fun v=>v= .slc (l.map dg)):=
 aL8 (e:=44) (by kernel_rfl) (by omega) (fun b off c w hc=>aU4 (l.flatMap eJ) l.length b off c w (tS l) (by omega) (fun u hu=>by
  obtain⟨d,_,hu⟩:=List.mem_flatMap.1 hu;obtain⟨x,_,rfl⟩:=List.mem_map.1 hu;rfl) hc) bP6 bA8
end Go.Proofs.YthedbjfipmkpiaaGreatDoor
namespace Go.Proofs.YthedbjfipmkpiaaGreatDoor
open Go Go.Hl Go.Pl
set_option maxRecDepth 10000
set_option maxHeartbeats 16000000
theorem cL2 (n:Nat)(ob:Ob)(e:TypeId)(sz:Nat)(v:HV)(L:List CV)(t:TypeId):kL (sub [0,1] n) ob 0 [.box t v,.row e sz L]=upd (upd ob 0 (some ((HO.box t v).ren (sub [0,1] n)))) 1 (some (.row e sz L)):=rfl
theorem xC (n:Nat)(ob:Ob)(l:List Nd)(S:List Sp)(W:List Ln)(m:Nat):kL (sub [0,1] n) ob 0 (osP l S W m)=upd (upd ob 0 (some (.box 80 (pvb l S (cM 1 W.length 4 m))))) 1 (some (.row 41 4 (W.map Ln.cv))):=by
 rw[cL2];simp[HO.ren,HV.ren,HV.renL,pvb,kE,sub]
theorem xD (n:Nat)(t:TypeId)(l:List Nd)(S:List Sp)(a m:Nat):(HO.box t (pvb l S (cM 1 a 4 m))).ren (sub [0,1] n)= .box t (pvb l S (cM 1 a 4 m)):=by
 simp[HO.ren,HV.ren,HV.renL,pvb,kE,sub]
theorem kU {ob:Ob}{a0 b0:CV}{l:List Nd}{S:List Sp}{W:List Ln}{m:Nat}{u:HV}{R:HV→List HO→Prop}(hr:u= .tup [.c a0,.c b0])(h0:ob 0=some (.box 80 (pvb l S (cM 1 W.length 4 m))))(h1:ob 1=some (.row 41 4 (W.map Ln.cv)))(hR:R (.tup [.c a0.denil,.c b0.denil]) (osP l S W m)):
  iJ 2 u ob (fun r ob'=> ∃os',ob'=lst os'∧(2≤os'.length∧os'.length≤2+4)∧R r os'):=by
 subst hr;refine iD [] [] (.tup [.c a0.denil,.c b0.denil]) (osP l S W m) (by simp[HV.close,HV.closeL,HV.norm,HV.toC,HV.toCL,HV.ren,HV.renL]) (by simp[HV.men,HV.menL]) ⟨⟨by simp[HO.men,HV.men,HV.menL,pvb,bJ],by simp,_,h0,?_⟩,⟨by simp[HO.men],by simp,_,h1,rfl⟩,trivial⟩ rfl List.nodup_nil (by simp) (by simp) hR;simp[pvb,HO.close,HV.close,HV.closeL,tR m W.length h1,CV.denil,denilL_Nd,cQ,denilL_Sp,sI,HV.norm,HV.toC,HV.toCL,HO.ren,HV.ren,HV.renL,aQ,rH,kE,tau]
theorem bA9 (l:List Nd)(h:l.length<2^40):(gI l).length<2^40:=by
 unfold gI;split
 · rw[iO];have:=bT7 l;omega
 simp
theorem cN8 (n:Nat)(v:CV):HV.ren (sub [0,1] n) (.c v)= .c v:=rfl
theorem cC9 (l:List Nd)(htb:eN l=true)(S:List Sp)(hS:S.length<2^40)(hd: ∀x∈S,x.d.length<2^42)(W:List Ln)(m i:Nat)(hm:m≤W.length)(hW:W.length<2^39)(hi:i<l.length)(hk:l[i].k=1):
  HGe Tryz.prog 74 [.ptr 0 0,.c (.int .i64 i)] (osP l S W m) (fun r os'=>r= .tup [.c (.int .i64 (if(S.getD (lv (l.take i)) sp0).h then m else 0)),.c (.bool (S.getD (lv (l.take i)) sp0).h)]∧os'=if(S.getD (lv (l.take i)) sp0).h then osP l S (oV W m (aP7 l S i)) (m+1)else osP l S W m):=by
 refine cI (args:=[.ptr 0 0,.c (.int .i64 i)]) Tryz.func74 rfl (by kernel_rfl) (fP rfl (by simp[pvb,eH,HO.men,HV.men,HV.menL,bJ]) (by simp[HV.menL,HV.men])) (Nat.le_of_ble_eq_true rfl) ?_;show Hw _ _ 2 _ _ _ (lst _) 2;rw[cC8];have hlv:gI l=eG 0 l:=nH htb;have hat:=aT4 hi hk;have hll:=(jL htb).len;obtain⟨k,hkk⟩: ∃k,k=lv (l.take i):=⟨_,rfl⟩;rw[←hkk]at hat;have hneed:aP7 l S i=⟨1,i,(S.getD k sp0).d,[]⟩:=by rw[aP7,←hkk]
 rw[←hkk,hneed];refine aB fun K hK=>aD (by kernel_rfl) ?_;simp (maxSteps:=4000000) only[↓sP,sA,tyS,simprocAttr];repeat refine AI ?_
 refine hK _ _ _ ?_;clear hK K;refine aB fun K hK=>aD (by kernel_rfl) ?_;simp only[sR,simprocAttr];iterate 5
  (refine aE (g:=none) rfl rfl fun K' hK'=>?_;simp only[sH,↓sP,sA,tyS,simprocAttr,pvb,aV,aS,aQ,cQ,denilL_dg];(repeat refine AI ?_);refine hK' _ _ ?_;clear hK' K')
 refine aE (g:=none) rfl rfl fun K' hK'=>?_;simp (maxSteps:=4000000) only[sH,↓sP,sA,tyS,simprocAttr,pvb,aV,aS,aQ,cQ,denilL_dg];refine dN (args:=[_,_]) (bP5 (gI l) i (bA9 l (by omega))) ⟨rfl,rfl,rfl,rfl⟩ ?_;rintro u hu;obtain rfl:=hu k (fun j hj h=>by rw[hlv]at h;have:=bO5 hi hk h;omega) (by rw[hlv];exact hat);repeat refine AI ?_
 refine hK' _ _ ?_;clear hK' K';refine aE (g:=none) rfl rfl fun K' hK'=>?_;simp (maxSteps:=4000000) only[sH,↓sP,sA,tyS,simprocAttr,pvb,aV,aS,aQ,cQ,denilL_dg];repeat refine AI ?_
 refine hK' _ _ ?_;clear hK' K';simp only[sE,↓reduceIte,simprocAttr];repeat refine AI ?_
 refine hK _ _ _ ?_;clear hK K;refine aB fun K hK=>?_;by_cases hlt:k<S.length
 ·
  have hg:S.getD k sp0=S[k]:=by simp[List.getD_eq_getElem?_getD,hlt]
  have hge:decide ((k:Int)≥(S.length:Int))=false:=by simp;omega
  refine aB fun K hK=>aD (by kernel_rfl) ?_;simp only[sR,simprocAttr];iterate 8
   (refine aE (g:=none) rfl rfl fun K' hK'=>?_;simp only[sH,↓sP,sA,tyS,simprocAttr,pvb,aV,aS,aQ,cQ,denilL_dg,hge,Int.natCast_nonneg,Int.ofNat_lt,hlt,bP hlt];(repeat refine AI ?_);refine hK' _ _ ?_;clear hK' K')
  iterate 9
   (refine aE (g:=some (20,false)) rfl rfl fun K' hK'=>?_;simp only[sH,↓sP,sA,tyS,simprocAttr,pvb,aV,aS,aQ,cQ,denilL_dg,hge,Int.natCast_nonneg,Int.ofNat_lt,hlt,bP hlt];(repeat refine AI ?_);refine hK' _ _ ?_;clear hK' K')
  refine aE (g:=none) rfl rfl fun K' hK'=>?_;simp (maxSteps:=4000000) only[sH,↓sP,sA,tyS,simprocAttr,pvb,aV,aS,aQ,cQ,denilL_dg,hge,Int.natCast_nonneg,Int.ofNat_lt,hlt,bP hlt];repeat refine AI ?_
  refine hK' _ _ ?_;clear hK' K';simp only[sE,↓reduceIte,simprocAttr];repeat refine AI ?_
  refine hK _ _ _ ?_;clear hK K;refine aH (b:=!S[k].h) rfl (fun hb=>?_) (fun hb=>?_)
  ·
   have hh:S[k].h=false:=by simpa using hb
   refine aB fun K hK=>aD (by kernel_rfl) ?_;simp (maxSteps:=4000000) only[↓sP,sA,tyS,simprocAttr];repeat refine AI ?_
   refine hK _ _ _ ?_;clear hK K;refine aF ?_;simp (maxSteps:=4000000) only[bS,Tryz.results74,bN,bR,bM,↓sP,sA,tyS,simprocAttr];exact kU (W:=W) (m:=m) rfl rfl rfl ⟨by rw[hg,hh];rfl,by rw[hg,hh];rfl⟩
  have hh:S[k].h=true:=by simpa using hb
  refine aK ?_;simp (maxSteps:=4000000) only[↓sP,sA,tyS,simprocAttr];repeat refine AI ?_
  refine hK _ _ _ ?_;clear hK K;refine aB fun K hK=>aD (by kernel_rfl) ?_;simp only[sR,simprocAttr];iterate 10
   (refine aE (g:=none) rfl rfl fun K' hK'=>?_;simp only[sH,↓sP,sA,tyS,simprocAttr,pvb,aV,aS,aQ,cQ,denilL_dg,Int.natCast_nonneg,Int.ofNat_lt,hlt,bP hlt];(repeat refine AI ?_);refine hK' _ _ ?_;clear hK' K')
  refine aE (g:=none) rfl rfl fun K' hK'=>?_;simp (maxSteps:=4000000) only[sH,↓sP,sA,tyS,simprocAttr,pvb,aV,aS,aQ,cQ,denilL_dg,Int.natCast_nonneg,Int.ofNat_lt,hlt,bP hlt];refine dN (args:=[_]) (bP7 S[k].d (hd _ (List.getElem_mem hlt))) ⟨rfl,rfl,rfl,rfl⟩ ?_;rintro u rfl;repeat refine AI ?_
  refine hK' _ _ ?_;clear hK' K';refine aE (g:=none) rfl rfl fun K' hK'=>?_;simp (maxSteps:=4000000) only[sH,↓sP,sA,tyS,simprocAttr,pvb,aV,aS,aQ,cQ,denilL_dg,Int.natCast_nonneg,Int.ofNat_lt,hlt,bP hlt];repeat refine AI ?_
  refine hK' _ _ ?_;clear hK' K';refine aE (g:=none) rfl rfl fun K' hK'=>?_;simp (maxSteps:=4000000) only[sH,↓sP,sA,tyS,simprocAttr,pvb,aV,aS,aQ,cQ,denilL_dg,Int.natCast_nonneg,Int.ofNat_lt,hlt,bP hlt];refine fV [0,1] (aL7 l S W m ⟨1,i,S[k].d,[]⟩ hm (by omega)) rfl ⟨(by rw[xD];rfl),rfl,trivial⟩ (by simp) (by simp) ⟨rfl,rfl,rfl,rfl⟩ (by simp[eH,HO.men,HV.men,HV.menL,bJ]) (by simp[HV.menL,HV.men]) ?_;rintro r os' ⟨rfl,rfl⟩;rw[xC,cN8];repeat refine AI ?_
  refine hK' _ _ ?_;clear hK' K';iterate 2
   (refine aE (g:=none) rfl rfl fun K' hK'=>?_;simp only[sH,↓sP,sA,tyS,simprocAttr,pvb,aV,aS,aQ,cQ,denilL_dg,Int.natCast_nonneg,Int.ofNat_lt,hlt,bP hlt];(repeat refine AI ?_);refine hK' _ _ ?_;clear hK' K')
  simp only[sE,↓reduceIte,simprocAttr];repeat refine AI ?_
  refine hK _ _ _ ?_;clear hK K;refine aF ?_;simp (maxSteps:=4000000) only[bS,Tryz.results74,bN,bR,bM,↓sP,sA,tyS,simprocAttr];exact kU (W:=oV W m ⟨1,i,S[k].d,[]⟩) (m:=m+1) rfl rfl rfl ⟨by rw[hg,hh];rfl,by rw[hg,hh];rfl⟩
 have hg:S.getD k sp0=sp0:=by simp[List.getD_eq_getElem?_getD,hlt]
 have hge:decide ((k:Int)≥(S.length:Int))=true:=by simp;omega
 refine aB fun K hK=>aD (by kernel_rfl) ?_;simp only[sR,simprocAttr];iterate 8
  (refine aE (g:=none) rfl rfl fun K' hK'=>?_;simp only[sH,↓sP,sA,tyS,simprocAttr,pvb,aV,aS,aQ,cQ,denilL_dg,hge];(repeat refine AI ?_);refine hK' _ _ ?_;clear hK' K')
 iterate 9
  (refine aE (g:=some (20,false)) rfl rfl fun K' hK'=>?_;simp only[sH,↓sP,sA,tyS,simprocAttr,pvb,aV,aS,aQ,cQ,denilL_dg,hge];(repeat refine AI ?_);refine hK' _ _ ?_;clear hK' K')
 refine aE (g:=none) rfl rfl fun K' hK'=>?_;simp (maxSteps:=4000000) only[sH,↓sP,sA,tyS,simprocAttr,pvb,aV,aS,aQ,cQ,denilL_dg,hge];repeat refine AI ?_
 refine hK' _ _ ?_;clear hK' K';simp only[sE,↓reduceIte,simprocAttr];repeat refine AI ?_
 refine hK _ _ _ ?_;clear hK K;refine aH (b:=true) rfl (fun hb=>?_) (fun hb=>?_)
 ·
  refine aB fun K hK=>aD (by kernel_rfl) ?_;simp (maxSteps:=4000000) only[↓sP,sA,tyS,simprocAttr];repeat refine AI ?_
  refine hK _ _ _ ?_;clear hK K;refine aF ?_;simp (maxSteps:=4000000) only[bS,Tryz.results74,bN,bR,bM,↓sP,sA,tyS,simprocAttr];exact kU (W:=W) (m:=m) rfl rfl rfl ⟨by rw[hg];rfl,by rw[hg];rfl⟩
 cases hb
end Go.Proofs.YthedbjfipmkpiaaGreatDoor
