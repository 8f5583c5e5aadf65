/- Part of a proof: walks of functions of the program, by contracts, and the rules they use. By an AI agent. -/
import Derived.Test.YthedbjfipmkpiaaGreatDoorHdSq
import Derived.Test.YthedbjfipmkpiaaGreatDoorHdV1
import Derived.Test.YthedbjfipmkpiaaGreatDoorHdSb
import Derived.Test.YthedbjfipmkpiaaGreatDoorHdU5
import Derived.Test.YthedbjfipmkpiaaGreatDoorPl18e
set_option linter.unusedSimpArgs false
set_option linter.unusedVariables false
set_option linter.defProp false
namespace Go.Proofs.YthedbjfipmkpiaaGreatDoor
open Go Go.Hl Go.Pl
set_option maxRecDepth 10000
set_option maxHeartbeats 2000000
theorem cF5 {α:Type}(l:List (List UInt8))(j:Nat)(p:List UInt8)(r:List (List UInt8))(h:l.drop j=p::r): ∃hj:j<(l.map fun p=>[CV.slc (p.map u8)]).length,(l.map fun p=>[CV.slc (p.map u8)])[j]=[CV.slc (p.map u8)]∧l.drop (j+1)=r:=by
 have hj:j<l.length:=by
  rcases Nat.lt_or_ge j l.length with h'|h'
  · exact h'
  rw[List.drop_eq_nil_of_le h']at h;cases h
 have h1:=List.drop_eq_getElem_cons hj;rw[h1]at h;cases h;exact⟨by simpa using hj,by simp,rfl⟩
theorem aU9 (l:List UInt8)(c:UInt8)(hl:l.length<2^40):aF4 Tryz.prog 148 [(52,.slc [u8 c]),(52,.slc (l.map u8)),(3,.int .i64 0)] ((bJ c l).map fun p=>[.slc (p.map u8)]):=by
 refine aA6 Tryz.func148 rfl (by kernel_rfl) (Nat.le_of_ble_eq_true rfl) rfl fun L J hS hY=>?_;have e0:jZ [(52,CV.slc [u8 c]),(52,.slc (l.map u8)),(3,.int .i64 0)]=fob [(0,.box 52 (.c (.slc [u8 c]))),(1,.box 52 (.c (.slc (l.map u8)))),(2,.box 3 (.c (.int .i64 0)))]:=by
  funext i
  match i with
  |0=>rfl
  |1=>rfl
  |2=>rfl
  |i+3=>simp[jZ,fob,upd]
 have e1:gS (List.range [((52:Nat),CV.slc [u8 c]),(52,.slc (l.map u8)),(3,.int .i64 0)].length)=[.ptr 0 0,.ptr 1 0,.ptr 2 0]:=rfl;rw[e0,e1];refine fH fun K hK=>?_;refine fH fun K1 hK1=>nE hS rfl (aD (by kernel_rfl) ?_);simp only[sR,simprocAttr];iterate 3 refine S0 ?_ (e:=fun _ h_=>by simp only[sH,↓sP,sA,tyS,simprocAttr,rI];exact AX h_)
 simp only[sE,↓reduceIte,simprocAttr,rI];refine hK1 _ _ _ _ _ ?_;clear hK1 K1;refine jR (b:=false) rfl (fun hb=>by cases hb) (fun _=>?_);refine nF ?_;simp only[sE,↓reduceIte,simprocAttr,rI];refine hK _ _ _ _ _ ?_;clear hK K;refine fH fun K hK=>?_;refine nV ?_;refine aN4 (α:={y:Nat×List UInt8//(bJ c l).drop y.1=bJ c y.2∧y.2.length≤l.length}) hS (fun y=>(fin [(0,.opq (.func (.yield L) #[] #[])),(1,.ptr 0 0),(2,.ptr 1 0),(3,.ptr 2 0)],fob [(0,.box 52 (.c (.slc [u8 c]))),(1,.box 52 (.c (.slc (y.1.2.map u8)))),(2,.box 3 (.c (.int .i64 0)))])) (fun y=>y.1.1) 100 (fun y=>y.1.2.length) ⟨(0,l),rfl,Nat.le_refl _⟩ rfl (fF) rfl ?_;rintro⟨⟨j,rest⟩,hsp,hle⟩;simp only at hsp hle;refine nV ?_;refine fH fun K1 hK1=>nE hS rfl (aD (by kernel_rfl) ?_);simp only[sR,simprocAttr];iterate 2 refine S0 ?_ (e:=fun _ h_=>by simp only[sH,↓sP,sA,tyS,simprocAttr,rI];exact AX h_)
 refine aC (g:=none) rfl rfl fun K' hK'=>?_;simp only[sH,↓sP,sA,tyS,simprocAttr,rI,denilL_u8];refine aX (args:=[_,_]) (aA7 rest c) ⟨rfl,rfl,rfl,rfl⟩ ?_;rintro u rfl;refine AX (hK' _ _ ?_);clear hK' K';refine S0 ?_ (e:=fun _ h_=>by simp only[sH,↓sP,sA,tyS,simprocAttr,rI];exact AX h_);simp only[sE,↓reduceIte,simprocAttr,rI];refine hK1 _ _ _ _ _ ?_;clear hK1 K1;refine fH fun K1 hK1=>?_;refine fH fun K2 hK2=>nE hS rfl (aD (by kernel_rfl) ?_);simp only[sR,simprocAttr];iterate 2 refine S0 ?_ (e:=fun _ h_=>by simp only[sH,↓sP,sA,tyS,simprocAttr,rI];exact AX h_)
 simp only[sE,↓reduceIte,simprocAttr,rI];refine hK2 _ _ _ _ _ ?_;clear hK2 K2;refine jR (b:=decide (fS rest c<0)) rfl (fun hb=>?_) (fun hb=>?_)
 ·
  have hn:fS rest c<0:=by simpa using hb
  rw[qR hn]at hsp;obtain⟨hj,hx,hd⟩:=cF5 (α:=Nat) _ _ _ _ hsp;refine aN3 ?_;simp only[sE,↓reduceIte,simprocAttr,rI];clear hK1 K1;refine hK _ _ _ _ _ ?_;clear hK K;have htk:List.take rest.length (rest.map u8)=rest.map u8:=List.take_of_length_le (by simp);refine sW (l:=L) 7 hS hY rfl (by kernel_rfl) (by decide) ?_;simp only[sR,List.range',simprocAttr];iterate 6 refine S0 ?_ (e:=fun _ h_=>by simp only[sH,↓sP,sA,tyS,simprocAttr,rI,List.length_map];exact AX h_)
  refine S0 ?_ (e:=fun _ h_=>by simp only[sH,↓sP,sA,tyS,simprocAttr,rI,htk,List.length_map,↓hslice3.eq_def,Int.natCast_nonneg,iJ,List.drop_zero,Nat.sub_zero,Int.le_refl,Int.toNat_zero];exact AX h_);rw[hlex];refine⟨_,_,_,hj,rfl,rfl,rfl,rfl,rfl,?_,?_,?_⟩
  · rw[hx];rfl
  · simp only[sR,List.range',simprocAttr];rw[hlex];refine⟨by simp,fun _=>?_⟩;have:=List.drop_eq_nil_iff.1 hd;simp only[List.length_map]at hj⊢;omega
  simp only[sR,List.range',simprocAttr];rw[hlex];exact⟨by simp,fun h=>by cases h⟩
 have hn: ¬fS rest c<0:=by simpa using hb
 obtain⟨k,hk,hkl,hsp2⟩:=iK hn;rw[hk];rw[hsp2]at hsp;obtain⟨hj,hx,hd⟩:=cF5 (α:=Nat) _ _ _ _ hsp;have hkm:min k rest.length=k:=by omega
 have ek:List.take k (rest.map u8)=(rest.take k).map u8:=List.map_take.symm;have htk:List.take k ((rest.take k).map u8)=(rest.take k).map u8:=List.take_of_length_le (by simp;omega);have hw1:IntKind.i64.wrap ((k:Int)+1)=((k+1:Nat):Int):=by rw[IntWalk.i64_in _ (by omega)];rfl
 have hkl1:k+1≤rest.length:=hkl;have edr:List.take (rest.length-(k+1)) (List.drop (k+1) (rest.map u8))=(rest.drop (k+1)).map u8:=by rw[List.map_drop,List.take_of_length_le (by simp)]
 refine nF ?_;simp only[sE,↓reduceIte,simprocAttr,rI];refine hK1 _ _ _ _ _ ?_;clear hK1 K1;refine fH fun K1 hK1=>nE hS rfl (aD (by kernel_rfl) ?_);simp only[sR,simprocAttr];iterate 6 refine S0 ?_ (e:=fun _ h_=>by simp only[sH,↓sP,sA,tyS,simprocAttr,rI,ek,List.length_map,Int.natCast_nonneg,iJ,Int.add_zero,Int.ofNat_le,Nat.le_of_lt hkl,List.drop_zero,Nat.sub_zero,show IntKind.i64.wrap (k:Int)=(k:Int)from IntWalk.i64_in _ (by omega)];exact AX h_)
 simp only[sE,↓reduceIte,simprocAttr,rI];refine hK1 _ _ _ _ _ ?_;clear hK1 K1;refine fH fun K1 hK1=>?_;refine fH fun K2 hK2=>sW (l:=L) 7 hS hY rfl (by kernel_rfl) (by decide) ?_;simp only[sR,List.range',simprocAttr];iterate 6 refine S0 ?_ (e:=fun _ h_=>by simp only[sH,↓sP,sA,tyS,simprocAttr,rI,List.length_map,List.length_take,hkm];exact AX h_)
 refine S0 ?_ (e:=fun _ h_=>by simp only[sH,↓sP,sA,tyS,simprocAttr,rI,htk,List.length_map,List.length_take,hkm,↓hslice3.eq_def,Int.natCast_nonneg,iJ,List.drop_zero,Nat.sub_zero,Int.le_refl,Int.toNat_zero];exact AX h_);rw[hlex];refine⟨_,_,_,hj,rfl,rfl,rfl,rfl,rfl,?_,?_,?_⟩
 · rw[hx];rfl
 ·
  simp only[sR,List.range',simprocAttr];refine S0 ?_ (e:=fun _ h_=>by simp only[sH,↓sP,sA,tyS,simprocAttr,rI];exact AX h_);simp only[sE,↓reduceIte,simprocAttr,rI];refine hK2 _ _ _ _ _ ?_;clear hK2 K2;refine jR (b:=false) rfl (fun hb=>by cases hb) (fun _=>?_);refine nF ?_;simp only[sE,↓reduceIte,simprocAttr,rI];refine hK1 _ _ _ _ _ ?_;clear hK1 K1;refine nE hS rfl (aD (by kernel_rfl) ?_);simp only[sR,simprocAttr];iterate 7 refine S0 ?_ (e:=fun _ h_=>by simp only[sH,↓sP,sA,tyS,simprocAttr,rI,edr,hw1,List.length_map,Int.natCast_nonneg,iJ,Int.ofNat_le,hkl1,denilL_u8];exact AX h_)
  simp only[sE,↓reduceIte,simprocAttr,rI];refine⟨⟨(j+1,rest.drop (k+1)),hd,by simp;omega⟩,fF,trivial,rfl,?_⟩;show(rest.drop (k+1)).length<rest.length;simp;omega
 simp only[sR,List.range',simprocAttr];refine S0 ?_ (e:=fun _ h_=>by simp only[sH,↓sP,sA,tyS,simprocAttr,rI];exact AX h_);simp only[sE,↓reduceIte,simprocAttr,rI];refine hK2 _ _ _ _ _ ?_;clear hK2 K2;refine jR (b:=true) rfl (fun _=>?_) (fun hb=>by cases hb);refine aZ4 ?_;simp only[sE,↓reduceIte,simprocAttr,rI];exact⟨by simp,fun h=>by cases h⟩
theorem cJ0 (s:aH)(hl:s.length<2^40):jN Tryz.prog 94 [.str s] (fun u v=>u= .str ((unW s).getD [])∧v= .bool (unW s).isSome):=by
 refine bD Tryz.func94 rfl (by kernel_rfl) (bH _) (Nat.le_of_ble_eq_true rfl) ?_;refine R0 ?_;refine aE fun K hK=>?_;refine R0 ?_;refine aG (b:=s==[126]) rfl (fun hb=>?_) (fun hb=>?_)
 ·
  refine R0 ?_;refine aJ ?_;simp only[aT,Tryz.results94,aR,aS,aQ,↓sP,sA,tyS,simprocAttr];have hs:s=[126]:=by simpa using hb
  subst hs;exact bL [] (.str []) (.bool true) rfl ⟨rfl,rfl⟩
 refine aK ?_;refine T0 (hK _ _ _ ?_);clear hK K;have hne:s≠[126]:=by simpa using hb
 clear hb;refine R0 ?_;refine aE fun K hK=>?_;refine R0 ?_;refine aP ?_;refine jJ 4 0 5 1 rfl rfl rfl rfl ?_;refine bR (α:={y:Nat×aH//UnSt s y.1 y.2}) (fun y=>(fin [(0,.c (.str s)),(4,.own 24 y.1.2.length),(5,.c (.int .i64 y.1.1))],fob [(24,.row 5 1 (y.1.2.map eI))])) 100 (fun y=>s.length-y.1.1) ⟨(0,[]),UnSt.init s⟩ (fF) ?_;rintro⟨⟨i,out⟩,hst⟩;simp only at hst;have hi:=hst.1;have ho:=hst.2.2.2;refine aE fun K hK=>?_;refine aE fun K hK=>Rg ?_;iterate 4 refine S0 ?_
 refine T2 (hK _ _ _ ?_);clear hK K;refine aG (b:=decide ((i:Int)<s.length)) rfl (fun hb=>?_) (fun hb=>?_)
 ·
  have hlt:i<s.length:=by simpa using hb
  clear hb;have hgd:s.getD i 0=s[i]:=by simp[hlt]
  refine aK ?_;refine T0 (hK _ _ _ ?_);clear hK K;refine aE fun K hK=>?_;refine aP ?_;refine aE fun K hK=>?_;refine aE fun K hK=>Rg ?_;iterate 3 refine S0 ?_ (e:=fun _ h_=>by simp only[sH,↓sP,sA,tyS,simprocAttr,Int.natCast_nonneg,Int.ofNat_lt,hlt,hgd];exact AX h_)
  refine aC (g:=none) rfl rfl fun K' hK'=>?_;simp only[sH,↓sP,sA,tyS,simprocAttr,Int.natCast_nonneg,Int.ofNat_lt,hlt,hgd];refine aX (args:=[_]) (rC s[i]) ⟨rfl,rfl,rfl,rfl⟩ ?_;rintro u rfl;refine AX (hK' _ _ ?_);clear hK' K';refine T2 (hK _ _ _ ?_);clear hK K;refine aG (b:=dV s[i]) rfl (fun hb=>?_) (fun hb=>?_)
  ·
   refine aE fun K hK=>Rg ?_;iterate 7 refine S0 ?_ (e:=fun _ h_=>by simp only[sH,↓sP,sA,tyS,simprocAttr,Int.natCast_nonneg,Int.ofNat_lt,hlt,hgd,List.length_append,List.length_map];exact AX h_)
   refine T2 (hK _ _ _ ?_);clear hK K;refine bK ?_;simp only[↓sP,sA,tyS,simprocAttr];clear hK K;refine AX (hK _ _ _ ?_);clear hK K;refine aD (by kernel_rfl) ?_;simp only[↓sP,sA,tyS,simprocAttr,pN i];refine⟨⟨(i+1,out++[s[i]]),hst.plain hlt hb⟩,aI (by omega) ?_ ?_,?_⟩
   · simp[aY,upd_at,fin_at,HV.men]
   · simp only[bB,List.map_append];exact⟨rfl,by omega,trivial,trivial⟩
   show s.length-(i+1)<s.length-i;omega
  refine aK ?_;refine T0 (hK _ _ _ ?_);clear hK K;refine aE fun K hK=>?_;have hp:dV s[i]=false:=hb;clear hb;have hw1:IntKind.i64.wrap ((i:Int)+1)=((i+1:Nat):Int):=by rw[IntWalk.i64_in _ (by omega)];rfl
  have hw2:IntKind.i64.wrap ((i:Int)+2)=((i+2:Nat):Int):=by rw[IntWalk.i64_in _ (by omega)];rfl
  have hw3:IntKind.i64.wrap (((i+2:Nat):Int)+1)=((i+3:Nat):Int):=by rw[IntWalk.i64_in _ (by omega)];rfl
  refine aE fun K hK=>Rg ?_;iterate 5 refine S0 ?_ (e:=fun _ h_=>by simp only[sH,↓sP,sA,tyS,simprocAttr,Int.natCast_nonneg,Int.ofNat_lt,hlt,hgd,hw2];exact AX h_)
  refine aL 29 rfl (fun h9_29=>?_) (fun h9_29=>?_)
  ·
   iterate 6 refine S0 ?_ (e:=fun _ h_=>by simp only[sH,↓sP,sA,tyS,simprocAttr,Int.natCast_nonneg,Int.ofNat_lt,hlt,hgd,hw2,h9_29];exact AX h_)
   refine T2 (hK _ _ _ ?_);clear hK K;refine aG (b:=true) rfl (fun hb=>?_) (fun hb=>?_)
   ·
    refine R0 ?_;refine aJ ?_;simp only[aT,Tryz.results94,aR,aS,aQ,↓sP,sA,tyS,simprocAttr];have h37:s[i]≠37:=by rintro h;rw[h]at h9_29;simp at h9_29
    have hn:=nA (hst.bad1 hlt hp (.inl h37)) hne;exact bL [] (.str []) (.bool false) rfl ⟨by rw[hn];rfl,by rw[hn];rfl⟩
   cases hb
  iterate 6 refine S0 ?_ (e:=fun _ h_=>by simp only[sH,↓sP,sA,tyS,simprocAttr,Int.natCast_nonneg,Int.ofNat_lt,hlt,hgd,hw2,h9_29];exact AX h_)
  refine aL 35 rfl (fun h9_35=>?_) (fun h9_35=>?_)
  ·
   simp only[h9_35];refine T2 (hK _ _ _ ?_);clear hK K;refine aG (b:=true) rfl (fun hb=>?_) (fun hb=>?_)
   ·
    refine R0 ?_;refine aJ ?_;simp only[aT,Tryz.results94,aR,aS,aQ,↓sP,sA,tyS,simprocAttr];have hi2:s.length≤i+2:=by simp at h9_35;omega
    have hn:=nA (hst.bad1 hlt hp (.inr hi2)) hne;exact bL [] (.str []) (.bool false) rfl ⟨by rw[hn];rfl,by rw[hn];rfl⟩
   cases hb
  simp only[h9_35];refine T2 (hK _ _ _ ?_);clear hK K;refine aG (b:=false) rfl (fun hb=>?_) (fun hb=>?_)
  · cases hb
  refine aK ?_;refine T0 (hK _ _ _ ?_);clear hK K;have h37:s[i]=37:=by
   simp only[bne_eq_false_iff_eq]at h9_29;exact UInt8.toNat_inj.1 (by show s[i].toNat=37;omega)
  have hi2:i+2<s.length:=by simp at h9_35;omega
  have hi1:i+1<s.length:=by omega
  have hg1:s.getD (i+1) 0=s[i+1]:=by simp[hi1]
  have hg2:s.getD (i+2) 0=s[i+2]:=by simp[hi2]
  refine aE fun K hK=>dJ mixed [(0,[],[]),(1,[],[]),(2,[],[]),(3,[],[]),(5,[],[]),(6,[],[]),(7,[],[]),(8,[],[]),(4,[],[5,6,7,8]),(9,[],[]),(10,[],[]),(11,[],[])] [0,0,2,7,15,0,0,64,224,511,1023,2047] (by kernel_rfl) (by kernel_rfl) (by kernel_rfl) (by kernel_rfl) rfl (by kernel_rfl) ?_;iterate 8 refine W0 ?_ (e:=fun _ h_=>by simp only[sH,↓sP,sA,tyS,simprocAttr,Int.natCast_nonneg,Int.ofNat_lt,hw1,hw2,hg1,hg2,hi1,hi2,h9_29,h9_35];exact AX h_)
  refine bG (g:=none) rfl rfl fun K' hK'=>?_;simp only[sH,↓sP,sA,tyS,simprocAttr,Int.natCast_nonneg,Int.ofNat_lt,hw1,hw2,hg1,hg2,hi1,hi2,h9_29,h9_35];refine aX (args:=[_,_]) (rD bZ7 s[i+1]) ⟨rfl,rfl,rfl,rfl⟩ ?_;rintro u rfl;refine AX (hK' _ _ ?_);clear hK' K';refine bG (g:=none) rfl rfl fun K' hK'=>?_;simp only[sH,↓sP,sA,tyS,simprocAttr,Int.natCast_nonneg,Int.ofNat_lt,hw1,hw2,hg1,hg2,hi1,hi2,h9_29,h9_35];refine aX (args:=[_,_]) (rD bZ7 s[i+2]) ⟨rfl,rfl,rfl,rfl⟩ ?_;rintro u rfl;refine AX (hK' _ _ ?_);clear hK' K';iterate 2 refine W0 ?_ (e:=fun _ h_=>by simp only[sH,↓sP,sA,tyS,simprocAttr,Int.natCast_nonneg,Int.ofNat_lt,hw1,hw2,hg1,hg2,hi1,hi2,h9_29,h9_35];exact AX h_)
  refine T2 (hK _ _ _ ?_);clear hK K;refine aE fun K hK=>?_;by_cases hx:valH s[i+1]<16
  ·
   by_cases hy:valH s[i+2]<16
   ·
    rw[qS,qS,if_pos hx,if_pos hy];have hx0:decide (((valH s[i+1]:Nat):Int)<0)=false:=by simp
    have hy0:decide (((valH s[i+2]:Nat):Int)<0)=false:=by simp
    have e1:IntKind.i64.wrap (16*((valH s[i+1]:Nat):Int))=((16*valH s[i+1]:Nat):Int):=by rw[IntWalk.i64_in _ (by omega)];omega
    have e2:IntKind.i64.wrap (((16*valH s[i+1]:Nat):Int)+((valH s[i+2]:Nat):Int))=((16*valH s[i+1]+valH s[i+2]:Nat):Int):=by rw[IntWalk.i64_in _ (by omega)];omega
    have e3:IntKind.u8.wrap ((16*valH s[i+1]+valH s[i+2]:Nat):Int)=((byteH s[i+1] s[i+2]).toNat:Int):=by rw[IntWalk.u8_in _ (by omega),bF5 hx hy]
    refine aE fun K hK=>Rg ?_;iterate 12 refine S0 ?_ (e:=fun _ h_=>by simp only[sH,↓sP,sA,tyS,simprocAttr,hx0,hy0,e1,e2,e3,h9_29,h9_35];exact AX h_)
    refine aC (g:=some (53,false)) rfl rfl fun K' hK'=>?_;simp only[sH,↓sP,sA,tyS,simprocAttr,hx0,hy0,e1,e2,e3,h9_29,h9_35];refine aX (args:=[_]) (rC (byteH s[i+1] s[i+2])) ⟨rfl,rfl,rfl,rfl⟩ ?_;rintro u rfl;refine AX (hK' _ _ ?_);clear hK' K';refine S0 ?_ (e:=fun _ h_=>by simp only[sH,↓sP,sA,tyS,simprocAttr,hx0,hy0,e1,e2,e3,h9_29,h9_35];exact AX h_);refine T2 (hK _ _ _ ?_);clear hK K;refine aG (b:=dV (byteH s[i+1] s[i+2])) rfl (fun hb=>?_) (fun hb=>?_)
    · refine R0 ?_;refine aJ ?_;simp only[aT,Tryz.results94,aR,aS,aQ,↓sP,sA,tyS,simprocAttr];have hn:=nA (hst.bad2 hi2 h37 (by simp[okH,hx,hy,hb])) hne;exact bL [] (.str []) (.bool false) rfl ⟨by rw[hn];rfl,by rw[hn];rfl⟩
    refine aK ?_;refine T0 (hK _ _ _ ?_);clear hK K;refine aE fun K hK=>Rg ?_;iterate 9 refine S0 ?_ (e:=fun _ h_=>by simp only[sH,↓sP,sA,tyS,simprocAttr,Int.natCast_nonneg,List.length_append,List.length_map,e1,e2,e3,h9_29,h9_35];exact AX h_)
    refine T2 (hK _ _ _ ?_);clear hK K;refine aD (by kernel_rfl) ?_;simp only[↓sP,sA,tyS,simprocAttr,hw2];refine AX (hK _ _ _ ?_);clear hK K;refine aD (by kernel_rfl) ?_;simp only[↓sP,sA,tyS,simprocAttr,hw3];refine⟨⟨(i+3,out++[byteH s[i+1] s[i+2]]),hst.esc hi2 h37 (by simp[okH,hx,hy,hb])⟩,aI (by omega) ?_ ?_,?_⟩
    · simp[aY,upd_at,fin_at,HV.men]
    · simp only[bB,List.map_append];exact⟨rfl,by omega,trivial,trivial⟩
    show s.length-(i+3)<s.length-i;omega
   rw[qS,qS,if_pos hx,if_neg hy];have hx0:decide (((valH s[i+1]:Nat):Int)<0)=false:=by simp
   refine aE fun K hK=>Rg ?_;iterate 14 refine S0 ?_ (e:=fun _ h_=>by simp only[sH,↓sP,sA,tyS,simprocAttr,hx0,h9_29,h9_35];exact AX h_)
   refine T2 (hK _ _ _ ?_);clear hK K;refine aG (b:=true) rfl (fun hb=>?_) (fun hb=>?_)
   · refine R0 ?_;refine aJ ?_;simp only[aT,Tryz.results94,aR,aS,aQ,↓sP,sA,tyS,simprocAttr];have hn:=nA (hst.bad2 hi2 h37 (by simp[okH,hx,hy])) hne;exact bL [] (.str []) (.bool false) rfl ⟨by rw[hn];rfl,by rw[hn];rfl⟩
   cases hb
  rw[qS,if_neg hx];refine aE fun K hK=>Rg ?_;iterate 14 refine S0 ?_ (e:=fun _ h_=>by simp only[sH,↓sP,sA,tyS,simprocAttr,h9_29,h9_35];exact AX h_)
  refine T2 (hK _ _ _ ?_);clear hK K;refine aG (b:=true) rfl (fun hb=>?_) (fun hb=>?_)
  · refine R0 ?_;refine aJ ?_;simp only[aT,Tryz.results94,aR,aS,aQ,↓sP,sA,tyS,simprocAttr];have hn:=nA (hst.bad2 hi2 h37 (by simp[okH,hx])) hne;exact bL [] (.str []) (.bool false) rfl ⟨by rw[hn];rfl,by rw[hn];rfl⟩
  cases hb
 refine bK ?_;simp only[↓sP,sA,tyS,simprocAttr];clear hK K;refine AX (hK _ _ _ ?_);clear hK K;have hei:i=s.length:=by simp at hb;omega
 have hfin:=hst.fin hei hne;refine eJ [24] (bX (fr2:=fin [(4,.c (.slc (out.map eI)))]) (ob2:=fob []) (nx2:=200) (aI (by omega) (by simp[aY,eF,fin_at,finA_at,upd_at,fob_at,HV.close,HV.closeL,CV.denil,CV.denilL,cM,HV.men,HV.menL,HV.norm,HV.toC,HV.toCL]) (by simp[bB,fK,fob_at,upd_at,none0_at,bN,HO.close,HV.close,HV.closeL,HO.men,HV.men,HV.menL,HV.norm,HV.toC,HV.toCL])) ?_);refine aE fun K hK=>Rg ?_;iterate 7 refine S0 ?_ (e:=fun _ h_=>by simp only[sH,↓sP,sA,tyS,simprocAttr,bytesC_map,List.length_map];exact AX h_)
 refine T2 (hK _ _ _ ?_);clear hK K;refine aJ ?_;simp only[aT,Tryz.results94,aR,aS,aQ,↓sP,sA,tyS,simprocAttr];refine bL [] (.str out) (.bool (decide (0<(out.length:Int)))) rfl ?_;rw[hfin];by_cases ho0:out=[]
 · subst ho0;simp
 have:0<out.length:=List.length_pos_iff.2 ho0;simp[ho0,this]
def lsC (l:List aH):CV:= .slc (l.map .str)
theorem bI1 (l:List aH):(lsC l).cells=1:=rfl
theorem sZ (l:List aH):(lsC l).denil=lsC l:=by simp only[lsC,CV.denil,denilL_str]
theorem fO (l:List (List aH)):CV.denilL (l.map lsC)=l.map lsC:=bU sZ l
theorem cJ1 (b:aH)(hl:b.length<2^40):jN Tryz.prog 61 [.slc (b.map u8)] (fun u v=>u= .slc ((lT b).map lsC)∧v= .int .i64 (jY b)):=by
 refine bD Tryz.func61 rfl (by kernel_rfl) (bH _) (Nat.le_of_ble_eq_true rfl) ?_;refine R0 ?_ (e:=fun _ h_=>by simp only[↓sP,sA,tyS,simprocAttr,rI];exact AX h_);refine bS8 ?_;refine aE fun K hK=>?_;refine R0 ?_ (e:=fun _ h_=>by simp only[↓sP,sA,tyS,simprocAttr,rI,List.length_map];exact AX h_);refine aG (b:=decide ((262144:Int)<b.length)) rfl (fun hb=>?_) (fun hb=>?_)
 ·
  refine R0 ?_ (e:=fun _ h_=>by simp only[↓sP,sA,tyS,simprocAttr,rI];exact AX h_);refine aJ ?_;simp only[aT,Tryz.results61,aR,aS,aQ,↓sP,sA,tyS,simprocAttr,rI];have hE:jY b=3:=by unfold jY;rw[if_pos (by simp at hb;omega)]
  refine bL [] (.slc []) (.int .i64 3) ?_ ⟨by simp only[lT,hE];rfl,by rw[hE]⟩;simp[HV.close,HV.closeL,CV.denil,CV.denilL,HV.norm,HV.toC,HV.toCL]
 refine aK ?_;simp only[↓sP,sA,tyS,simprocAttr,rI];refine AX (hK _ _ _ ?_);clear hK K;have hle:b.length≤262144:=by simp at hb;omega
 clear hb;refine R0 ?_ (e:=fun _ h_=>by simp only[↓sP,sA,tyS,simprocAttr,rI];exact AX h_);refine R0 ?_ (e:=fun _ h_=>by simp only[↓sP,sA,tyS,simprocAttr,rI];exact AX h_);refine aE fun K hK=>?_;refine bM2 ?_;try simp only[↓sP,sA,tyS,simprocAttr,rI]
 refine AX (hK _ _ _ ?_);clear hK K;refine aE fun K hK=>?_;have key: ∀(ok:Bool) (ls:List (List aH)) fr ob nx,(ok=true→iB b=some ls)→(ok=false→iB b=none)→ls.length≤b.length→Fits 0 fr ob (fin [(4,.own 32 ls.length),(5,.ptr 24 0)]) (fob [(24,.box 4 (.c (.bool ok))),(32,.row 71 1 (ls.map lsC))]) 1000→K fr ob nx:=by
  intro ok ls fr ob nx h1 h2 h3 hf;refine hK _ _ _ (bX hf ?_);clear hf hK K;refine aE fun K hK=>?_;cases ok
  ·
   refine aE fun K hK=>Rg ?_;iterate 7 refine S0 ?_ (e:=fun _ h_=>by simp only[sH,↓sP,sA,tyS,simprocAttr,rI,List.length_map];exact AX h_)
   simp only[sE,↓reduceIte,simprocAttr,rI];refine AX (hK _ _ _ ?_);clear hK K;refine aG (b:=true) rfl (fun hb=>?_) (fun hb=>?_)
   ·
    refine R0 ?_ (e:=fun _ h_=>by simp only[↓sP,sA,tyS,simprocAttr,rI];exact AX h_);refine aJ ?_;simp only[aT,Tryz.results61,aR,aS,aQ,↓sP,sA,tyS,simprocAttr,rI];have hE:jY b=2:=by unfold jY;rw[if_neg (by omega),h2 rfl]
    refine bL [] (.slc []) (.int .i64 2) ?_ ⟨by simp only[lT,hE];rfl,by rw[hE]⟩;simp[HV.close,HV.closeL,CV.denil,CV.denilL,HV.norm,HV.toC,HV.toCL]
   cases hb
  refine aE fun K hK=>Rg ?_;iterate 7 refine S0 ?_ (e:=fun _ h_=>by simp only[sH,↓sP,sA,tyS,simprocAttr,rI,List.length_map];exact AX h_)
  simp only[sE,↓reduceIte,simprocAttr,rI];refine AX (hK _ _ _ ?_);clear hK K;refine aG (b:=decide ((1000:Int)<ls.length)) rfl (fun hb=>?_) (fun hb=>?_)
  ·
   refine R0 ?_ (e:=fun _ h_=>by simp only[↓sP,sA,tyS,simprocAttr,rI];exact AX h_);refine aJ ?_;simp only[aT,Tryz.results61,aR,aS,aQ,↓sP,sA,tyS,simprocAttr,rI];have hE:jY b=2:=by unfold jY;rw[if_neg (by omega),h1 rfl];simp only;rw[if_pos (by simp at hb;omega)]
   refine bL [] (.slc []) (.int .i64 2) ?_ ⟨by simp only[lT,hE];rfl,by rw[hE]⟩;simp[HV.close,HV.closeL,CV.denil,CV.denilL,HV.norm,HV.toC,HV.toCL]
  refine aK ?_;simp only[↓sP,sA,tyS,simprocAttr,rI];refine AX (hK _ _ _ ?_);clear hK K;refine R0 ?_ (e:=fun _ h_=>by simp only[↓sP,sA,tyS,simprocAttr,rI];exact AX h_);refine aJ ?_;simp only[aT,Tryz.results61,aR,aS,aQ,↓sP,sA,tyS,simprocAttr,rI];have hE:jY b=0:=by unfold jY;rw[if_neg (by omega),h1 rfl];simp only;rw[if_neg (by simp at hb;omega)]
  refine bL [32] (.slc (ls.map lsC)) (.int .i64 0) ?_ ⟨by simp only[lT,hE,h1 rfl];rfl,by rw[hE]⟩;simp[HV.close,fob_at,upd_at,HV.norm,HV.toC,HV.closeL,HV.toCL,CV.denil,fO]
 refine aP ?_;refine jJ 4 0 71 1 rfl rfl rfl rfl ?_;refine bR (α:={y:aH×List (List aH)//DecSt b y.1 y.2}) (fun y=>(fin [(0,.c (.slc (y.1.1.map u8))),(4,.own 32 y.1.2.length),(5,.ptr 24 0)],fob [(24,.box 4 (.c (.bool true))),(32,.row 71 1 (y.1.2.map lsC))])) 100 (fun y=>y.1.1.length) ⟨(b,[]),DecSt.init b⟩ (fF) ?_;rintro⟨⟨rest,ls⟩,hst⟩;simp only at hst;have hr1:=hst.2.1;have hr2:=hst.2.2;refine aE fun K hK=>?_;refine R0 ?_ (e:=fun _ h_=>by simp only[↓sP,sA,tyS,simprocAttr,rI,List.length_map];exact AX h_);refine aG (b:=decide ((0:Int)<rest.length)) rfl (fun hb=>?_) (fun hb=>?_)
 ·
  refine aK ?_;simp only[↓sP,sA,tyS,simprocAttr,rI];refine AX (hK _ _ _ ?_);clear hK K;refine aP ?_;have hne:rest≠[]:=by rintro rfl;simp at hb
  clear hb;refine aE fun K hK=>cK (by kernel_rfl) ?_;simp only[sR,simprocAttr];refine SG0 ?_ (e:=fun _ h_=>by simp only[sH,↓sP,sA,tyS,simprocAttr,rI,denilL_u8];exact AX h_);refine eO (g:=none) 116 rfl rfl fun K' hK'=>?_;simp only[jK,mC,sH,↓sP,sA,tyS,simprocAttr,rI,denilL_u8];repeat refine AI ?_
  refine eK (by first|rfl|simp) ?_;try simp only[sH,↓sP,sA,tyS,simprocAttr,rI,denilL_u8]
  refine AX (hK' _ _ ?_);clear hK' K';refine bF (g:=none) rfl rfl fun K' hK'=>?_;simp only[sH,↓sP,sA,tyS,simprocAttr,rI,denilL_u8];refine aT1 (args:=[_,_]) (cB0 rest 10 (by omega)) ⟨rfl,rfl,rfl,rfl⟩ ?_;rintro u v x ⟨li,re,fd,rfl,rfl,rfl,hcut⟩;have hlt:=hcut.lt hne;refine AX (hK' _ _ ?_);clear hK' K';iterate 7 refine SG0 ?_ (e:=fun _ h_=>by simp only[sH,↓sP,sA,tyS,simprocAttr,rI,denilL_u8];exact AX h_)
  simp only[sE,↓reduceIte,simprocAttr,rI];refine AX (hK _ _ _ ?_);clear hK K;refine R0 ?_ (e:=fun _ h_=>by simp only[↓sP,sA,tyS,simprocAttr,rI];exact AX h_);refine aE fun K hK=>?_;refine aE fun K hK=>cK (by kernel_rfl) ?_;simp only[sR,simprocAttr];refine SG0 ?_ (e:=fun _ h_=>by simp only[sH,↓sP,sA,tyS,simprocAttr,rI,denilL_u8,mG,gS,List.range',List.map_cons,List.map_nil];exact AX h_);refine eO (g:=none) 160 rfl rfl fun K' hK'=>?_;simp only[jK,mC,sH,↓sP,sA,tyS,simprocAttr,rI,denilL_u8,mG,gS,List.range',List.map_cons,List.map_nil];repeat refine AI ?_
  refine eK (by first|rfl|simp) ?_;try simp only[sH,↓sP,sA,tyS,simprocAttr,rI,denilL_u8,mG,gS,List.range',List.map_cons,List.map_nil]
  refine AX (hK' _ _ ?_);clear hK' K';refine bF (g:=none) rfl rfl fun K' hK'=>?_;simp only[sH,↓sP,sA,tyS,simprocAttr,rI,denilL_u8,mG,gS,List.range',List.map_cons,List.map_nil];refine sX (args:=[_,_]) (bI0 li 32) (by simp) ⟨rfl,rfl,rfl,rfl⟩ ?_;refine AX (hK' _ _ ?_);clear hK' K';simp only[sE,↓reduceIte,simprocAttr,rI];refine AX (hK _ _ _ ?_);clear hK K;refine aP ?_;refine dX 152 0 9 1 rfl rfl rfl rfl ?_;refine aA5 (ids:=[164,165,166]) (fin [(0,.c (.slc (rest.map u8))),(4,.own 32 ls.length),(5,.ptr 24 0),(7,.c (.slc (re.map u8))),(8,.c (.bool fd)),(9,.ptr 152 0)]) (fun i=>fob [(24,.box 4 (.c (.bool true))),(32,.row 71 1 (ls.map lsC)),(152,.box 71 (.own 168 i)),(168,.row 9 1 ((wsT li i).map .str))]) 200 (fun i=>bP2 li i) (fun p hp=>by simp at hp) (aU9 li 32 (by omega)) rfl rfl (by decide) ?_ ?_ ?_ ?_ ?_ rfl rfl ?_ ?_
  ·
   intro j x hx
   match j,hx with
   |0,hx=>cases hx;rfl
   |1,hx=>cases hx;rfl
   |2,hx=>cases hx;rfl
  · exact aI (by omega) (by simp[aY,fin_at,finA_at,upd_at,HV.men,HV.menL,HV.norm,HV.toC,HV.toCL]) (by simp[bB,fob_at,upd_at,none0_at,bN,mG,wsT,HO.men,HV.men,HV.menL,HV.norm,HV.toC,HV.toCL])
  · intro id hid;simp only[List.mem_cons,List.not_mem_nil,or_false]at hid;rcases hid with rfl|rfl|rfl<;>rfl
  · intro x hx;obtain⟨p,_,rfl⟩:=List.mem_map.1 hx;rfl
  · intro p hp;simp only[List.mem_cons,List.not_mem_nil,or_false]at hp;subst hp;exact Nat.le_of_ble_eq_true rfl
  ·
   intro i hi hΦ K hK;have hi':i<(bJ 32 li).length:=by simpa using hi
   have hwl:=wP (r:=li) (Nat.le_of_lt hi');have hsl:=kR 32 li;obtain⟨p,hp⟩: ∃p,p=(bJ 32 li)[i]:=⟨_,rfl⟩;have hpl:p.length≤li.length:=by rw[hp];exact wN 32 li _ (List.getElem_mem hi')
   have hx:(List.map (fun p=>[CV.slc (List.map u8 p)]) (bJ 32 li))[i]=[CV.slc (p.map u8)]:=by rw[List.getElem_map,hp]
   rw[hx];simp only[wV];have hbc:jF (p.map u8)=some p:=bytesC_map p;refine aD (by kernel_rfl) ?_;simp only[↓sP,sA,tyS,simprocAttr,rI];refine AX (hK _ _ _ ?_);clear hK K;refine aP ?_;refine aE fun K hK=>Rg ?_;iterate 2 refine S0 ?_ (e:=fun _ h_=>by simp only[sH,↓sP,sA,tyS,simprocAttr,rI,hbc];exact AX h_)
   refine aC (g:=none) rfl rfl fun K' hK'=>?_;simp only[sH,↓sP,sA,tyS,simprocAttr,rI,hbc];refine cS (args:=[_]) (cJ0 p (by omega)) ⟨rfl,rfl,rfl,rfl⟩ ?_;rintro u v ⟨rfl,rfl⟩;refine AX (hK' _ _ ?_);clear hK' K';iterate 5 refine S0 ?_ (e:=fun _ h_=>by simp only[sH,↓sP,sA,tyS,simprocAttr,rI,hbc];exact AX h_)
   simp only[sE,↓reduceIte,simprocAttr,rI];refine AX (hK _ _ _ ?_);clear hK K;refine aE fun K hK=>?_;refine R0 ?_ (e:=fun _ h_=>by simp only[↓sP,sA,tyS,simprocAttr,rI];exact AX h_);refine aG (b:=!(unW p).isSome) rfl (fun hb=>?_) (fun hb=>?_)
   · refine R0 ?_ (e:=fun _ h_=>by simp only[↓sP,sA,tyS,simprocAttr,rI];exact AX h_);refine bK ?_;simp only[↓sP,sA,tyS,simprocAttr,rI];clear hK K;clear hK K;exact key false ls _ _ _ (fun h=>by cases h) (fun _=>hst.bad hcut hne (bP4 hi' (by rw[←hp];simpa using hb))) (by omega) (fF)
   refine aK ?_;simp only[↓sP,sA,tyS,simprocAttr,rI];refine AX (hK _ _ _ ?_);clear hK K;refine aD (by kernel_rfl) ?_;simp only[sR,simprocAttr];iterate 5 refine S0 ?_ (e:=fun _ h_=>by simp only[sH,↓sP,sA,tyS,simprocAttr,rI,List.length_append,List.length_map,hwl];exact AX h_)
   simp only[sE,↓reduceIte,simprocAttr,rI];refine⟨(show Fits 200 _ _ (fin []) _ 200 from aI (by omega) trivial ?_),bF6 hi' hΦ (by rw[←hp];simpa using hb)⟩;rw[bP3 hi',←hp];simp[bB,fob_at,upd_at,none0_at,bN,HO.men,HV.men,HV.menL,HV.norm,HV.toC,HV.toCL]
  intro hΦ;simp only[sE,↓reduceIte,simprocAttr,rI];rw[List.length_map]at hΦ⊢;have hwl:=wP (r:=li) (Nat.le_refl _);have hul:=bZ8 hΦ;have hsl:=kR 32 li;obtain⟨ws,hws⟩: ∃ws,ws=wsT li (bJ 32 li).length:=⟨_,rfl⟩;rw[←hws]at hul hwl;rw[←hws,←hwl];refine AX (hK _ _ _ ?_);clear hK K;refine aE fun K hK=>?_;cases fd
  ·
   refine eJ [168] (bX (fr2:=fin [(0,.c (.slc (rest.map u8))),(4,.own 32 ls.length),(5,.ptr 24 0),(7,.c (.slc (re.map u8))),(8,.c (.bool false)),(9,.ptr 152 0)]) (ob2:=fob [(24,.box 4 (.c (.bool true))),(32,.row 71 1 (ls.map lsC)),(152,.box 71 (.c (.slc (ws.map .str))))]) (nx2:=300) (aI (by omega) (by simp[aY,eF,fin_at,finA_at,upd_at,fob_at,HV.close,HV.closeL,CV.denil,CV.denilL,denilL_u8,HV.men,HV.menL,HV.norm,HV.toC,HV.toCL]) (by simp[bB,fK,fob_at,upd_at,none0_at,bN,HO.close,HV.close,HV.closeL,CV.denil,denilL_str,HO.men,HV.men,HV.menL,HV.norm,HV.toC,HV.toCL])) ?_);refine aE fun K hK=>Rg ?_;iterate 7 refine S0 ?_ (e:=fun _ h_=>by simp only[sH,↓sP,sA,tyS,simprocAttr,rI];exact AX h_)
   simp only[sE,↓reduceIte,simprocAttr,rI];refine AX (hK _ _ _ ?_);clear hK K;refine aG (b:=true) rfl (fun hb=>?_) (fun hb=>?_)
   · refine R0 ?_ (e:=fun _ h_=>by simp only[↓sP,sA,tyS,simprocAttr,rI];exact AX h_);refine bK ?_;simp only[↓sP,sA,tyS,simprocAttr,rI];clear hK K;exact key false ls _ _ _ (fun h=>by cases h) (fun _=>hst.bad0 hcut hne) (by omega) (fF)
   cases hb
  refine eJ [168] (bX (fr2:=fin [(0,.c (.slc (rest.map u8))),(4,.own 32 ls.length),(5,.ptr 24 0),(7,.c (.slc (re.map u8))),(8,.c (.bool true)),(9,.ptr 152 0)]) (ob2:=fob [(24,.box 4 (.c (.bool true))),(32,.row 71 1 (ls.map lsC)),(152,.box 71 (.c (.slc (ws.map .str))))]) (nx2:=300) (aI (by omega) (by simp[aY,eF,fin_at,finA_at,upd_at,fob_at,HV.close,HV.closeL,CV.denil,CV.denilL,denilL_u8,HV.men,HV.menL,HV.norm,HV.toC,HV.toCL]) (by simp[bB,fK,fob_at,upd_at,none0_at,bN,HO.close,HV.close,HV.closeL,CV.denil,denilL_str,HO.men,HV.men,HV.menL,HV.norm,HV.toC,HV.toCL])) ?_);refine aE fun K hK=>Rg ?_;iterate 4 refine S0 ?_ (e:=fun _ h_=>by simp only[sH,↓sP,sA,tyS,simprocAttr,rI];exact AX h_)
  refine aC (g:=some (44,false)) rfl rfl fun K' hK'=>?_;simp only[sH,↓sP,sA,tyS,simprocAttr,rI];refine aX (args:=[_]) (aN5 ws (by omega)) ⟨rfl,rfl,rfl,rfl⟩ ?_;rintro u rfl;refine AX (hK' _ _ ?_);clear hK' K';iterate 2 refine S0 ?_ (e:=fun _ h_=>by simp only[sH,↓sP,sA,tyS,simprocAttr,rI];exact AX h_)
  simp only[sE,↓reduceIte,simprocAttr,rI];refine AX (hK _ _ _ ?_);clear hK K;refine aG (b:=sL ws !=0) rfl (fun hb=>?_) (fun hb=>?_)
  · refine R0 ?_ (e:=fun _ h_=>by simp only[↓sP,sA,tyS,simprocAttr,rI];exact AX h_);refine bK ?_;simp only[↓sP,sA,tyS,simprocAttr,rI];clear hK K;exact key false ls _ _ _ (fun h=>by cases h) (fun _=>hst.bad hcut hne (by rw[hul,if_neg];unfold okL;simpa using hb)) (by omega) (fF)
  refine aK ?_;simp only[↓sP,sA,tyS,simprocAttr,rI];refine AX (hK _ _ _ ?_);clear hK K;refine aD (by kernel_rfl) ?_;simp only[sR,simprocAttr];iterate 7 refine S0 ?_ (e:=fun _ h_=>by simp only[sH,↓sP,sA,tyS,simprocAttr,rI,List.length_append,List.length_map];exact AX h_)
  simp only[sE,↓reduceIte,simprocAttr,rI];have hok:okL ws=true:=by unfold okL;simpa using hb
  refine⟨⟨(re,ls++[ws]),hst.next hcut hne (by rw[hul,if_pos hok])⟩,aI (by omega) ?_ ?_,hlt.1⟩
  · simp[aY,upd_at,fin_at,HV.men]
  simp only[bB,List.map_append];exact⟨rfl,by omega,trivial,rfl,by omega,trivial,trivial⟩
 refine bK ?_;simp only[↓sP,sA,tyS,simprocAttr,rI];clear hK K;have hr0:rest=[]:=by simpa using hb
 subst hr0;exact key true ls _ _ _ (fun _=>hst.fin) (fun h=>by cases h) (by omega) (fF)
theorem cB2 (s:aH):jN Tryz.prog 151 [.str s] (fun u v=>u= .int .i64 ((dK s).getD 0)∧v= .bool (dK s).isSome):=by
 refine bD Tryz.func151 rfl (by kernel_rfl) (bH _) (Nat.le_of_ble_eq_true rfl) ?_;refine R0 ?_;refine aE fun K hK=>?_;have key: ∀fr ob nx,iM s=false→Fits 0 fr ob (fin [(0,.c (.str s))]) (fob []) 100→K fr ob nx:=by
  intro fr ob nx hbad hf;refine hK _ _ _ (bX hf ?_);clear hf hK K;have hlen:s.length≤13:=by
   simp only[iM,Bool.or_eq_false_iff,decide_eq_false_iff_not]at hbad;omega
  refine R0 ?_;refine aE fun K hK=>?_;refine R0 ?_;refine aP ?_;refine bR (α:={y:Nat×Nat//DgSt s y.1 y.2}) (fun y=>(fin [(0,.c (.str s)),(4,.c (.int .i64 y.1.2)),(5,.c (.int .i64 y.1.1))],fob [])) 200 (fun y=>s.length-y.1.1) ⟨(0,0),DgSt.init s⟩ (fF) ?_;rintro⟨⟨i,n⟩,hst⟩;simp only at hst;have hi:=hst.1;have hnl:=hst.lt hlen;refine aE fun K hK=>?_;refine aE fun K hK=>Rg ?_;iterate 4 refine S0 ?_
  refine T2 (hK _ _ _ ?_);clear hK K;refine aG (b:=decide ((i:Int)<s.length)) rfl (fun hb=>?_) (fun hb=>?_)
  ·
   have hlt:i<s.length:=by simpa using hb
   clear hb;have hgd:s.getD i 0=s[i]:=by simp[hlt]
   have hdi:=bP6 s[i];refine aK ?_;refine T0 (hK _ _ _ ?_);clear hK K;refine aE fun K hK=>?_;refine aP ?_;refine aE fun K hK=>?_;have key2: ∀fr ob nx,pJ s[i]=true→Fits 0 fr ob (fin [(0,.c (.str s)),(4,.c (.int .i64 n)),(5,.c (.int .i64 i))]) (fob []) 300→K fr ob nx:=by
    intro fr ob nx hd hf;refine hK _ _ _ (bX hf ?_);clear hf hK K;have hd2:48≤s[i].toNat∧s[i].toNat≤57:=by simpa[pJ]using hd
    have e1:IntKind.i64.wrap (10*(n:Int))=((10*n:Nat):Int):=by rw[IntWalk.i64_in _ (by omega)];omega
    have e2:IntKind.u8.wrap ((s[i].toNat:Int)-48)=((s[i].toNat-48:Nat):Int):=by rw[IntWalk.u8_in _ (by omega)];omega
    have e3:IntKind.i64.wrap ((s[i].toNat-48:Nat):Int)=((s[i].toNat-48:Nat):Int):=by rw[IntWalk.i64_in _ (by omega)]
    have e4:IntKind.i64.wrap (((10*n:Nat):Int)+((s[i].toNat-48:Nat):Int))=((10*n+(s[i].toNat-48):Nat):Int):=by rw[IntWalk.i64_in _ (by omega)];omega
    refine aD (by kernel_rfl) ?_;simp only[sR,simprocAttr];iterate 9 refine S0 ?_ (e:=fun _ h_=>by simp only[sH,↓sP,sA,tyS,simprocAttr,Int.natCast_nonneg,Int.ofNat_lt,hlt,hgd,e1,e2,e3,e4];exact AX h_)
    refine T2 (hK _ _ _ ?_);clear hK K;refine aD (by kernel_rfl) ?_;simp only[↓sP,sA,tyS,simprocAttr,pN i];refine⟨⟨(i+1,10*n+(s[i].toNat-48)),hst.next hlt hd⟩,fF,?_⟩;show s.length-(i+1)<s.length-i;omega
   refine aE fun K hK=>Rg ?_;iterate 5 refine S0 ?_ (e:=fun _ h_=>by simp only[sH,↓sP,sA,tyS,simprocAttr,Int.natCast_nonneg,Int.ofNat_lt,hlt,hgd];exact AX h_)
   refine aL 33 rfl (fun h7_33=>?_) (fun h7_33=>?_)
   ·
    iterate 5 refine S0 ?_ (e:=fun _ h_=>by simp only[sH,↓sP,sA,tyS,simprocAttr,Int.natCast_nonneg,Int.ofNat_lt,hlt,hgd,h7_33];exact AX h_)
    refine T2 (hK _ _ _ ?_);clear hK K;refine aG (b:=true) rfl (fun hb=>?_) (fun hb=>?_)
    ·
     refine R0 ?_;refine aJ ?_;simp only[aT,Tryz.results151,aR,aS,aQ,↓sP,sA,tyS,simprocAttr];have hd:pJ s[i]=false:=by simp only[pJ,Bool.and_eq_false_iff,decide_eq_false_iff_not];simp at h7_33;omega
     have hn:=zO (hst.bad hlt hd);exact bL [] (.int .i64 0) (.bool false) rfl ⟨by rw[hn];rfl,by rw[hn];rfl⟩
    cases hb
   iterate 5 refine S0 ?_ (e:=fun _ h_=>by simp only[sH,↓sP,sA,tyS,simprocAttr,Int.natCast_nonneg,Int.ofNat_lt,hlt,hgd,h7_33];exact AX h_)
   refine aL 38 rfl (fun h7_38=>?_) (fun h7_38=>?_)
   ·
    simp only[h7_38];refine T2 (hK _ _ _ ?_);clear hK K;refine aG (b:=true) rfl (fun hb=>?_) (fun hb=>?_)
    ·
     refine R0 ?_;refine aJ ?_;simp only[aT,Tryz.results151,aR,aS,aQ,↓sP,sA,tyS,simprocAttr];have hd:pJ s[i]=false:=by simp only[pJ,Bool.and_eq_false_iff,decide_eq_false_iff_not];simp at h7_38;omega
     have hn:=zO (hst.bad hlt hd);exact bL [] (.int .i64 0) (.bool false) rfl ⟨by rw[hn];rfl,by rw[hn];rfl⟩
    cases hb
   simp only[h7_38];refine T2 (hK _ _ _ ?_);clear hK K;refine aG (b:=false) rfl (fun hb=>?_) (fun hb=>?_)
   · cases hb
   refine aK ?_;simp only[↓sP,sA,tyS,simprocAttr];exact key2 _ _ _ (by simp only[pJ,Bool.and_eq_true,decide_eq_true_eq];simp at h7_33 h7_38;omega) (fF)
  refine bK ?_;simp only[↓sP,sA,tyS,simprocAttr];clear hK K;refine AX (hK _ _ _ ?_);clear hK K;refine aE fun K hK=>?_;have hfin:=hst.fin (by simp at hb;omega);clear hb;refine R0 ?_;refine aG (b:=decide ((1099511627776:Int)<(n:Int))) rfl (fun hb=>?_) (fun hb=>?_)
  · refine R0 ?_;refine aJ ?_;simp only[aT,Tryz.results151,aR,aS,aQ,↓sP,sA,tyS,simprocAttr];have hn:=bP5 hfin (by simp at hb;omega);exact bL [] (.int .i64 0) (.bool false) rfl ⟨by rw[hn];rfl,by rw[hn];rfl⟩
  refine aK ?_;refine T0 (hK _ _ _ ?_);clear hK K;refine R0 ?_;refine aJ ?_;simp only[aT,Tryz.results151,aR,aS,aQ,↓sP,sA,tyS,simprocAttr];have hn:=aY9 hbad hfin (by simp at hb;omega);exact bL [] (.int .i64 n) (.bool true) rfl ⟨by rw[hn];rfl,by rw[hn];rfl⟩
 refine aE fun K hK=>Rg ?_;iterate 4 refine S0 ?_
 refine aL 8 rfl (fun h1_8=>?_) (fun h1_8=>?_)
 ·
  iterate 14 refine S0 ?_ (e:=fun _ h_=>by simp only[sH,↓sP,sA,tyS,simprocAttr,h1_8];exact AX h_)
  refine T2 (hK _ _ _ ?_);clear hK K;refine aG (b:=true) rfl (fun hb=>?_) (fun hb=>?_)
  · refine R0 ?_;refine aJ ?_;simp only[aT,Tryz.results151,aR,aS,aQ,↓sP,sA,tyS,simprocAttr];have hn:dK s=none:=wQ (by simp only[iM,Bool.or_eq_true,decide_eq_true_eq];simp at h1_8;left;left;omega);exact bL [] (.int .i64 0) (.bool false) rfl ⟨by rw[hn];rfl,by rw[hn];rfl⟩
  cases hb
 iterate 5 refine S0 ?_ (e:=fun _ h_=>by simp only[sH,↓sP,sA,tyS,simprocAttr,h1_8];exact AX h_)
 refine aL 12 rfl (fun h1_12=>?_) (fun h1_12=>?_)
 ·
  iterate 9 refine S0 ?_ (e:=fun _ h_=>by simp only[sH,↓sP,sA,tyS,simprocAttr,h1_8,h1_12];exact AX h_)
  refine T2 (hK _ _ _ ?_);clear hK K;refine aG (b:=true) rfl (fun hb=>?_) (fun hb=>?_)
  · refine R0 ?_;refine aJ ?_;simp only[aT,Tryz.results151,aR,aS,aQ,↓sP,sA,tyS,simprocAttr];have hn:dK s=none:=wQ (by simp only[iM,Bool.or_eq_true,decide_eq_true_eq];simp at h1_12;left;right;omega);exact bL [] (.int .i64 0) (.bool false) rfl ⟨by rw[hn];rfl,by rw[hn];rfl⟩
  cases hb
 iterate 4 refine S0 ?_ (e:=fun _ h_=>by simp only[sH,↓sP,sA,tyS,simprocAttr,h1_8,h1_12];exact AX h_)
 refine aL 17 rfl (fun h1_17=>?_) (fun h1_17=>?_)
 ·
  refine S0 ?_ (e:=fun _ h_=>by simp only[sH,↓sP,sA,tyS,simprocAttr,h1_8,h1_12,h1_17];exact AX h_);refine aC (g:=some (18,true)) rfl rfl fun K' hK'=>?_;simp only[sH,↓sP,sA,tyS,simprocAttr,h1_8,h1_12,h1_17];refine⟨by simp at h1_17;omega,?_⟩;refine AX (hK' _ _ ?_);clear hK' K';iterate 3 refine S0 ?_ (e:=fun _ h_=>by simp only[sH,↓sP,sA,tyS,simprocAttr,h1_8,h1_12,h1_17];exact AX h_)
  refine aL 21 rfl (fun h1_21=>?_) (fun h1_21=>?_)
  ·
   simp only[h1_21];refine T2 (hK _ _ _ ?_);clear hK K;refine aG (b:=true) rfl (fun hb=>?_) (fun hb=>?_)
   ·
    refine R0 ?_;refine aJ ?_;simp only[aT,Tryz.results151,aR,aS,aQ,↓sP,sA,tyS,simprocAttr];have hn:dK s=none:=wQ (by
     simp only[iM,Bool.or_eq_true,Bool.and_eq_true,decide_eq_true_eq,beq_iff_eq];right;refine⟨by simp at h1_17;omega,UInt8.toNat_inj.1 ?_⟩;simp only[beq_iff_eq]at h1_21;show(s.getD 0 0).toNat=48;omega)
    exact bL [] (.int .i64 0) (.bool false) rfl ⟨by rw[hn];rfl,by rw[hn];rfl⟩
   cases hb
  simp only[h1_21];refine T2 (hK _ _ _ ?_);clear hK K;refine aG (b:=false) rfl (fun hb=>?_) (fun hb=>?_)
  · cases hb
  refine aK ?_;simp only[↓sP,sA,tyS,simprocAttr];refine key _ _ _ ?_ (fF);simp only[iM,Bool.or_eq_false_iff,Bool.and_eq_false_iff,decide_eq_false_iff_not,beq_eq_false_iff_ne,ne_eq];simp only[decide_eq_false_iff_not,decide_eq_true_eq]at h1_8 h1_12;refine⟨⟨by omega,by omega⟩,?_⟩;first
   |(right;intro h0;rw[h0]at h1_21;simp at h1_21)
   |(left;simp at h1_17;omega)
 iterate 5 refine S0 ?_ (e:=fun _ h_=>by simp only[sH,↓sP,sA,tyS,simprocAttr,h1_8,h1_12,h1_17];exact AX h_)
 refine T2 (hK _ _ _ ?_);clear hK K;refine aG (b:=false) rfl (fun hb=>?_) (fun hb=>?_)
 · cases hb
 refine aK ?_;simp only[↓sP,sA,tyS,simprocAttr];refine key _ _ _ ?_ (fF);simp only[iM,Bool.or_eq_false_iff,Bool.and_eq_false_iff,decide_eq_false_iff_not,beq_eq_false_iff_ne,ne_eq];simp only[decide_eq_false_iff_not,decide_eq_true_eq]at h1_8 h1_12;refine⟨⟨by omega,by omega⟩,?_⟩;first
  |(right;intro h0;rw[h0]at h1_21;simp at h1_21)
  |(left;simp at h1_17;omega)
end Go.Proofs.YthedbjfipmkpiaaGreatDoor
namespace Go.Hl
open Go Go.Pl
section
variable {P:Program}{n k:Nat}{Q:eV}{fr:Fr}{ob:Ob}{nx:Nat}
end
def cF6 (P:Program)(f:FuncId)(args:List CV)(n:Nat)(T:TypeId)(l:List UInt8)(R:CV→List UInt8→Prop):Prop:=
 HFn P f (args.map .c++[.osl 0 n 0 1 n]) 1 (fob [(0,.box T (.c (.agg (l.map u8))))]) (fun r ob'=> ∃u l',r= .c u∧ob'=fob [(0,.box T (.c (.agg (l'.map u8))))]∧R u l')
theorem wY (args:List CV)(n:Nat)(T:TypeId)(v:CV):LocOk 1 (args.map .c++[.osl 0 n 0 1 n]) (fob [(0,.box T (.c v))]):=by
 refine⟨fun j h=>?_,fun id o h=>?_,HV.menL_append.2 ⟨HV.menL_c,by simp[HV.menL,HV.men]⟩⟩
 ·
  have:j=0:=by omega
  subst this;exact⟨_,rfl⟩
 ·
  simp only[fob_at,fob_nil]at h;split at h
  · rename_i e;subst e;cases h;exact⟨by omega,by simp[HO.men,HV.men]⟩
  · cases h
variable {R:CV→List UInt8→Prop}{T:TypeId}{ob:Ob}
theorem bI2 {P:Program}{av:List Nat}{f:FuncId}{nid id:Nat}{K:HV→Ob→Prop}{args:List CV}{n:Nat}{l:List UInt8}(h:cF6 P f args n T l R)(hid:ob id=some (.box T (.c (.agg (l.map u8)))))(hav:id∉av)(hfree:Free4 ob nid)
  (hK: ∀u l',R u l'→K (.c u) (upd ob id (some (.box T (.c (.agg (l'.map u8))))))):HCall P av f (args.map .c++[.osl id n 0 1 n]) ob nid K:=by
 have h0:sub [id] nid 0=id:=rfl;have hra: ∀(m:Nat→Nat) (a:List CV) (b:List HV),HV.renL m (a.map .c++b)=a.map .c++HV.renL m b:=by
  intro m a b;induction a with
  |nil=>rfl
  |cons x a ih=>simp only[List.map_cons,List.cons_append,HV.renL,HV.ren,ih]
 refine⟨[id],_,_,_,h,wY args n T _,⟨by simp,by simpa using hav⟩,by rw[hra];simp only[HV.renL,HV.ren,h0],fun j o hj=>?_,fun r lob' hR _=>?_⟩
 ·
  simp only[fob_at,fob_nil]at hj;split at hj
  · rename_i e;subst e;cases hj;simpa[HO.ren,HV.ren]using hid
  · cases hj
 ·
  obtain⟨u,l',rfl,rfl,hR⟩:=hR;have e2:bY ob [id] nid (fob [(0,.box T (.c (.agg (l'.map u8))))])=upd ob id (some (.box T (.c (.agg (l'.map u8))))):=by
   funext i;by_cases e:i=id
   · subst e;rw[aV];simp only[bY,List.findIdx?_cons,beq_self_eq_true,if_true,fob_at,Option.map_some,HO.ren,HV.ren]
   ·
    have e':(id==i)=false:=by simp;exact fun h=>e h.symm
    rw[bE _ _ e];simp only[bY,List.findIdx?_cons,e',List.findIdx?_nil,Option.map_none];simp only[Bool.false_eq_true,if_false];split
    ·
     rename_i hr;have h2:[id].length+(i-nid)≠0:=by simp
     rw[fob_at,if_neg h2,fob_nil];exact(hfree.all i hr.1 hr.2).symm
    · rfl
  rw[e2];exact hK u l' hR
theorem nW {l':List UInt8}{r:HV}(u:CV)(hr:(r.close ob []).norm= .c u)(ho:ob 0=some (.box T (.c (.agg (l'.map u8)))))(hR:R u l'):
  iH 1 r ob (fun r ob'=> ∃u l',r= .c u∧ob'=fob [(0,.box T (.c (.agg (l'.map u8))))]∧R u l'):=by
 refine⟨[],id,.c u,_,⟨u,l',rfl,rfl,hR⟩,hr,fun _ _=>rfl,fun _ _ _ _ h=>h,by simp[HV.men],fun j o h=>?_⟩;simp only[fob_at,fob_nil]at h;split at h
 · rename_i e;subst e;cases h;refine⟨by omega,by simp[HO.men,HV.men],by simp,_,ho,?_⟩;have hd:(CV.agg (l'.map u8)).denil= .agg (l'.map u8):=bQ3 l';simp only[HO.ren,HV.ren,HV.close,hd,HV.norm,HV.toC]
 · cases h
end Go.Hl
namespace Go.Proofs.YthedbjfipmkpiaaGreatDoor
open Go Go.Hl Go.Pl
set_option maxRecDepth 10000
set_option maxHeartbeats 2000000
theorem cB3 (s p:aH):dB Tryz.prog 170 [.str s,.str p] (fun v=>v= .bool (iL s p)):=by
 refine bD Tryz.func170 rfl (by kernel_rfl) (bH _) (Nat.le_of_ble_eq_true rfl) ?_;refine R0 ?_;refine aE fun K hK=>Rg ?_;iterate 6 refine S0 ?_ (e:=fun _ h_=>by simp only[sH,↓sP,sA,tyS,simprocAttr,Int.natCast_nonneg,Int.ofNat_le,List.drop_zero,Nat.sub_zero];exact AX h_)
 refine aL 9 rfl (fun h1_9=>?_) (fun h1_9=>?_)
 ·
  iterate 3 refine S0 ?_ (e:=fun _ h_=>by simp only[sH,↓sP,sA,tyS,simprocAttr,Int.natCast_nonneg,Int.ofNat_le,List.drop_zero,Nat.sub_zero,h1_9];exact AX h_)
  refine aC (g:=some (10,true)) rfl rfl fun K' hK'=>?_;simp only[sH,↓sP,sA,tyS,simprocAttr,Int.natCast_nonneg,Int.ofNat_le,List.drop_zero,Nat.sub_zero,h1_9];refine⟨by simp at h1_9;omega,?_⟩;refine AX (hK' _ _ ?_);clear hK' K';iterate 4 refine S0 ?_ (e:=fun _ h_=>by simp only[sH,↓sP,sA,tyS,simprocAttr,Int.natCast_nonneg,Int.ofNat_le,List.drop_zero,Nat.sub_zero,h1_9];exact AX h_)
  refine T2 (hK _ _ _ ?_);clear hK K;refine aJ ?_;simp only[aT,Tryz.results170,aR,aS,aQ,↓sP,sA,tyS,simprocAttr];have hle:p.length≤s.length:=by simp at h1_9;omega
  exact aW [] (.bool (s.take p.length==p)) rfl (by unfold iL;rw[show decide (p.length≤s.length)=true from by simpa using hle];rfl)
 iterate 8 refine S0 ?_ (e:=fun _ h_=>by simp only[sH,↓sP,sA,tyS,simprocAttr,Int.natCast_nonneg,Int.ofNat_le,List.drop_zero,Nat.sub_zero,h1_9];exact AX h_)
 refine T2 (hK _ _ _ ?_);clear hK K;refine aJ ?_;simp only[aT,Tryz.results170,aR,aS,aQ,↓sP,sA,tyS,simprocAttr];have hle: ¬p.length≤s.length:=by simp at h1_9;omega
 exact aW [] (.bool false) rfl (by unfold iL;rw[show decide (p.length≤s.length)=false from by simpa using hle];rfl)
theorem cB4 (s p:aH):jN Tryz.prog 152 [.str s,.str p] (fun u v=>u= .str (if iL s p then s.drop p.length else s)∧v= .bool (iL s p)):=by
 refine bD Tryz.func152 rfl (by kernel_rfl) (bH _) (Nat.le_of_ble_eq_true rfl) ?_;refine R0 ?_;refine aE fun K hK=>?_;refine aE fun K hK=>Rg ?_;iterate 2 refine S0 ?_
 refine aC (g:=none) rfl rfl fun K' hK'=>?_;simp only[sH,↓sP,sA,tyS,simprocAttr];refine aX (args:=[_,_]) (cB3 s p) ⟨rfl,rfl,rfl,rfl⟩ ?_;rintro u rfl;refine AX (hK' _ _ ?_);clear hK' K';refine S0 ?_;refine T2 (hK _ _ _ ?_);clear hK K;refine aG (b:=!(iL s p)) rfl (fun hb=>?_) (fun hb=>?_)
 ·
  refine R0 ?_;refine aJ ?_;simp only[aT,Tryz.results152,aR,aS,aQ,↓sP,sA,tyS,simprocAttr];have hp:iL s p=false:=by simpa using hb
  exact bL [] (.str s) (.bool false) rfl ⟨by rw[hp];rfl,by rw[hp]⟩
 refine aK ?_;refine T0 (hK _ _ _ ?_);clear hK K;have hp:iL s p=true:=by simpa using hb
 have hle:p.length≤s.length:=by
  unfold iL at hp;simp only[Bool.and_eq_true,decide_eq_true_eq]at hp;exact hp.1
 have htd:List.take (s.length-p.length) (List.drop p.length s)=List.drop p.length s:=List.take_of_length_le (by simp);refine aE fun K hK=>Rg ?_;iterate 6 refine S0 ?_ (e:=fun _ h_=>by simp only[sH,↓sP,sA,tyS,simprocAttr,Int.natCast_nonneg,Int.ofNat_le,hle,htd];exact AX h_)
 refine T2 (hK _ _ _ ?_);clear hK K;refine aJ ?_;simp only[aT,Tryz.results152,aR,aS,aQ,↓sP,sA,tyS,simprocAttr];exact bL [] (.str (s.drop p.length)) (.bool true) rfl ⟨by rw[hp];rfl,by rw[hp]⟩
theorem bT5 (s p:aH):jN Tryz.prog 126 [.str s,.str p] (fun u v=>u= .str (if iL s p then s.drop p.length else s)∧v= .bool (iL s p)):=by
 refine bD Tryz.func126 rfl (by kernel_rfl) (bH _) (Nat.le_of_ble_eq_true rfl) ?_;refine R0 ?_;refine aE fun K hK=>Rg ?_;iterate 2 refine S0 ?_
 refine aC (g:=none) rfl rfl fun K' hK'=>?_;simp only[sH,↓sP,sA,tyS,simprocAttr];refine cS (args:=[_,_]) (cB4 s p) ⟨rfl,rfl,rfl,rfl⟩ ?_;rintro u v ⟨rfl,rfl⟩;refine AX (hK' _ _ ?_);clear hK' K';iterate 4 refine S0 ?_
 refine T2 (hK _ _ _ ?_);clear hK K;refine aJ ?_;simp only[aT,Tryz.results126,aR,aS,aQ,↓sP,sA,tyS,simprocAttr];exact bL [] _ _ rfl ⟨rfl,rfl⟩
theorem bT6 (s:aH)(n:Nat)(T:TypeId)(l0:List UInt8)(h0:l0.length=n)(hn1:1<n)(hn2:n<1000)(hs:s.length<2^40):
  cF6 Tryz.prog 127 [.str s] n T l0 (fun u l'=>u= .bool (eT s n).isSome∧l'.length=n∧ ∀w,eT s n=some w→l'=w):=by
 refine bD Tryz.func127 rfl (by kernel_rfl) (wY [_] _ _ _) (Nat.le_of_ble_eq_true rfl) ?_;refine R0 ?_;refine aE fun K hK=>?_;have hw2:IntKind.i64.wrap (2*(n:Int))=((2*n:Nat):Int):=by rw[IntWalk.i64_in _ (by omega)];omega
 have hln:(List.take n (l0.map u8)).length=n:=by simp[h0]
 refine aE fun K hK=>Rg ?_;iterate 6 refine S0 ?_ (e:=fun _ h_=>by simp only[sH,↓sP,sA,tyS,simprocAttr,h0,bQ6,List.length_map,Nat.zero_le,Nat.le_refl,List.drop_zero,Nat.sub_zero,hln,hw2];exact AX h_)
 refine T2 (hK _ _ _ ?_);clear hK K;refine aG (b:=(s.length:Int) !=((2*n:Nat):Int)) rfl (fun hb=>?_) (fun hb=>?_)
 · refine R0 ?_;refine aJ ?_;simp only[aT,Tryz.results127,aR,aS,aQ,↓sP,sA,tyS,simprocAttr];have hv:eT s n=none:=aU1 (by simp at hb;omega);exact nW (.bool false) rfl rfl ⟨by rw[hv];rfl,h0,fun w hw=>by rw[hv]at hw;cases hw⟩
 refine aK ?_;refine T0 (hK _ _ _ ?_);clear hK K;refine aE fun K hK=>?_;have hlen:s.length=2*n:=by simp at hb;omega
 clear hb;refine R0 ?_ (e:=fun _ h_=>by simp only[↓sP,sA,tyS,simprocAttr,h0,bQ6,List.length_map,Nat.zero_le,Nat.le_refl,List.drop_zero,Nat.sub_zero,hln];exact AX h_);refine aP ?_;refine bR (α:={y:Nat×List UInt8//UhSt s n y.1 y.2}) (fun y=>(fin [(0,.c (.str s)),(1,.osl 0 n 0 1 n),(15,.c (.int .i64 n)),(16,.c (.int .i64 y.1.1))],fob [(0,.box T (.c (.agg (y.1.2.map u8))))])) 100 (fun y=>n-y.1.1) ⟨(0,l0),UhSt.init s h0⟩ (fF) ?_;rintro⟨⟨i,l⟩,hst⟩;simp only at hst;have hi:=hst.2.1;have hll:=hst.1;refine R0 ?_;refine aE fun K hK=>?_;refine aG (b:=decide ((i:Int)<(n:Int))) rfl (fun hb=>?_) (fun hb=>?_)
 ·
  have hlt:i<n:=by simp at hb;omega
  clear hb;have hv2:IntKind.i64.wrap (2*(i:Int))=((2*i:Nat):Int):=by rw[IntWalk.i64_in _ (by omega)];omega
  have hv3:IntKind.i64.wrap (((2*i:Nat):Int)+1)=((2*i+1:Nat):Int):=by rw[IntWalk.i64_in _ (by omega)];rfl
  have hgx:s.getD (2*i) 0=hX s i:=rfl;have hgy:s.getD (2*i+1) 0=hY s i:=rfl;have hl1:2*i<s.length:=by omega
  have hl2:2*i+1<s.length:=by omega
  refine aK ?_;refine T0 (hK _ _ _ ?_);clear hK K;refine aE fun K hK=>?_;refine aP ?_;refine R0 ?_;refine aE fun K hK=>dJ mixed [(0,[],[]),(1,[],[]),(2,[],[]),(3,[],[]),(5,[],[]),(6,[],[]),(7,[],[]),(8,[],[]),(9,[],[]),(4,[],[5,6,7,8,9]),(10,[],[]),(11,[],[]),(12,[],[])] [0,0,2,7,15,0,0,64,192,480,1023,2047,4095] (by kernel_rfl) (by kernel_rfl) (by kernel_rfl) (by kernel_rfl) rfl (by kernel_rfl) ?_;iterate 9 refine W0 ?_ (e:=fun _ h_=>by simp only[sH,↓sP,sA,tyS,simprocAttr,Int.natCast_nonneg,Int.ofNat_lt,hv2,hv3,hgx,hgy,hl1,hl2];exact AX h_)
  refine bG (g:=none) rfl rfl fun K' hK'=>?_;simp only[sH,↓sP,sA,tyS,simprocAttr,Int.natCast_nonneg,Int.ofNat_lt,hv2,hv3,hgx,hgy,hl1,hl2];refine aX (args:=[_,_]) (rD aZ0 (hX s i)) ⟨rfl,rfl,rfl,rfl⟩ ?_;rintro u rfl;refine AX (hK' _ _ ?_);clear hK' K';refine bG (g:=none) rfl rfl fun K' hK'=>?_;simp only[sH,↓sP,sA,tyS,simprocAttr,Int.natCast_nonneg,Int.ofNat_lt,hv2,hv3,hgx,hgy,hl1,hl2];refine aX (args:=[_,_]) (rD aZ0 (hY s i)) ⟨rfl,rfl,rfl,rfl⟩ ?_;rintro u rfl;refine AX (hK' _ _ ?_);clear hK' K';iterate 2 refine W0 ?_ (e:=fun _ h_=>by simp only[sH,↓sP,sA,tyS,simprocAttr,Int.natCast_nonneg,Int.ofNat_lt,hv2,hv3,hgx,hgy,hl1,hl2];exact AX h_)
  refine T2 (hK _ _ _ ?_);clear hK K;refine aE fun K hK=>?_;by_cases hx:valL (hX s i)<16
  ·
   by_cases hy:valL (hY s i)<16
   ·
    rw[nC,nC,if_pos hx,if_pos hy];have hx0:decide (((valL (hX s i):Nat):Int)<0)=false:=by simp
    have hy0:decide (((valL (hY s i):Nat):Int)<0)=false:=by simp
    have e1:IntKind.i64.wrap (16*((valL (hX s i):Nat):Int))=((16*valL (hX s i):Nat):Int):=by rw[IntWalk.i64_in _ (by omega)];omega
    have e2:IntKind.i64.wrap (((16*valL (hX s i):Nat):Int)+((valL (hY s i):Nat):Int))=((16*valL (hX s i)+valL (hY s i):Nat):Int):=by rw[IntWalk.i64_in _ (by omega)];omega
    have e3:IntKind.u8.wrap ((16*valL (hX s i)+valL (hY s i):Nat):Int)=((hB s i).toNat:Int):=by rw[IntWalk.u8_in _ (by omega),cH9 hx hy]
    have hil:i<l.length:=by omega
    have hl1':l.length≠1:=by omega
    refine aE fun K hK=>Rg ?_;iterate 6 refine S0 ?_ (e:=fun _ h_=>by simp only[sH,↓sP,sA,tyS,simprocAttr,hx0,hy0];exact AX h_)
    refine T2 (hK _ _ _ ?_);clear hK K;refine aG (b:=false) rfl (fun hb=>?_) (fun hb=>?_)
    · cases hb
    refine aK ?_;refine T0 (hK _ _ _ ?_);clear hK K;refine aD (by kernel_rfl) ?_;simp only[sR,simprocAttr];iterate 9 refine S0 ?_ (e:=fun _ h_=>by simp only[sH,↓sP,sA,tyS,simprocAttr,e1,e2,e3,Int.natCast_nonneg,Int.ofNat_lt,Nat.le_refl,Nat.sub_zero,Nat.zero_add,Nat.mul_one,hlt,sT,bG6,hil,hl1',and_false,aS6];exact AX h_)
    refine T2 (hK _ _ _ ?_);clear hK K;refine aD (by kernel_rfl) ?_;simp only[↓sP,sA,tyS,simprocAttr,pN i];refine⟨⟨(i+1,l.set i (hB s i)),hst.next hlt (by simp[hOk,hx,hy])⟩,fF,?_⟩;show n-(i+1)<n-i;omega
   rw[nC,nC,if_pos hx,if_neg hy];have hx0:decide (((valL (hX s i):Nat):Int)<0)=false:=by simp
   refine aE fun K hK=>Rg ?_;iterate 6 refine S0 ?_ (e:=fun _ h_=>by simp only[sH,↓sP,sA,tyS,simprocAttr,hx0];exact AX h_)
   refine T2 (hK _ _ _ ?_);clear hK K;refine aG (b:=true) rfl (fun hb=>?_) (fun hb=>?_)
   · refine R0 ?_;refine aJ ?_;simp only[aT,Tryz.results127,aR,aS,aQ,↓sP,sA,tyS,simprocAttr];have hv:=hst.bad hlt (by simp[hOk,hx,hy]);exact nW (.bool false) rfl rfl ⟨by rw[hv];rfl,hll,fun w hw=>by rw[hv]at hw;cases hw⟩
   cases hb
  rw[nC,if_neg hx];refine aE fun K hK=>Rg ?_;iterate 6 refine S0 ?_
  refine T2 (hK _ _ _ ?_);clear hK K;refine aG (b:=true) rfl (fun hb=>?_) (fun hb=>?_)
  · refine R0 ?_;refine aJ ?_;simp only[aT,Tryz.results127,aR,aS,aQ,↓sP,sA,tyS,simprocAttr];have hv:=hst.bad hlt (by simp[hOk,hx]);exact nW (.bool false) rfl rfl ⟨by rw[hv];rfl,hll,fun w hw=>by rw[hv]at hw;cases hw⟩
  cases hb
 refine bK ?_;simp only[↓sP,sA,tyS,simprocAttr];clear hK K;refine AX (hK _ _ _ ?_);clear hK K;refine R0 ?_;refine aJ ?_;simp only[aT,Tryz.results127,aR,aS,aQ,↓sP,sA,tyS,simprocAttr];have hin:i=n:=by simp at hb;omega
 subst hin;have hv:=hst.fin hlen;exact nW (.bool true) rfl rfl ⟨by rw[hv];rfl,hll,fun w hw=>by rw[hv]at hw;cases hw;rfl⟩
theorem nX (s:aH)(hs:s.length<2^40):jN Tryz.prog 97 [.str s] (fun u v=>u=dg ((fZ s).getD zdg)∧v= .bool (fZ s).isSome):=by
 refine bD Tryz.func97 rfl (by kernel_rfl) (bH _) (Nat.le_of_ble_eq_true rfl) ?_;refine R0 ?_;refine R0 ?_;refine aE fun K hK=>Rg ?_;refine S0 ?_;refine aC (g:=none) rfl rfl fun K' hK'=>?_;simp only[sH,↓sP,sA,tyS,simprocAttr];refine cS (args:=[_,_]) (bT5 s shaW) ⟨rfl,rfl,rfl,rfl⟩ ?_;rintro u v ⟨rfl,rfl⟩;refine AX (hK' _ _ ?_);clear hK' K';iterate 5 refine S0 ?_
 refine T2 (hK _ _ _ ?_);clear hK K;refine aE fun K hK=>?_;by_cases hp:iL s shaW=true
 ·
  rw[hp,if_pos rfl,show shaW.length=7 from rfl];refine aE fun K hK=>Rg ?_;iterate 5 refine S0 ?_
  refine aC (g:=some (14,false)) rfl rfl fun K' hK'=>?_;simp only[sH,↓sP,sA,tyS,simprocAttr];refine bI2 (args:=[_]) (bT6 (s.drop 7) 32 44 (List.replicate 32 0) (by simp) (by omega) (by omega) (by rw[List.length_drop];omega)) rfl (by simp) ⟨rfl,rfl,rfl,rfl⟩ ?_;rintro u l' ⟨rfl,hll,hw⟩;refine AX (hK' _ _ ?_);clear hK' K';iterate 2 refine S0 ?_
  refine T2 (hK _ _ _ ?_);clear hK K;refine aG (b:=!(eT (s.drop 7) 32).isSome) rfl (fun hb=>?_) (fun hb=>?_)
  · refine R0 ?_ (e:=fun _ h_=>by simp only[↓sP,sA,tyS,simprocAttr,zY,dg_setAt,cT,cU,aJ7,mV,aJ6];exact AX h_);refine aJ ?_;simp only[aT,Tryz.results97,aR,aS,aQ,↓sP,sA,tyS,simprocAttr];have hn:fZ s=none:=zX (fun _=>by simpa using hb);exact bL [] zd (.bool false) rfl ⟨by rw[hn];rfl,by rw[hn];rfl⟩
  refine aK ?_;refine T0 (hK _ _ _ ?_);clear hK K;obtain⟨l,hl⟩:=Option.isSome_iff_exists.1 (show(eT (s.drop 7) 32).isSome=true by simpa using hb);have:=hw l hl;subst this;have hv:=zW hp hl hll;refine R0 ?_ (e:=fun _ h_=>by simp only[↓sP,sA,tyS,simprocAttr,sT,hll,dg_setAt];exact AX h_);refine aJ ?_;simp only[aT,Tryz.results97,aR,aS,aQ,↓sP,sA,tyS,simprocAttr];simp only[sT,hll,if_true,Option.map_some];refine bL [] (dg (⟨l',hll⟩:Dig)) (.bool true) ?_ ?_
  · simp[HV.close,HV.closeL,HV.norm,HV.toC,HV.toCL,CV.denil,denilL_u8];rfl
  exact⟨by rw[hv];rfl,by rw[hv];rfl⟩
 have hp':iL s shaW=false:=by simpa using hp
 rw[hp',if_neg (by simp)];refine aE fun K hK=>Rg ?_;iterate 8 refine S0 ?_
 refine T2 (hK _ _ _ ?_);clear hK K;refine aG (b:=true) rfl (fun hb=>?_) (fun hb=>?_)
 · refine R0 ?_ (e:=fun _ h_=>by simp only[↓sP,sA,tyS,simprocAttr,zY,dg_setAt,cT,cU,aJ7,mV,aJ6];exact AX h_);refine aJ ?_;simp only[aT,Tryz.results97,aR,aS,aQ,↓sP,sA,tyS,simprocAttr];have hn:fZ s=none:=zX (fun h=>absurd h hp);exact bL [] zd (.bool false) rfl ⟨by rw[hn];rfl,by rw[hn];rfl⟩
 cases hb
end Go.Proofs.YthedbjfipmkpiaaGreatDoor
