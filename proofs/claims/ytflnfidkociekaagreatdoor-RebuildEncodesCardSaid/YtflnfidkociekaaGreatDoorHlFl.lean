/- HL: a struct of one struct is that struct; functions that write a boxed array through a slice bC1 it. By an AI agent. -/
import Derived.Test.YtflnfidkociekaaGreatDoorHeV5
import Derived.Test.YtflnfidkociekaaGreatDoorHlTab
import Derived.Test.YtflnfidkociekaaGreatDoorHeFm
import Derived.Test.YtflnfidkociekaaGreatDoorPl02g
import Derived.Test.YtflnfidkociekaaGreatDoorPl18e
set_option linter.unusedSimpArgs false
set_option linter.unusedVariables false
set_option linter.defProp false
namespace Go.Proofs.YtflnfidkociekaaGreatDoor
open Go Go.Hl Go.Pl
set_option maxRecDepth 10000
set_option maxHeartbeats 2000000
theorem aZ8 (s:aU)(hl:s.length<2^40):eD Tryz.prog 42 [.str s] (fun u v=>u= .str ((unW s).getD [])∧v= .bool (unW s).isSome):=by
 refine bI Tryz.func42 rfl (by kernel_rfl) (bJ _) (Nat.le_of_ble_eq_true rfl) ?_;refine aD fun K hK=>aC (by kernel_rfl) ?_;simp (maxSteps:=4000000) only[↓sP,sA,tyS,simprocAttr];repeat refine AI ?_
 refine hK _ _ _ ?_;clear hK K;refine aD fun K hK=>?_;refine aD fun K hK=>aC (by kernel_rfl) ?_;simp (maxSteps:=4000000) only[↓sP,sA,tyS,simprocAttr];repeat refine AI ?_
 refine hK _ _ _ ?_;clear hK K;refine aQ (b:=s==[126]) rfl (fun hb=>?_) (fun hb=>?_)
 ·
  refine aD fun K hK=>aC (by kernel_rfl) ?_;simp (maxSteps:=4000000) only[↓sP,sA,tyS,simprocAttr];repeat refine AI ?_
  refine hK _ _ _ ?_;clear hK K;refine aT ?_;simp (maxSteps:=4000000) only[bA,Tryz.results42,aY,aZ,aX,↓sP,sA,tyS,simprocAttr];have hs:s=[126]:=by simpa using hb
  subst hs;exact aW [] (.str []) (.bool true) rfl ⟨rfl,rfl⟩
 refine aV ?_;simp (maxSteps:=4000000) only[↓sP,sA,tyS,simprocAttr];repeat refine AI ?_
 refine hK _ _ _ ?_;clear hK K;refine aD fun K hK=>?_;have hne:s≠[126]:=by simpa using hb
 clear hb;refine aD fun K hK=>aC (by kernel_rfl) ?_;simp (maxSteps:=4000000) only[↓sP,sA,tyS,simprocAttr];repeat refine AI ?_
 refine hK _ _ _ ?_;clear hK K;refine aQ (b:=s==[]) rfl (fun hb=>?_) (fun hb=>?_)
 ·
  refine aD fun K hK=>aC (by kernel_rfl) ?_;simp (maxSteps:=4000000) only[↓sP,sA,tyS,simprocAttr];repeat refine AI ?_
  refine hK _ _ _ ?_;clear hK K;refine aT ?_;simp (maxSteps:=4000000) only[bA,Tryz.results42,aY,aZ,aX,↓sP,sA,tyS,simprocAttr];have hs:s=[]:=by simpa using hb
  subst hs;exact aW [] (.str []) (.bool false) rfl ⟨rfl,rfl⟩
 refine aV ?_;simp (maxSteps:=4000000) only[↓sP,sA,tyS,simprocAttr];repeat refine AI ?_
 refine hK _ _ _ ?_;clear hK K;have hne0:s≠[]:=by simpa using hb
 clear hb;refine aD fun K hK=>aC (by kernel_rfl) ?_;simp (maxSteps:=4000000) only[↓sP,sA,tyS,simprocAttr];repeat refine AI ?_
 refine hK _ _ _ ?_;clear hK K;refine aD fun K hK=>?_;refine aD fun K hK=>aC (by kernel_rfl) ?_;simp (maxSteps:=4000000) only[↓sP,sA,tyS,simprocAttr];repeat refine AI ?_
 refine hK _ _ _ ?_;clear hK K;refine bE ?_;refine iD 4 0 5 1 rfl rfl rfl rfl ?_;refine cA (α:={y:Nat×aU//UnSt s y.1 y.2}) (fun y=>(fin [(0,.c (.str s)),(4,.own 32 y.1.2.length),(5,.c (.int .i64 y.1.1))],fob [(32,.row 5 1 (y.1.2.map cQ))])) 100 (fun y=>s.length-y.1.1) ⟨(0,[]),UnSt.init s⟩ (aS (by omega) (by simp[bK,fin_at,finA_at,upd_at,HV.men,HV.menL,HV.norm,HV.toC,HV.toCL]) (by simp[bM,fob_at,upd_at,none0_at,bY,HO.men,HV.men,HV.menL,HV.norm,HV.toC,HV.toCL])) ?_;rintro⟨⟨i,out⟩,hst⟩;simp only at hst;have hi:=hst.1;have ho:=hst.2.2.2;refine aD fun K hK=>?_;refine aD fun K hK=>aC (by kernel_rfl) ?_;simp only[sR,simprocAttr];iterate 4
  (refine aB (g:=none) rfl rfl fun K' hK'=>?_;simp only[sH,↓sP,sA,tyS,simprocAttr];(repeat refine AI ?_);refine hK' _ _ ?_;clear hK' K')
 simp only[sE,↓reduceIte,simprocAttr];repeat refine AI ?_
 refine hK _ _ _ ?_;clear hK K;refine aQ (b:=decide ((i:Int)<s.length)) rfl (fun hb=>?_) (fun hb=>?_)
 ·
  have hlt:i<s.length:=by simpa using hb
  clear hb;have hgd:s.getD i 0=s[i]:=by simp[hlt]
  refine aV ?_;simp (maxSteps:=4000000) only[↓sP,sA,tyS,simprocAttr];repeat refine AI ?_
  refine hK _ _ _ ?_;clear hK K;refine aD fun K hK=>?_;refine bE ?_;refine aD fun K hK=>?_;refine aD fun K hK=>aC (by kernel_rfl) ?_;simp only[sR,simprocAttr];iterate 3
   (refine aB (g:=none) rfl rfl fun K' hK'=>?_;simp only[sH,↓sP,sA,tyS,simprocAttr,Int.natCast_nonneg,Int.ofNat_lt,hlt,hgd];(repeat refine AI ?_);refine hK' _ _ ?_;clear hK' K')
  refine aB (g:=none) rfl rfl fun K' hK'=>?_;simp (maxSteps:=4000000) only[sH,↓sP,sA,tyS,simprocAttr,Int.natCast_nonneg,Int.ofNat_lt,hlt,hgd];refine bH (args:=[_]) (oN s[i]) ⟨rfl,rfl,rfl,rfl⟩ ?_;rintro u rfl;repeat refine AI ?_
  refine hK' _ _ ?_;clear hK' K';simp only[sE,↓reduceIte,simprocAttr];repeat refine AI ?_
  refine hK _ _ _ ?_;clear hK K;refine aQ (b:=cF s[i]) rfl (fun hb=>?_) (fun hb=>?_)
  ·
   refine aD fun K hK=>aC (by kernel_rfl) ?_;simp only[sR,simprocAttr];iterate 7
    (refine aB (g:=none) rfl rfl fun K' hK'=>?_;simp only[sH,↓sP,sA,tyS,simprocAttr,Int.natCast_nonneg,Int.ofNat_lt,hlt,hgd,List.length_append,List.length_map];(repeat refine AI ?_);refine hK' _ _ ?_;clear hK' K')
   simp only[sE,↓reduceIte,simprocAttr];repeat refine AI ?_
   refine hK _ _ _ ?_;clear hK K;refine bW ?_;simp (maxSteps:=4000000) only[↓sP,sA,tyS,simprocAttr];clear hK K;repeat refine AI ?_
   refine hK _ _ _ ?_;clear hK K;refine aC (by kernel_rfl) ?_;simp (maxSteps:=4000000) only[↓sP,sA,tyS,simprocAttr,IntWalk.i64_in _ (show-9223372036854775808≤(i:Int)+1∧(i:Int)+1≤9223372036854775807 by omega)];refine⟨⟨(i+1,out++[s[i]]),hst.plain hlt hb⟩,aS (by omega) ?_ ?_,?_⟩
   · simp[bK,upd_at,fin_at,HV.men]
   · simp only[bM,List.map_append];exact⟨rfl,by omega,trivial,trivial⟩
   show s.length-(i+1)<s.length-i;omega
  refine aV ?_;simp (maxSteps:=4000000) only[↓sP,sA,tyS,simprocAttr];repeat refine AI ?_
  refine hK _ _ _ ?_;clear hK K;refine aD fun K hK=>?_;have hp:cF s[i]=false:=hb;clear hb;have hw1:IntKind.i64.wrap ((i:Int)+1)=((i+1:Nat):Int):=by rw[IntWalk.i64_in _ (by omega)];rfl
  have hw2:IntKind.i64.wrap ((i:Int)+2)=((i+2:Nat):Int):=by rw[IntWalk.i64_in _ (by omega)];rfl
  have hw3:IntKind.i64.wrap (((i+2:Nat):Int)+1)=((i+3:Nat):Int):=by rw[IntWalk.i64_in _ (by omega)];rfl
  have hwd:IntKind.i64.wrap ((s.length:Int)-(i:Int))=((s.length-i:Nat):Int):=by rw[IntWalk.i64_in _ (by omega)];omega
  refine aD fun K hK=>aC (by kernel_rfl) ?_;simp only[sR,simprocAttr];iterate 5
   (refine aB (g:=none) rfl rfl fun K' hK'=>?_;simp only[sH,↓sP,sA,tyS,simprocAttr,Int.natCast_nonneg,Int.ofNat_lt,hlt,hgd,hwd];(repeat refine AI ?_);refine hK' _ _ ?_;clear hK' K')
  refine bG 31 rfl (fun h11_31=>?_) (fun h11_31=>?_)
  ·
   iterate 5
    (refine aB (g:=some (32,false)) rfl rfl fun K' hK'=>?_;simp only[sH,↓sP,sA,tyS,simprocAttr,Int.natCast_nonneg,Int.ofNat_lt,hlt,hgd,hwd,h11_31];(repeat refine AI ?_);refine hK' _ _ ?_;clear hK' K')
   refine aB (g:=none) rfl rfl fun K' hK'=>?_;simp (maxSteps:=4000000) only[sH,↓sP,sA,tyS,simprocAttr,Int.natCast_nonneg,Int.ofNat_lt,hlt,hgd,hwd,h11_31];repeat refine AI ?_
   refine hK' _ _ ?_;clear hK' K';simp only[sE,↓reduceIte,simprocAttr];repeat refine AI ?_
   refine hK _ _ _ ?_;clear hK K;refine aQ (b:=true) rfl (fun hb=>?_) (fun hb=>?_)
   ·
    refine aD fun K hK=>aC (by kernel_rfl) ?_;simp (maxSteps:=4000000) only[↓sP,sA,tyS,simprocAttr];repeat refine AI ?_
    refine hK _ _ _ ?_;clear hK K;refine aT ?_;simp (maxSteps:=4000000) only[bA,Tryz.results42,aY,aZ,aX,↓sP,sA,tyS,simprocAttr];have h37:s[i]≠37:=by rintro h;rw[h]at h11_31;simp at h11_31
    have hn:=eN (hst.bad1 hlt hp (.inl h37)) hne;exact aW [] (.str []) (.bool false) rfl ⟨by rw[hn];rfl,by rw[hn];rfl⟩
   cases hb
  iterate 5
   (refine aB (g:=some (32,false)) rfl rfl fun K' hK'=>?_;simp only[sH,↓sP,sA,tyS,simprocAttr,Int.natCast_nonneg,Int.ofNat_lt,hlt,hgd,hwd,h11_31];(repeat refine AI ?_);refine hK' _ _ ?_;clear hK' K')
  refine aB (g:=none) rfl rfl fun K' hK'=>?_;simp (maxSteps:=4000000) only[sH,↓sP,sA,tyS,simprocAttr,Int.natCast_nonneg,Int.ofNat_lt,hlt,hgd,hwd,h11_31];repeat refine AI ?_
  refine hK' _ _ ?_;clear hK' K';refine bG 37 rfl (fun h11_37=>?_) (fun h11_37=>?_)
  ·
   simp only[h11_37];simp only[sE,↓reduceIte,simprocAttr];repeat refine AI ?_
   refine hK _ _ _ ?_;clear hK K;refine aQ (b:=true) rfl (fun hb=>?_) (fun hb=>?_)
   ·
    refine aD fun K hK=>aC (by kernel_rfl) ?_;simp (maxSteps:=4000000) only[↓sP,sA,tyS,simprocAttr];repeat refine AI ?_
    refine hK _ _ _ ?_;clear hK K;refine aT ?_;simp (maxSteps:=4000000) only[bA,Tryz.results42,aY,aZ,aX,↓sP,sA,tyS,simprocAttr];have hi2:s.length≤i+2:=by simp at h11_37;omega
    have hn:=eN (hst.bad1 hlt hp (.inr hi2)) hne;exact aW [] (.str []) (.bool false) rfl ⟨by rw[hn];rfl,by rw[hn];rfl⟩
   cases hb
  simp only[h11_37];simp only[sE,↓reduceIte,simprocAttr];repeat refine AI ?_
  refine hK _ _ _ ?_;clear hK K;refine aQ (b:=false) rfl (fun hb=>?_) (fun hb=>?_)
  · cases hb
  refine aV ?_;simp (maxSteps:=4000000) only[↓sP,sA,tyS,simprocAttr];repeat refine AI ?_
  refine hK _ _ _ ?_;clear hK K;have h37:s[i]=37:=by
   simp only[bne_eq_false_iff_eq]at h11_31;exact UInt8.toNat_inj.1 (by show s[i].toNat=37;omega)
  have hi2:i+2<s.length:=by simp at h11_37;omega
  have hi1:i+1<s.length:=by omega
  have hg1:s.getD (i+1) 0=s[i+1]:=by simp[hi1]
  have hg2:s.getD (i+2) 0=s[i+2]:=by simp[hi2]
  refine aD fun K hK=>eL mixed [(0,[],[]),(1,[],[]),(2,[],[]),(3,[],[]),(5,[],[]),(6,[],[]),(7,[],[]),(8,[],[]),(4,[],[5,6,7,8]),(9,[],[]),(10,[],[]),(11,[],[])] [0,0,2,7,15,0,0,64,224,511,1023,2047] (by kernel_rfl) (by kernel_rfl) (by kernel_rfl) (by kernel_rfl) rfl (by kernel_rfl) ?_;iterate 8
   (refine bR (g:=none) rfl rfl fun K' hK'=>?_;simp only[sH,↓sP,sA,tyS,simprocAttr,Int.natCast_nonneg,Int.ofNat_lt,hw1,hw2,hg1,hg2,hi1,hi2,h11_31,h11_37];(repeat refine AI ?_);refine hK' _ _ ?_;clear hK' K')
  refine bR (g:=none) rfl rfl fun K' hK'=>?_;simp (maxSteps:=4000000) only[sH,↓sP,sA,tyS,simprocAttr,Int.natCast_nonneg,Int.ofNat_lt,hw1,hw2,hg1,hg2,hi1,hi2,h11_31,h11_37];refine bH (args:=[_]) (yK s[i+1]) ⟨rfl,rfl,rfl,rfl⟩ ?_;rintro u rfl;repeat refine AI ?_
  refine hK' _ _ ?_;clear hK' K';refine bR (g:=none) rfl rfl fun K' hK'=>?_;simp (maxSteps:=4000000) only[sH,↓sP,sA,tyS,simprocAttr,Int.natCast_nonneg,Int.ofNat_lt,hw1,hw2,hg1,hg2,hi1,hi2,h11_31,h11_37];refine bH (args:=[_]) (yK s[i+2]) ⟨rfl,rfl,rfl,rfl⟩ ?_;rintro u rfl;repeat refine AI ?_
  refine hK' _ _ ?_;clear hK' K';iterate 2
   (refine bR (g:=none) rfl rfl fun K' hK'=>?_;simp only[sH,↓sP,sA,tyS,simprocAttr,Int.natCast_nonneg,Int.ofNat_lt,hw1,hw2,hg1,hg2,hi1,hi2,h11_31,h11_37];(repeat refine AI ?_);refine hK' _ _ ?_;clear hK' K')
  simp only[sE,↓reduceIte,simprocAttr];repeat refine AI ?_
  refine hK _ _ _ ?_;clear hK K;refine aD fun K hK=>?_;by_cases hx:valH s[i+1]<16
  ·
   by_cases hy:valH s[i+2]<16
   ·
    have hx0:(((valH s[i+1]:Nat):Int)==16)=false:=by rw[beq_eq_false_iff_ne];omega
    have hy0:(((valH s[i+2]:Nat):Int)==16)=false:=by rw[beq_eq_false_iff_ne];omega
    have e1:IntKind.i64.wrap (16*((valH s[i+1]:Nat):Int))=((16*valH s[i+1]:Nat):Int):=by rw[IntWalk.i64_in _ (by omega)];omega
    have e2:IntKind.i64.wrap (((16*valH s[i+1]:Nat):Int)+((valH s[i+2]:Nat):Int))=((16*valH s[i+1]+valH s[i+2]:Nat):Int):=by rw[IntWalk.i64_in _ (by omega)];omega
    have e3:IntKind.u8.wrap ((16*valH s[i+1]+valH s[i+2]:Nat):Int)=((byteH s[i+1] s[i+2]).toNat:Int):=by rw[IntWalk.u8_in _ (by omega),oO hx hy]
    refine aD fun K hK=>aC (by kernel_rfl) ?_;simp only[sR,simprocAttr];iterate 3
     (refine aB (g:=none) rfl rfl fun K' hK'=>?_;simp only[sH,↓sP,sA,tyS,simprocAttr,hx0,hy0,e1,e2,e3,h11_31,h11_37];(repeat refine AI ?_);refine hK' _ _ ?_;clear hK' K')
    iterate 2
     (refine aB (g:=some (51,false)) rfl rfl fun K' hK'=>?_;simp only[sH,↓sP,sA,tyS,simprocAttr,hx0,hy0,e1,e2,e3,h11_31,h11_37];(repeat refine AI ?_);refine hK' _ _ ?_;clear hK' K')
    iterate 2
     (refine aB (g:=none) rfl rfl fun K' hK'=>?_;simp only[sH,↓sP,sA,tyS,simprocAttr,hx0,hy0,e1,e2,e3,h11_31,h11_37];(repeat refine AI ?_);refine hK' _ _ ?_;clear hK' K')
    iterate 5
     (refine aB (g:=some (55,false)) rfl rfl fun K' hK'=>?_;simp only[sH,↓sP,sA,tyS,simprocAttr,hx0,hy0,e1,e2,e3,h11_31,h11_37];(repeat refine AI ?_);refine hK' _ _ ?_;clear hK' K')
    refine aB (g:=some (55,false)) rfl rfl fun K' hK'=>?_;simp (maxSteps:=4000000) only[sH,↓sP,sA,tyS,simprocAttr,hx0,hy0,e1,e2,e3,h11_31,h11_37];refine bH (args:=[_]) (oN (byteH s[i+1] s[i+2])) ⟨rfl,rfl,rfl,rfl⟩ ?_;rintro u rfl;repeat refine AI ?_
    refine hK' _ _ ?_;clear hK' K';refine aB (g:=none) rfl rfl fun K' hK'=>?_;simp (maxSteps:=4000000) only[sH,↓sP,sA,tyS,simprocAttr,hx0,hy0,e1,e2,e3,h11_31,h11_37];repeat refine AI ?_
    refine hK' _ _ ?_;clear hK' K';simp only[sE,↓reduceIte,simprocAttr];repeat refine AI ?_
    refine hK _ _ _ ?_;clear hK K;refine aQ (b:=cF (byteH s[i+1] s[i+2])) rfl (fun hb=>?_) (fun hb=>?_)
    ·
     refine aD fun K hK=>aC (by kernel_rfl) ?_;simp (maxSteps:=4000000) only[↓sP,sA,tyS,simprocAttr];repeat refine AI ?_
     refine hK _ _ _ ?_;clear hK K;refine aT ?_;simp (maxSteps:=4000000) only[bA,Tryz.results42,aY,aZ,aX,↓sP,sA,tyS,simprocAttr];have hn:=eN (hst.bad2 hi2 h37 (by simp[okH,hx,hy,hb])) hne;exact aW [] (.str []) (.bool false) rfl ⟨by rw[hn];rfl,by rw[hn];rfl⟩
    refine aV ?_;simp (maxSteps:=4000000) only[↓sP,sA,tyS,simprocAttr];repeat refine AI ?_
    refine hK _ _ _ ?_;clear hK K;refine aD fun K hK=>aC (by kernel_rfl) ?_;simp only[sR,simprocAttr];iterate 9
     (refine aB (g:=none) rfl rfl fun K' hK'=>?_;simp only[sH,↓sP,sA,tyS,simprocAttr,Int.natCast_nonneg,List.length_append,List.length_map,e1,e2,e3,h11_31,h11_37];(repeat refine AI ?_);refine hK' _ _ ?_;clear hK' K')
    simp only[sE,↓reduceIte,simprocAttr];repeat refine AI ?_
    refine hK _ _ _ ?_;clear hK K;refine aC (by kernel_rfl) ?_;simp (maxSteps:=4000000) only[↓sP,sA,tyS,simprocAttr,hw2];repeat refine AI ?_
    refine hK _ _ _ ?_;clear hK K;refine aC (by kernel_rfl) ?_;simp (maxSteps:=4000000) only[↓sP,sA,tyS,simprocAttr,hw3];refine⟨⟨(i+3,out++[byteH s[i+1] s[i+2]]),hst.esc hi2 h37 (by simp[okH,hx,hy,hb])⟩,aS (by omega) ?_ ?_,?_⟩
    · simp[bK,upd_at,fin_at,HV.men]
    · simp only[bM,List.map_append];exact⟨rfl,by omega,trivial,trivial⟩
    show s.length-(i+3)<s.length-i;omega
   have hx0:(((valH s[i+1]:Nat):Int)==16)=false:=by rw[beq_eq_false_iff_ne];omega
   have hy0:(((valH s[i+2]:Nat):Int)==16)=true:=by have:=aG0 s[i+2];rw[beq_iff_eq];omega
   refine aD fun K hK=>aC (by kernel_rfl) ?_;simp only[sR,simprocAttr];iterate 3
    (refine aB (g:=none) rfl rfl fun K' hK'=>?_;simp only[sH,↓sP,sA,tyS,simprocAttr,hx0,hy0,h11_31,h11_37];(repeat refine AI ?_);refine hK' _ _ ?_;clear hK' K')
   iterate 2
    (refine aB (g:=some (51,false)) rfl rfl fun K' hK'=>?_;simp only[sH,↓sP,sA,tyS,simprocAttr,hx0,hy0,h11_31,h11_37];(repeat refine AI ?_);refine hK' _ _ ?_;clear hK' K')
   iterate 2
    (refine aB (g:=none) rfl rfl fun K' hK'=>?_;simp only[sH,↓sP,sA,tyS,simprocAttr,hx0,hy0,h11_31,h11_37];(repeat refine AI ?_);refine hK' _ _ ?_;clear hK' K')
   iterate 6
    (refine aB (g:=some (55,false)) rfl rfl fun K' hK'=>?_;simp only[sH,↓sP,sA,tyS,simprocAttr,hx0,hy0,h11_31,h11_37];(repeat refine AI ?_);refine hK' _ _ ?_;clear hK' K')
   refine aB (g:=none) rfl rfl fun K' hK'=>?_;simp (maxSteps:=4000000) only[sH,↓sP,sA,tyS,simprocAttr,hx0,hy0,h11_31,h11_37];repeat refine AI ?_
   refine hK' _ _ ?_;clear hK' K';simp only[sE,↓reduceIte,simprocAttr];repeat refine AI ?_
   refine hK _ _ _ ?_;clear hK K;refine aQ (b:=true) rfl (fun hb=>?_) (fun hb=>?_)
   ·
    refine aD fun K hK=>aC (by kernel_rfl) ?_;simp (maxSteps:=4000000) only[↓sP,sA,tyS,simprocAttr];repeat refine AI ?_
    refine hK _ _ _ ?_;clear hK K;refine aT ?_;simp (maxSteps:=4000000) only[bA,Tryz.results42,aY,aZ,aX,↓sP,sA,tyS,simprocAttr];have hn:=eN (hst.bad2 hi2 h37 (by simp[okH,hx,hy])) hne;exact aW [] (.str []) (.bool false) rfl ⟨by rw[hn];rfl,by rw[hn];rfl⟩
   cases hb
  have hx0:(((valH s[i+1]:Nat):Int)==16)=true:=by have:=aG0 s[i+1];rw[beq_iff_eq];omega
  refine aD fun K hK=>aC (by kernel_rfl) ?_;simp only[sR,simprocAttr];iterate 3
   (refine aB (g:=none) rfl rfl fun K' hK'=>?_;simp only[sH,↓sP,sA,tyS,simprocAttr,hx0,h11_31,h11_37];(repeat refine AI ?_);refine hK' _ _ ?_;clear hK' K')
  iterate 2
   (refine aB (g:=some (51,false)) rfl rfl fun K' hK'=>?_;simp only[sH,↓sP,sA,tyS,simprocAttr,hx0,h11_31,h11_37];(repeat refine AI ?_);refine hK' _ _ ?_;clear hK' K')
  iterate 2
   (refine aB (g:=none) rfl rfl fun K' hK'=>?_;simp only[sH,↓sP,sA,tyS,simprocAttr,hx0,h11_31,h11_37];(repeat refine AI ?_);refine hK' _ _ ?_;clear hK' K')
  iterate 6
   (refine aB (g:=some (55,false)) rfl rfl fun K' hK'=>?_;simp only[sH,↓sP,sA,tyS,simprocAttr,hx0,h11_31,h11_37];(repeat refine AI ?_);refine hK' _ _ ?_;clear hK' K')
  refine aB (g:=none) rfl rfl fun K' hK'=>?_;simp (maxSteps:=4000000) only[sH,↓sP,sA,tyS,simprocAttr,hx0,h11_31,h11_37];repeat refine AI ?_
  refine hK' _ _ ?_;clear hK' K';simp only[sE,↓reduceIte,simprocAttr];repeat refine AI ?_
  refine hK _ _ _ ?_;clear hK K;refine aQ (b:=true) rfl (fun hb=>?_) (fun hb=>?_)
  ·
   refine aD fun K hK=>aC (by kernel_rfl) ?_;simp (maxSteps:=4000000) only[↓sP,sA,tyS,simprocAttr];repeat refine AI ?_
   refine hK _ _ _ ?_;clear hK K;refine aT ?_;simp (maxSteps:=4000000) only[bA,Tryz.results42,aY,aZ,aX,↓sP,sA,tyS,simprocAttr];have hn:=eN (hst.bad2 hi2 h37 (by simp[okH,hx])) hne;exact aW [] (.str []) (.bool false) rfl ⟨by rw[hn];rfl,by rw[hn];rfl⟩
  cases hb
 refine bW ?_;simp (maxSteps:=4000000) only[↓sP,sA,tyS,simprocAttr];clear hK K;repeat refine AI ?_
 refine hK _ _ _ ?_;clear hK K;have hei:i=s.length:=by simp at hb;omega
 have hfin:=hst.fin hei hne;have ho0:out≠[]:=fun h=>hne0 (List.eq_nil_of_length_eq_zero (by have:=hst.2.2.1 h;omega));rw[if_neg ho0]at hfin;refine eK [32] (cN (fr2:=fin [(4,.c (.slc (out.map cQ)))]) (ob2:=fob []) (nx2:=200) (aS (by omega) (by simp[bK,iB,fin_at,finA_at,upd_at,fob_at,HV.close,HV.closeL,CV.denil,CV.denilL,dI,HV.men,HV.menL,HV.norm,HV.toC,HV.toCL]) (by simp[bM,iC,fob_at,upd_at,none0_at,bY,HO.close,HV.close,HV.closeL,HO.men,HV.men,HV.menL,HV.norm,HV.toC,HV.toCL])) ?_);refine aD fun K hK=>aC (by kernel_rfl) ?_;simp only[sR,simprocAttr];iterate 4
  (refine aB (g:=none) rfl rfl fun K' hK'=>?_;simp only[sH,↓sP,sA,tyS,simprocAttr,bytesC_map,List.length_map];(repeat refine AI ?_);refine hK' _ _ ?_;clear hK' K')
 simp only[sE,↓reduceIte,simprocAttr];repeat refine AI ?_
 refine hK _ _ _ ?_;clear hK K;refine aT ?_;simp (maxSteps:=4000000) only[bA,Tryz.results42,aY,aZ,aX,↓sP,sA,tyS,simprocAttr];exact aW [] (.str out) (.bool true) rfl ⟨by rw[hfin];rfl,by rw[hfin];rfl⟩
end Go.Proofs.YtflnfidkociekaaGreatDoor
namespace Go.Pl
open Go Go.Hl
theorem pM (c:UInt8): ∀m:aU,bD c (m++[c])=bD c m++[[]]
  |[]=>by simp[bD]
  |b::m=>by
    have ih:=pM c m;simp only[List.cons_append];rw[bD,bD];by_cases h:b=c
    · grind
    · rw[if_neg h,if_neg h,ih]
      grind[bD,absurd,cJ]
theorem kK {c:UInt8}: ∀{l:aU},l≠[]→(bD c l).getLast (cJ c l)=[]→ ∃m,l=m++[c]
  |[],h,_=>absurd rfl h
  |b::l,_,hl=>by
    by_cases h:b=c
    · subst h
      have hs:bD b (b::l)=[]::bD b l:=by rw[bD,if_pos rfl]
      cases l with
      |nil=>simp_all
      |cons d l=>
        have:(bD b (d::l)).getLast (cJ b _)=[]:=by
          simp only[hs]at hl;rw[List.getLast_cons (cJ b _)]at hl;exact hl
        obtain⟨m,hm⟩:=kK (l:=d::l) (by simp) this;grind
    · cases hs:bD c l with
      |nil=>exact absurd hs (cJ c l)
      |cons x xs=>
        have hs2:bD c (b::l)=(b::x)::xs:=by rw[bD,if_neg h,hs]
        simp only[hs2]at hl;cases xs with
        |nil=>grind
        |cons y ys=>
          have hne:l≠[]:=by rintro rfl;simp[bD]at hs
          have:(bD c l).getLast (cJ c l)=[]:=by
            simp only[hs];rw[List.getLast_cons (by simp)]at hl⊢;exact hl
          obtain⟨m,hm⟩:=kK hne this;grind
def jH (c:UInt8):List aU→aU
  |[]=>[]
  |w::l=>w++l.flatMap fun v=>c::v
theorem kL (c:UInt8): ∀l:aU,jH c (bD c l)=l
  |[]=>rfl
  |b::l=>by
    have ih:=kL c l;rw[bD];cases hs:bD c l with
    |nil=>exact absurd hs (cJ c l)
    |cons x xs=>
      grind[jH]
theorem pN {c:UInt8}: ∀{w:aU},(∀b∈w,b≠c)→bD c w=[w]
  |[],_=>rfl
  |b::w,h=>by
    rw[bD,if_neg (h b List.mem_cons_self),pN fun x hx=>h x (List.mem_cons_of_mem _ hx)]
theorem sB {c:UInt8}{r:aU}: ∀{w:aU},(∀b∈w,b≠c)→bD c (w++c::r)=w::bD c r
  |[],_=>by simp only[List.nil_append];rw[bD,if_pos rfl]
  |b::w,h=>by
    simp only[List.cons_append];rw[bD,if_neg (h b List.mem_cons_self),sB fun x hx=>h x (List.mem_cons_of_mem _ hx)]
theorem kM {c:UInt8}: ∀{l:List aU},l≠[]→(∀w∈l,∀b∈w,b≠c)→bD c (jH c l)=l
  |[],h,_=>absurd rfl h
  |[w],_,h=>by grind[jH,pN,List.mem_cons_self]
  |w::v::l,_,h=>by
    have ih:=kM (c:=c) (l:=v::l) (by simp) fun x hx=>h x (List.mem_cons_of_mem _ hx);grind[jH,sB,List.mem_cons_self]
theorem aB9 (c:UInt8)(m:aU):((bD c m).flatMap fun r=>r++[c])=m++[c]:=by
  have h:=kL c m;cases hs:bD c m with
  |nil=>exact absurd hs (cJ c m)
  |cons x xs=>
    rw[hs]at h;simp only[jH]at h;rw[←h];have key: ∀(x:aU) (xs:List aU),(List.flatMap (fun r=>r++[c]) (x::xs))=(x++xs.flatMap fun v=>c::v)++[c]:=by
      intro x xs;induction xs generalizing x with
      |nil=>simp
      |cons y ys ih=>
        grind
    grind
set_option maxRecDepth 20000 in
theorem yP {c:UInt8}(h:valH c<16):kH (valH c)=c:=by
  have key: ∀n:Fin 256,valH (UInt8.ofNat n.1)<16→kH (valH (UInt8.ofNat n.1))=UInt8.ofNat n.1:=by decide
  have:=key ⟨c.toNat,c.toNat_lt⟩;simp_all
set_option maxRecDepth 20000 in
theorem uJ {n:Nat}(h:n<16):valH (kH n)=n:=by
  have key: ∀n:Fin 16,valH (kH n.1)=n.1:=by decide
  exact key ⟨n,h⟩
theorem aT6 {x y:UInt8}(h:okH x y=true):gA (byteH x y)=[37,x,y]:=by
  simp only[okH,Bool.and_eq_true,decide_eq_true_eq,Bool.not_eq_true']at h;obtain⟨⟨h1,h2⟩,h3⟩:=h;unfold gA;rw[h3,oO h1 h2];have e1:(16*valH x+valH y)/16=valH x:=by omega
  have e2:(16*valH x+valH y)%16=valH y:=by omega
  simp only[Bool.false_eq_true,if_false,e1,e2,yP h1,yP h2]
variable {c:UInt8}
theorem sC (h:cF c=true):gA c=[c]:=by unfold gA;grind
theorem wE : ∀(n:Nat) {s w:aU},s.length≤n→unB s=some w→cI w=s
  |0,s,w,hn,h=>by simp_all[List.eq_nil_of_length_eq_zero,unB,Option.some.injEq]
  |n+1,[],w,_,h=>by simp_all[unB,Option.some.injEq]
  |n+1,c::l,w,hn,h=>by
    simp only[List.length_cons]at hn;by_cases hp:cF c=true
    · rw[kX hp,Option.map_eq_some_iff]at h
      obtain⟨w',h',rfl⟩:=h;have ih:=wE n (by omega) h';grind[cI,sC]
    · have hp:cF c=false:=by simpa using hp
      by_cases hc:c=37
      · subst hc
        match l,h with
        |[],h=>grind[qB]
        |[x],h=>grind[qB]
        |x::y::l',h=>
          by_cases ho:okH x y=true
          · rw[vZ ho,Option.map_eq_some_iff]at h
            obtain⟨w',h',rfl⟩:=h;have ih:=wE n (by grind) h';grind[cI,aT6]
          grind[pL]
      grind[qB]
theorem aZ9 {s w:aU}(h:unW s=some w):fE w=s:=by
  unfold unW at h;split at h
  · rename_i hs;cases h;rw[hs];rfl
  · split at h
    · cases h
    · rename_i h1 h2
      have:=wE _ (Nat.le_refl _) h;unfold fE;rw[if_neg (bE2 h2 h),this]
theorem uK : ∀w:aU,unB (cI w)=some w
  |[]=>rfl
  |c::w=>by
    have ih:=uK w;have e:cI (c::w)=gA c++cI w:=by simp[cI]
    rw[e];by_cases hp:cF c=true
    · grind[sC,kX]
    · have hp:cF c=false:=by simpa using hp
      have hlt:=c.toNat_lt;have h1:valH (kH (c.toNat/16))=c.toNat/16:=uJ (by omega);have h2:valH (kH (c.toNat%16))=c.toNat%16:=uJ (by omega);have hb:byteH (kH (c.toNat/16)) (kH (c.toNat%16))=c:=by
        unfold byteH;rw[h1,h2,Nat.div_add_mod];exact UInt8.ofNat_toNat
      have ho:okH (kH (c.toNat/16)) (kH (c.toNat%16))=true:=by
        simp only[okH,hb,hp,h1,h2,Bool.and_eq_true,decide_eq_true_eq,Bool.not_false,and_true];omega
      grind[gA,kH,vZ]
variable {b:UInt8}
theorem uL (h:b∈gA c):b≠10∧b≠32∧b≠126:=by
  unfold gA at h;split at h
  · rename_i hp
    simp only[List.mem_singleton]at h;subst h;refine⟨?_,?_,?_⟩<;>(rintro rfl;revert hp;decide)
  · have key: ∀n:Nat,kH n≠10∧kH n≠32∧kH n≠126:=by
      intro n;unfold kH;rcases Nat.lt_or_ge n 16 with hn|hn
      · have: ∀n:Fin 16,([48,49,50,51,52,53,54,55,56,57,65,66,67,68,69,70]:List UInt8).getD n.1 0≠10∧([48,49,50,51,52,53,54,55,56,57,65,66,67,68,69,70]:List UInt8).getD n.1 0≠32∧([48,49,50,51,52,53,54,55,56,57,65,66,67,68,69,70]:List UInt8).getD n.1 0≠126:=by decide
        exact this ⟨n,hn⟩
      · simp_all
    grind
theorem oP {w:aU}(h:b∈fE w):b≠10∧b≠32:=by
  unfold fE at h;split at h
  · grind
  · obtain⟨c,_,hc⟩:=List.mem_flatMap.1 h
    grind[uL]
theorem aT7 (w:aU):unW (fE w)=some w:=by
  unfold fE;split
  · rename_i h;subst h;rfl
  · rename_i h
    have hne:cI w≠[]:=by
      intro he;have:=xS w;rw[he]at this;exact h (List.eq_nil_of_length_eq_zero (by grind))
    have h126:cI w≠[126]:=by
      intro he;have hm:(126:UInt8)∈cI w:=by rw[he];simp
      obtain⟨c,_,hc⟩:=List.mem_flatMap.1 hm;exact(uL hc).2.2 rfl
    simp_all[unW,if_neg,uK]
theorem lA {α β:Type}{f:α→Option β}: ∀{l:List α} {m:List β},l.mapM f=some m→(∀{g:β→α},(∀x y,f x=some y→g y=x)→m.map g=l)∧m.length=l.length
  |[],m,h=>by grind
  |a::l,m,h=>by
    rw[List.mapM_cons]at h;cases ha:f a with
    |none=>grind
    |some b=>
      rw[ha]at h;cases hl:l.mapM f with
      |none=>grind
      |some m'=>
        rw[hl]at h;cases h;obtain⟨h1,h2⟩:=lA hl;grind
theorem uM (l:List aU):eT l=jH 32 (l.map fE):=by
  cases l with
  |nil=>rfl
  |cons w l=>simp[eT,jH,List.flatMap_map]
variable {r:aU}
theorem bA0 {ws:List aU}(h:unL r=some ws):eT ws=r:=by
  have:=(lA h).1 (g:=fE) fun x y h=>aZ9 h;rw[uM,this,kL]
theorem uN : ∀l:List aU,(l.map fE).mapM unW=some l
  |[]=>rfl
  |w::l=>by rw[List.map_cons,List.mapM_cons,aT7,uN l];rfl
variable {l:List aU}
theorem aT8 (h:l≠[]):unL (eT l)=some l:=by
  unfold unL;rw[uM,kM (by simp_all) (by
    intro w hw b hb;obtain⟨v,_,rfl⟩:=List.mem_map.1 hw;exact(oP hb).2),uN]
theorem aL8 (h:b∈eT l):b≠10:=by
  cases l with
  |nil=>simp at h
  |cons w l=>
    simp only[eT,List.mem_append,List.mem_flatMap]at h;rcases h with h|⟨v,_,h⟩
    · exact(oP h).1
    · rcases List.mem_cons.1 h with rfl|h
      all_goals grind[oP]
variable {ls:List (List aU)}
theorem aL9 (h:ls≠[]):eF ls=jH 10 (ls.map eT)++[10]:=by
  cases ls with
  |nil=>grind
  |cons l ls=>
    have key: ∀(l:List aU) (ls:List (List aU)),eF (l::ls)=jH 10 ((l::ls).map eT)++[10]:=by
      intro l ls;induction ls generalizing l with
      |nil=>simp[eF,jH,sX]
      |cons k ls ih=>
        grind[eF,sX,jH]
    grind
theorem oQ (m:aU):fF (m++[10])=(bD 10 m).mapM unR:=by simp_all[pM,fF,if_neg,if_pos,List.dropLast_concat]
theorem aM0 (h: ∀l∈ls,okL l=true):fF (eF ls)=some ls:=by
  by_cases hne:ls=[]
  · subst hne;simp[fF]
  · rw[aL9 hne,oQ,kM (by simpa using hne) (by
      intro w hw b hb;obtain⟨l,_,rfl⟩:=List.mem_map.1 hw;exact aL8 hb)]
    clear hne;induction ls with
    |nil=>rfl
    |cons l ls ih=>
      have hl:=h l List.mem_cons_self;have hr:unR (eT l)=some l:=by
        unfold unR;rw[aT8 ((gU l).1 hl).1];simp only[hl,if_true]
      rw[List.map_cons,List.mapM_cons,hr,ih fun x hx=>h x (List.mem_cons_of_mem _ hx)];rfl
variable {rs:List aU}
theorem aT9 (h:rs.mapM unL=some ls):rs.mapM unR=if ls.all okL then some ls else none:=by
  induction rs generalizing ls with
  |nil=>grind
  |cons r rs ih=>
    rw[List.mapM_cons]at h;cases hr:unL r with
    |none=>grind
    |some l=>
      rw[hr]at h;cases hl:rs.mapM unL with
      |none=>grind
      |some m=>
        rw[hl]at h;cases h;rw[List.mapM_cons,ih hl];unfold unR;rw[hr];simp only[List.all_cons];by_cases h1:okL l=true
        · grind
        grind
theorem tA (h:rs.mapM unL=none):rs.mapM unR=none:=by
  induction rs with
  |nil=>grind
  |cons r rs ih=>
    rw[List.mapM_cons]at h⊢;cases hr:unL r with
    |none=>unfold unR;grind
    |some l=>
      rw[hr]at h;have:rs.mapM unL=none:=by
        cases hl:rs.mapM unL with
        |none=>rfl
        |some m=>rw[hl]at h;cases h
      rw[ih this];cases unR r<;>rfl
variable {m:aU}
theorem aM1 (h:(bD 10 m).mapM unL=some ls):eF ls=m++[10]:=by
  have h1:=(lA h).1 (g:=eT) fun x y h=>bA0 h;have h2:=aB9 10 m;rw[←h1]at h2;rw[←h2];simp only[eF,List.flatMap_map];rfl
theorem aM2 {b:aU}(hb: ¬262144<b.length)(hne:b≠[])(h:b.getD (b.length-1) 0≠10):dM b=2:=by
  have:fF b=none:=by
    unfold fF;rw[if_neg hne,if_neg];intro hl;obtain⟨m,rfl⟩:=kK hne hl;simp at h
  unfold dM;rw[if_neg hb,this]
theorem aM3 (hb: ¬262144<(m++[10]).length)(h:(bD 10 m).mapM unL=none):dM (m++[10])=2:=by
  unfold dM;rw[if_neg hb,oQ,tA h]
theorem aU0 (hb: ¬262144<(m++[10]).length)(h:(bD 10 m).mapM unL=some ls):(gB ls=0→dM (m++[10])=0∧fS (m++[10])=ls)∧(gB ls≠0→dM (m++[10])=2):=by
  have hd:=aM1 h;have hv:=aT9 h;rw[←oQ]at hv;by_cases hk:ls.all okL=true
  · rw[if_pos hk]at hv
    have hE:dM (m++[10])=if 1000<ls.length then 2 else 0:=by unfold dM;rw[if_neg hb,hv]
    by_cases hl:1000<ls.length
    · rw[if_pos hl]at hE
      exact⟨fun he=>absurd (he.symm.trans (oL hl)) (by decide),fun _=>hE⟩
    · rw[if_neg hl]at hE
      have he:gB ls=0:=by
        rw[vQ (by omega) (by simpa using hk),hd,if_neg hb]
      exact⟨fun _=>⟨hE,by unfold fS;rw[if_pos hE,hv];rfl⟩,fun hn=>absurd he hn⟩
  · rw[if_neg hk]at hv
    have hE:dM (m++[10])=2:=by unfold dM;rw[if_neg hb,hv]
    refine⟨fun he=>?_,fun _=>hE⟩;exfalso;apply hk;unfold gB at he;split at he
    · cases he
    · split at he
      · rename_i l hf
        have:=List.find?_some hf;exact absurd he (aF0 (by simpa using this))
      · rename_i hf
        rw[List.find?_eq_none]at hf;rw[List.all_eq_true];intro l hl;simpa using hf l hl
def lsT (rows:List aU)(i:Nat):List (List aU):=(rows.take i).map fun r=>(unL r).getD []
variable {i:Nat}{rows:List aU}
theorem aU1 (h:i<rows.length):lsT rows (i+1)=lsT rows i++[(unL rows[i]).getD []]:=by
  simp only[lsT,List.take_succ_eq_append_getElem h,List.map_append,List.map_cons,List.map_nil]
theorem aC0 (h:i≤rows.length):(lsT rows i).length=i:=by
  simp only[lsT,List.length_map,List.length_take];omega
theorem aU2 (h:i<(bD 32 r).length)(h2:(unW (bD 32 r)[i]).isSome=false):unL r=none:=
  kY (List.getElem_mem h) (by simpa using h2)
theorem bA1 (h:yG r (bD 32 r).length):unL r=some (wsT r (bD 32 r).length):=by
  unfold yG at h;rw[List.take_length]at h;unfold unL;rw[nI [] h];simp only[wsT,List.take_length]
theorem bA2 (h: ∀r∈rows.take rows.length,(unL r).isSome=true):rows.mapM unL=some (lsT rows rows.length):=by
  rw[List.take_length]at h;rw[nI [] h];simp only[lsT,List.take_length]
theorem aU3 {n:Nat}(h: ∀r∈rows,r.length<n): ∀l∈lsT rows rows.length,l.length<n+1:=by
  intro l hl;simp only[lsT,List.take_length,List.mem_map]at hl;obtain⟨r,hr,rfl⟩:=hl;have h1:=h r hr;cases hu:unL r with
  |none=>simp
  |some ws=>
    have:=(lA hu).2;have h2:=dK 32 r;simp only[Option.getD_some];omega
end Go.Pl
namespace Go.Proofs.YtflnfidkociekaaGreatDoor
open Go Go.Hl Go.Pl
set_option maxRecDepth 10000
set_option maxHeartbeats 2000000
theorem bA3 (b:aU)(hl:b.length<2^40):eD Tryz.prog 24 [.slc (b.map u8)] (fun u v=>u= .slc ((fS b).map lsC)∧v= .int .i64 (dM b)):=by
 refine bI Tryz.func24 rfl (by kernel_rfl) (bJ _) (Nat.le_of_ble_eq_true rfl) ?_;refine aD fun K hK=>aC (by kernel_rfl) ?_;simp (maxSteps:=4000000) only[↓sP,sA,tyS,simprocAttr];repeat refine AI ?_
 refine hK _ _ _ ?_;clear hK K;refine aD fun K hK=>?_;refine aD fun K hK=>aC (by kernel_rfl) ?_;simp (maxSteps:=4000000) only[↓sP,sA,tyS,simprocAttr,List.length_map];repeat refine AI ?_
 refine hK _ _ _ ?_;clear hK K;refine aQ (b:=decide ((262144:Int)<b.length)) rfl (fun hb=>?_) (fun hb=>?_)
 ·
  refine aD fun K hK=>aC (by kernel_rfl) ?_;simp (maxSteps:=4000000) only[↓sP,sA,tyS,simprocAttr];repeat refine AI ?_
  refine hK _ _ _ ?_;clear hK K;refine aT ?_;simp (maxSteps:=4000000) only[bA,Tryz.results24,aY,aZ,aX,↓sP,sA,tyS,simprocAttr];have hE:dM b=3:=by unfold dM;rw[if_pos (by simp at hb;omega)]
  refine aW [] (.slc []) (.int .i64 3) ?_ ⟨by simp only[fS,hE];rfl,by rw[hE]⟩;simp[HV.close,HV.closeL,CV.denil,CV.denilL,HV.norm,HV.toC,HV.toCL]
 refine aV ?_;simp (maxSteps:=4000000) only[↓sP,sA,tyS,simprocAttr];repeat refine AI ?_
 refine hK _ _ _ ?_;clear hK K;refine aD fun K hK=>?_;have hle: ¬262144<b.length:=by simp at hb;omega
 clear hb;refine aD fun K hK=>aC (by kernel_rfl) ?_;simp (maxSteps:=4000000) only[↓sP,sA,tyS,simprocAttr,List.length_map];repeat refine AI ?_
 refine hK _ _ _ ?_;clear hK K;refine aQ (b:=(b.length:Int)==0) rfl (fun hb=>?_) (fun hb=>?_)
 ·
  refine aD fun K hK=>aC (by kernel_rfl) ?_;simp (maxSteps:=4000000) only[↓sP,sA,tyS,simprocAttr];repeat refine AI ?_
  refine hK _ _ _ ?_;clear hK K;refine aT ?_;simp (maxSteps:=4000000) only[bA,Tryz.results24,aY,aZ,aX,↓sP,sA,tyS,simprocAttr];have hbe:b=[]:=by simpa using hb
  subst hbe;refine aW [] (.slc []) (.int .i64 0) ?_ ⟨rfl,rfl⟩;simp[HV.close,HV.closeL,CV.denil,CV.denilL,HV.norm,HV.toC,HV.toCL]
 refine aV ?_;simp (maxSteps:=4000000) only[↓sP,sA,tyS,simprocAttr];repeat refine AI ?_
 refine hK _ _ _ ?_;clear hK K;refine aD fun K hK=>?_;have hne:b≠[]:=by rintro rfl;simp at hb
 clear hb;have hpos:0<b.length:=List.length_pos_iff.2 hne;have hlt1:b.length-1<b.length:=by omega
 have hwl:IntKind.i64.wrap ((b.length:Int)-1)=((b.length-1:Nat):Int):=by rw[IntWalk.i64_in _ (by omega)];omega
 refine aD fun K hK=>aC (by kernel_rfl) ?_;simp only[sR,simprocAttr];iterate 7
  (refine aB (g:=none) rfl rfl fun K' hK'=>?_;simp only[sH,↓sP,sA,tyS,simprocAttr,List.length_map,hwl,Int.natCast_nonneg,Int.ofNat_lt,hlt1,bN hlt1,u8];(repeat refine AI ?_);refine hK' _ _ ?_;clear hK' K')
 simp only[sE,↓reduceIte,simprocAttr];repeat refine AI ?_
 refine hK _ _ _ ?_;clear hK K;refine aQ (b:=((b[b.length-1]).toNat:Int) !=10) rfl (fun hb=>?_) (fun hb=>?_)
 ·
  refine aD fun K hK=>aC (by kernel_rfl) ?_;simp (maxSteps:=4000000) only[↓sP,sA,tyS,simprocAttr];repeat refine AI ?_
  refine hK _ _ _ ?_;clear hK K;refine aT ?_;simp (maxSteps:=4000000) only[bA,Tryz.results24,aY,aZ,aX,↓sP,sA,tyS,simprocAttr];have hE:dM b=2:=aM2 hle hne (by
   intro h;rw[List.getD_eq_getElem?_getD,List.getElem?_eq_getElem hlt1]at h;simp only[Option.getD_some]at h;rw[h]at hb;simp at hb)
  refine aW [] (.slc []) (.int .i64 2) ?_ ⟨by simp only[fS,hE];rfl,by rw[hE]⟩;simp[HV.close,HV.closeL,CV.denil,CV.denilL,HV.norm,HV.toC,HV.toCL]
 refine aV ?_;simp (maxSteps:=4000000) only[↓sP,sA,tyS,simprocAttr];repeat refine AI ?_
 refine hK _ _ _ ?_;clear hK K;have hl10:b[b.length-1]=10:=by
  simp only[bne_eq_false_iff_eq]at hb;exact UInt8.toNat_inj.1 (by show b[b.length-1].toNat=10;omega)
 clear hb;obtain⟨m,hm⟩: ∃m,b=m++[10]:=⟨b.dropLast,by rw[←hl10,←List.getLast_eq_getElem hne];exact(List.dropLast_concat_getLast hne).symm⟩;have htk:List.take (b.length-1) (b.map u8)=m.map u8:=by rw[hm];simp
 have hbc:fA (m.map u8)=some m:=bytesC_map m;have hml:m.length+1=b.length:=by rw[hm];simp
 have hml3:(m++[(10:UInt8)]).length=m.length+1:=by simp
 rw[hm]at hle;refine aD fun K hK=>aC (by kernel_rfl) ?_;simp only[sR,simprocAttr];iterate 6
  (refine aB (g:=none) rfl rfl fun K' hK'=>?_;simp only[sH,↓sP,sA,tyS,simprocAttr,List.length_map,hwl,Int.natCast_nonneg,Int.ofNat_le,Nat.sub_le,eC,List.drop_zero,Nat.sub_zero,htk,hbc];(repeat refine AI ?_);refine hK' _ _ ?_;clear hK' K')
 refine aB (g:=none) rfl rfl fun K' hK'=>?_;simp (maxSteps:=4000000) only[sH,↓sP,sA,tyS,simprocAttr,List.length_map,hwl,Int.natCast_nonneg,Int.ofNat_le,Nat.sub_le,eC,List.drop_zero,Nat.sub_zero,htk,hbc];refine bH (args:=[_,_]) (yO m 10 (by omega)) ⟨rfl,rfl,rfl,rfl⟩ ?_;rintro u rfl;repeat refine AI ?_
 refine hK' _ _ ?_;clear hK' K';refine aB (g:=none) rfl rfl fun K' hK'=>?_;simp (maxSteps:=4000000) only[sH,↓sP,sA,tyS,simprocAttr,List.length_map,hwl,Int.natCast_nonneg,Int.ofNat_le,Nat.sub_le,eC,List.drop_zero,Nat.sub_zero,htk,hbc];repeat refine AI ?_
 refine hK' _ _ ?_;clear hK' K';simp only[sE,↓reduceIte,simprocAttr];repeat refine AI ?_
 refine hK _ _ _ ?_;clear hK K;obtain⟨rows,hrows⟩: ∃rows,rows=bD 10 m:=⟨_,rfl⟩;have hrl:=dK 10 m;have hrs:=jD 10 m;rw[←hrows]at hrl hrs⊢;have hE2:rows.mapM unL=none→dM b=2:=fun h=>by rw[hm];exact aM3 hle (by rw[←hrows];exact h)
 refine aD fun K hK=>aC (by kernel_rfl) ?_;simp (maxSteps:=4000000) only[↓sP,sA,tyS,simprocAttr];repeat refine AI ?_
 refine hK _ _ _ ?_;clear hK K;refine aD fun K hK=>?_;refine aD fun K hK=>aC (by kernel_rfl) ?_;simp (maxSteps:=4000000) only[↓sP,sA,tyS,simprocAttr];repeat refine AI ?_
 refine hK _ _ _ ?_;clear hK K;refine bE ?_;refine iD 5 0 48 1 rfl rfl rfl rfl ?_;refine cA (α:={i:Nat//i≤rows.length∧ ∀r∈rows.take i,(unL r).isSome=true}) (fun i=>(fin [(4,.c (.slc (rows.map .str))),(5,.own 100 i.1),(6,.c (.int .i64 i.1))],fob [(100,.row 48 1 ((lsT rows i.1).map lsC))])) 200 (fun i=>rows.length-i.1) ⟨0,by omega,by simp⟩ (by simp only[lsT,List.take_zero,List.map_nil];exact aS (by omega) (by simp[bK,fin_at,finA_at,upd_at,HV.men,HV.menL,HV.norm,HV.toC,HV.toCL]) (by simp[bM,fob_at,upd_at,none0_at,bY,HO.men,HV.men,HV.menL,HV.norm,HV.toC,HV.toCL])) ?_;rintro⟨i,hi,hok⟩;simp only;have hlsl:=aC0 hi;refine aD fun K hK=>?_;refine aD fun K hK=>aC (by kernel_rfl) ?_;simp only[sR,simprocAttr];iterate 4
  (refine aB (g:=none) rfl rfl fun K' hK'=>?_;simp only[sH,↓sP,sA,tyS,simprocAttr,List.length_map];(repeat refine AI ?_);refine hK' _ _ ?_;clear hK' K')
 simp only[sE,↓reduceIte,simprocAttr];repeat refine AI ?_
 refine hK _ _ _ ?_;clear hK K;refine aQ (b:=decide ((i:Int)<rows.length)) rfl (fun hb=>?_) (fun hb=>?_)
 ·
  have hlt:i<rows.length:=by simpa using hb
  clear hb;obtain⟨r,hr⟩: ∃r,r=rows[i]:=⟨_,rfl⟩;have hrin:r∈rows:=by rw[hr];exact List.getElem_mem hlt
  have hrn:=hrs r hrin;have hnr:nth (rows.map CV.str) i= .str r:=by rw[bN hlt,hr]
  refine aV ?_;simp (maxSteps:=4000000) only[↓sP,sA,tyS,simprocAttr];repeat refine AI ?_
  refine hK _ _ _ ?_;clear hK K;refine aD fun K hK=>?_;refine bE ?_;refine aD fun K hK=>aC (by kernel_rfl) ?_;simp only[sR,simprocAttr];iterate 4
   (refine aB (g:=none) rfl rfl fun K' hK'=>?_;simp only[sH,↓sP,sA,tyS,simprocAttr,Int.natCast_nonneg,Int.ofNat_lt,hlt,hnr,List.length_map];(repeat refine AI ?_);refine hK' _ _ ?_;clear hK' K')
  refine aB (g:=none) rfl rfl fun K' hK'=>?_;simp (maxSteps:=4000000) only[sH,↓sP,sA,tyS,simprocAttr,Int.natCast_nonneg,Int.ofNat_lt,hlt,hnr,List.length_map];refine bH (args:=[_,_]) (yO r 32 (by omega)) ⟨rfl,rfl,rfl,rfl⟩ ?_;rintro u rfl;repeat refine AI ?_
  refine hK' _ _ ?_;clear hK' K';refine aB (g:=none) rfl rfl fun K' hK'=>?_;simp (maxSteps:=4000000) only[sH,↓sP,sA,tyS,simprocAttr,Int.natCast_nonneg,Int.ofNat_lt,hlt,hnr,List.length_map];repeat refine AI ?_
  refine hK' _ _ ?_;clear hK' K';simp only[sE,↓reduceIte,simprocAttr];repeat refine AI ?_
  refine hK _ _ _ ?_;clear hK K;refine aD fun K hK=>aC (by kernel_rfl) ?_;simp (maxSteps:=4000000) only[↓sP,sA,tyS,simprocAttr];repeat refine AI ?_
  refine hK _ _ _ ?_;clear hK K;refine aD fun K hK=>?_;refine aD fun K hK=>aC (by kernel_rfl) ?_;simp (maxSteps:=4000000) only[↓sP,sA,tyS,simprocAttr];repeat refine AI ?_
  refine hK _ _ _ ?_;clear hK K;refine bE ?_;refine iD 8 0 9 1 rfl rfl rfl rfl ?_;refine cA (α:={k:Nat//k≤(bD 32 r).length∧yG r k}) (fun k=>(fin [(4,.c (.slc (rows.map .str))),(5,.own 100 i),(6,.c (.int .i64 i)),(7,.c (.slc ((bD 32 r).map .str))),(8,.own 248 k.1),(9,.c (.int .i64 k.1))],fob [(100,.row 48 1 ((lsT rows i).map lsC)),(248,.row 9 1 ((wsT r k.1).map .str))])) 300 (fun k=>(bD 32 r).length-k.1) ⟨0,by omega,fun p hp=>by simp at hp⟩ (by simp only[wsT,List.take_zero,List.map_nil];exact aS (by omega) (by simp[bK,fin_at,finA_at,upd_at,HV.men,HV.menL,HV.norm,HV.toC,HV.toCL]) (by simp[bM,fob_at,upd_at,none0_at,bY,HO.men,HV.men,HV.menL,HV.norm,HV.toC,HV.toCL])) ?_;rintro⟨k,hk,hwo⟩;simp only;have hwl2:=lY hk;have hsl:=dK 32 r;refine aD fun K hK=>?_;refine aD fun K hK=>aC (by kernel_rfl) ?_;simp only[sR,simprocAttr];iterate 4
   (refine aB (g:=none) rfl rfl fun K' hK'=>?_;simp only[sH,↓sP,sA,tyS,simprocAttr,List.length_map];(repeat refine AI ?_);refine hK' _ _ ?_;clear hK' K')
  simp only[sE,↓reduceIte,simprocAttr];repeat refine AI ?_
  refine hK _ _ _ ?_;clear hK K;refine aQ (b:=decide ((k:Int)<(bD 32 r).length)) rfl (fun hb=>?_) (fun hb=>?_)
  ·
   have hkl:k<(bD 32 r).length:=by simpa using hb
   clear hb;obtain⟨p,hp⟩: ∃p,p=(bD 32 r)[k]:=⟨_,rfl⟩;have hpl:=jD 32 r p (by rw[hp];exact List.getElem_mem hkl);have hnp:nth ((bD 32 r).map CV.str) k= .str p:=by rw[bN hkl,hp]
   refine aV ?_;simp (maxSteps:=4000000) only[↓sP,sA,tyS,simprocAttr];repeat refine AI ?_
   refine hK _ _ _ ?_;clear hK K;refine aD fun K hK=>?_;refine bE ?_;refine aD fun K hK=>aC (by kernel_rfl) ?_;simp only[sR,simprocAttr];iterate 4
    (refine aB (g:=none) rfl rfl fun K' hK'=>?_;simp only[sH,↓sP,sA,tyS,simprocAttr,Int.natCast_nonneg,Int.ofNat_lt,hkl,hnp,List.length_map];(repeat refine AI ?_);refine hK' _ _ ?_;clear hK' K')
   refine aB (g:=none) rfl rfl fun K' hK'=>?_;simp (maxSteps:=4000000) only[sH,↓sP,sA,tyS,simprocAttr,Int.natCast_nonneg,Int.ofNat_lt,hkl,hnp,List.length_map];refine cD (args:=[_]) (aZ8 p (by omega)) ⟨rfl,rfl,rfl,rfl⟩ ?_;rintro u v ⟨rfl,rfl⟩;repeat refine AI ?_
   refine hK' _ _ ?_;clear hK' K';iterate 5
    (refine aB (g:=none) rfl rfl fun K' hK'=>?_;simp only[sH,↓sP,sA,tyS,simprocAttr,Int.natCast_nonneg,Int.ofNat_lt,hkl,hnp,List.length_map];(repeat refine AI ?_);refine hK' _ _ ?_;clear hK' K')
   simp only[sE,↓reduceIte,simprocAttr];repeat refine AI ?_
   refine hK _ _ _ ?_;clear hK K;refine aD fun K hK=>?_;refine aD fun K hK=>aC (by kernel_rfl) ?_;simp (maxSteps:=4000000) only[↓sP,sA,tyS,simprocAttr];repeat refine AI ?_
   refine hK _ _ _ ?_;clear hK K;refine aQ (b:=!(unW p).isSome) rfl (fun hb=>?_) (fun hb=>?_)
   ·
    refine aD fun K hK=>aC (by kernel_rfl) ?_;simp (maxSteps:=4000000) only[↓sP,sA,tyS,simprocAttr];repeat refine AI ?_
    refine hK _ _ _ ?_;clear hK K;refine aT ?_;simp (maxSteps:=4000000) only[bA,Tryz.results24,aY,aZ,aX,↓sP,sA,tyS,simprocAttr];have hE:=hE2 (kY hrin (aU2 hkl (by rw[←hp];simpa using hb)));refine aW [] (.slc []) (.int .i64 2) ?_ ⟨by simp only[fS,hE];rfl,by rw[hE]⟩;simp[HV.close,HV.closeL,CV.denil,CV.denilL,HV.norm,HV.toC,HV.toCL]
   refine aV ?_;simp (maxSteps:=4000000) only[↓sP,sA,tyS,simprocAttr];repeat refine AI ?_
   refine hK _ _ _ ?_;clear hK K;refine aC (by kernel_rfl) ?_;simp only[sR,simprocAttr];iterate 5
    (refine aB (g:=none) rfl rfl fun K' hK'=>?_;simp only[sH,↓sP,sA,tyS,simprocAttr,List.length_append,List.length_map,hwl2];(repeat refine AI ?_);refine hK' _ _ ?_;clear hK' K')
   simp only[sE,↓reduceIte,simprocAttr];repeat refine AI ?_
   refine hK _ _ _ ?_;clear hK K;refine aC (by kernel_rfl) ?_;simp (maxSteps:=4000000) only[↓sP,sA,tyS,simprocAttr,IntWalk.i64_in _ (show-9223372036854775808≤(k:Int)+1∧(k:Int)+1≤9223372036854775807 by omega)];refine⟨⟨k+1,hkl,uH hkl hwo (by rw[←hp];simpa using hb)⟩,aS (by omega) ?_ ?_,?_⟩
   · simp[bK,upd_at,fin_at,HV.men]
   · simp only[yH hkl,←hp,bM,List.map_append];exact⟨rfl,by omega,trivial,rfl,by omega,trivial,trivial⟩
   show(bD 32 r).length-(k+1)<(bD 32 r).length-k;omega
  refine bW ?_;simp (maxSteps:=4000000) only[↓sP,sA,tyS,simprocAttr];clear hK K;repeat refine AI ?_
  refine hK _ _ _ ?_;clear hK K;have hke:k=(bD 32 r).length:=by simp at hb;omega
  subst hke;have hul:=bA1 hwo;obtain⟨ws,hws⟩: ∃ws,ws=wsT r (bD 32 r).length:=⟨_,rfl⟩;rw[←hws]at hul hwl2⊢;rw[←hwl2];refine eK [248] (cN (fr2:=fin [(4,.c (.slc (rows.map .str))),(5,.own 100 i),(6,.c (.int .i64 i)),(8,.c (.slc (ws.map .str)))]) (ob2:=fob [(100,.row 48 1 ((lsT rows i).map lsC))]) (nx2:=400) (aS (by omega) (by simp[bK,iB,fin_at,finA_at,upd_at,fob_at,HV.close,HV.closeL,CV.denil,CV.denilL,denilL_str,HV.men,HV.menL,HV.norm,HV.toC,HV.toCL]) (by simp[bM,iC,fob_at,upd_at,none0_at,bY,HO.close,HV.close,HV.closeL,HO.men,HV.men,HV.menL,HV.norm,HV.toC,HV.toCL])) ?_);refine aC (by kernel_rfl) ?_;simp only[sR,simprocAttr];iterate 5
   (refine aB (g:=none) rfl rfl fun K' hK'=>?_;simp only[sH,↓sP,sA,tyS,simprocAttr,List.length_append,List.length_map,hlsl];(repeat refine AI ?_);refine hK' _ _ ?_;clear hK' K')
  simp only[sE,↓reduceIte,simprocAttr];repeat refine AI ?_
  refine hK _ _ _ ?_;clear hK K;refine aC (by kernel_rfl) ?_;simp (maxSteps:=4000000) only[↓sP,sA,tyS,simprocAttr,IntWalk.i64_in _ (show-9223372036854775808≤(i:Int)+1∧(i:Int)+1≤9223372036854775807 by omega)];have hok1: ∀x∈rows.take (i+1),(unL x).isSome=true:=by
   intro x hx;rw[List.take_succ_eq_append_getElem hlt,List.mem_append,List.mem_singleton]at hx;rcases hx with hx|rfl
   · exact hok x hx
   rw[←hr,hul];rfl
  refine⟨⟨i+1,hlt,hok1⟩,aS (by omega) ?_ ?_,?_⟩
  · simp[bK,upd_at,fin_at,HV.men]
  · simp only[aU1 hlt,←hr,hul,bM,List.map_append,Option.getD_some];exact⟨rfl,by omega,trivial,trivial⟩
  show rows.length-(i+1)<rows.length-i;omega
 refine bW ?_;simp (maxSteps:=4000000) only[↓sP,sA,tyS,simprocAttr];clear hK K;repeat refine AI ?_
 refine hK _ _ _ ?_;clear hK K;refine aD fun K hK=>?_;have hie:i=rows.length:=by simp at hb;omega
 subst hie;have hml2:=bA2 hok;have hlens:=aU3 (rows:=rows) (n:=2^39) (fun r hr=>by have:=hrs r hr;omega);obtain⟨ls,hls⟩: ∃ls,ls=lsT rows rows.length:=⟨_,rfl⟩;rw[←hls]at hml2 hlsl hlens⊢;rw[hrows]at hml2;obtain⟨hE0,hEn⟩:=aU0 hle hml2;rw[←hm]at hE0 hEn;rw[←hlsl];refine eK [100] (cN (fr2:=fin [(5,.c (.slc (ls.map lsC)))]) (ob2:=fob []) (nx2:=300) (aS (by omega) (by simp[bK,iB,fin_at,finA_at,upd_at,fob_at,HV.close,HV.closeL,CV.denil,CV.denilL,fL,HV.men,HV.menL,HV.norm,HV.toC,HV.toCL]) (by simp[bM,iC,fob_at,upd_at,none0_at,bY,HO.close,HV.close,HV.closeL,HO.men,HV.men,HV.menL,HV.norm,HV.toC,HV.toCL])) ?_);refine aD fun K hK=>aC (by kernel_rfl) ?_;simp only[sR,simprocAttr];refine aB (g:=none) rfl rfl fun K' hK'=>?_;simp (maxSteps:=4000000) only[sH,↓sP,sA,tyS,simprocAttr,fL];repeat refine AI ?_
 refine hK' _ _ ?_;clear hK' K';refine aB (g:=none) rfl rfl fun K' hK'=>?_;simp (maxSteps:=4000000) only[sH,↓sP,sA,tyS,simprocAttr,fL];refine cD (args:=[_]) (aF5 ls (by omega) (fun l hl=>by have:=hlens l hl;omega)) ⟨rfl,rfl,rfl,rfl⟩ ?_;rintro u v ⟨rfl,rfl⟩;repeat refine AI ?_
 refine hK' _ _ ?_;clear hK' K';iterate 5
  (refine aB (g:=none) rfl rfl fun K' hK'=>?_;simp only[sH,↓sP,sA,tyS,simprocAttr,fL];(repeat refine AI ?_);refine hK' _ _ ?_;clear hK' K')
 simp only[sE,↓reduceIte,simprocAttr];repeat refine AI ?_
 refine hK _ _ _ ?_;clear hK K;refine aD fun K hK=>aC (by kernel_rfl) ?_;simp (maxSteps:=4000000) only[↓sP,sA,tyS,simprocAttr];repeat refine AI ?_
 refine hK _ _ _ ?_;clear hK K;refine aQ (b:=gB ls !=0) rfl (fun hb=>?_) (fun hb=>?_)
 ·
  refine aD fun K hK=>aC (by kernel_rfl) ?_;simp (maxSteps:=4000000) only[↓sP,sA,tyS,simprocAttr];repeat refine AI ?_
  refine hK _ _ _ ?_;clear hK K;refine aT ?_;simp (maxSteps:=4000000) only[bA,Tryz.results24,aY,aZ,aX,↓sP,sA,tyS,simprocAttr];have hE:=hEn (by simpa using hb);refine aW [] (.slc []) (.int .i64 2) ?_ ⟨by simp only[fS,hE];rfl,by rw[hE]⟩;simp[HV.close,HV.closeL,CV.denil,CV.denilL,HV.norm,HV.toC,HV.toCL]
 refine aV ?_;simp (maxSteps:=4000000) only[↓sP,sA,tyS,simprocAttr];repeat refine AI ?_
 refine hK _ _ _ ?_;clear hK K;refine aD fun K hK=>aC (by kernel_rfl) ?_;simp (maxSteps:=4000000) only[↓sP,sA,tyS,simprocAttr];repeat refine AI ?_
 refine hK _ _ _ ?_;clear hK K;refine aT ?_;simp (maxSteps:=4000000) only[bA,Tryz.results24,aY,aZ,aX,↓sP,sA,tyS,simprocAttr];obtain⟨hE,hO⟩:=hE0 (by simpa using hb);refine aW [] (.slc (ls.map lsC)) (.int .i64 0) ?_ ⟨by rw[hO],by rw[hE]⟩;simp[HV.close,HV.closeL,CV.denil,CV.denilL,HV.norm,HV.toC,HV.toCL,fL]
end Go.Proofs.YtflnfidkociekaaGreatDoor
namespace Go.Pl
open Go Go.Hl
def valL (c:UInt8):Nat:=if 48≤c.toNat∧c.toNat≤57 then c.toNat-48 else if 97≤c.toNat∧c.toNat≤102 then c.toNat-87 else 16
theorem aG1 (c:UInt8):valL c≤16:=by unfold valL;split<;>(try split)<;>omega
def aG2 :List UInt8:=[48,49,50,51,52,53,54,55,56,57,97,98,99,100,101,102]
set_option maxRecDepth 20000 in
theorem kN (c:UInt8):dO aG2 c=if valL c<16 then(valL c:Int)else-1:=by
  have h: ∀n:Fin 256,dO aG2 (UInt8.ofNat n.1)=if valL (UInt8.ofNat n.1)<16 then(valL (UInt8.ofNat n.1):Int)else-1:=by decide
  have:=h ⟨c.toNat,c.toNat_lt⟩;simpa only[UInt8.ofNat_toNat]using this
def hX (s:aU)(i:Nat):UInt8:=s.getD (2*i) 0
def hY (s:aU)(i:Nat):UInt8:=s.getD (2*i+1) 0
def hB (s:aU)(i:Nat):UInt8:=UInt8.ofNat (16*valL (hX s i)+valL (hY s i))
def hOk (s:aU)(i:Nat):Bool:=decide (valL (hX s i)<16)&&decide (valL (hY s i)<16)
variable {i:Nat}{s:aU}
theorem aU4 (hx:valL (hX s i)<16)(hy:valL (hY s i)<16):(hB s i).toNat=16*valL (hX s i)+valL (hY s i):=by
  unfold hB;rw[UInt8.toNat_ofNat'];omega
def cG (s:aU)(n:Nat):Option (List UInt8):=if s.length=2*n∧(List.range n).all (hOk s)=true then some ((List.range n).map (hB s))else none
def UhSt (s:aU)(n i:Nat)(l:List UInt8):Prop:=l.length=n∧i≤n∧l.take i=(List.range i).map (hB s)∧ ∀j,j<i→hOk s j=true
variable {l:List UInt8}{n:Nat}
theorem UhSt.init (s:aU)(h:l.length=n):UhSt s n 0 l:=⟨h,Nat.zero_le _,by simp,fun j hj=>by omega⟩
theorem UhSt.next (h:UhSt s n i l)(hi:i<n)(hk:hOk s i=true):UhSt s n (i+1) (l.set i (hB s i)):=by
  obtain⟨h1,h2,h3,h4⟩:=h;refine⟨by simpa using h1,hi,?_,fun j hj=>?_⟩
  · rw[List.take_succ_eq_append_getElem (by rw[List.length_set];omega),List.getElem_set_self,List.take_set_of_le (Nat.le_refl _),h3,List.range_succ,List.map_append]
    rfl
  · rcases Nat.lt_or_ge j i with h'|h'
    · exact h4 j h'
    · have:j=i:=by omega
      rw[this];exact hk
theorem UhSt.fin (h:UhSt s n n l)(hs:s.length=2*n):cG s n=some l:=by
  obtain⟨h1,h2,h3,h4⟩:=h;unfold cG;rw[if_pos ⟨hs,by rw[List.all_eq_true];intro j hj;exact h4 j (List.mem_range.1 hj)⟩,←h3,List.take_of_length_le (by omega)]
theorem UhSt.bad (_:UhSt s n i l)(hi:i<n)(hk:hOk s i=false):cG s n=none:=by
  unfold cG;rw[if_neg];rintro⟨_,h⟩;have:=List.all_eq_true.1 h i (List.mem_range.2 hi);rw[hk]at this;cases this
theorem lZ (h:s.length≠2*n):cG s n=none:=by unfold cG;rw[if_neg fun h'=>h h'.1]
theorem fN (h:cG s n=some l):l.length=n:=by
  unfold cG at h;split at h
  · cases h;simp
  · cases h
theorem aU5 (l:List UInt8):(l.map u8).all (fun v=>v.cells==1)=true:=by simp[List.all_eq_true,u8,CV.cells]
theorem oR (l:List UInt8):CV.cellsL (l.map u8)=l.length:=gL (fun _=>rfl) l
theorem aM4 (y:UInt8)(h:i<l.length):CV.setAtL i 1 (.c (.int .u8 (y.toNat:Int))) (l.map u8)=some (((l.set i y).map u8).map .c):=lP (f:=u8) (fun _=>rfl) (fun _ _=>rfl) y l i h
def prefB (s p:aU):Bool:=decide (p.length≤s.length)&&(s.take p.length==p)
def bH4 (s:aU):Option rM:=match h:cG s 16 with|some l=>some ⟨l,fN h⟩|none=>none
def shaW :aU:=[115,104,97,50,53,54,58]
def dT (s:aU):Option Dig:=if prefB s shaW then match h:cG (s.drop 7) 32 with|some l=>some ⟨l,fN h⟩|none=>none else none
theorem oS (hp:prefB s shaW=true)(h:cG (s.drop 7) 32=some l)(hl:l.length=32):dT s=some ⟨l,hl⟩:=by
  unfold dT;rw[if_pos hp];split
  · rename_i l' h'
    rw[h]at h';cases h';rfl
  · rename_i h'
    rw[h]at h';cases h'
theorem iQ (h:prefB s shaW=true→cG (s.drop 7) 32=none):dT s=none:=by
  unfold dT;split
  · rename_i hp
    split
    · rename_i l' h'
      rw[h hp]at h';cases h'
    · rfl
  · rfl
theorem hbuild_zd {e:Operand→HV}{K:HV→Prop}{b:Nat}{d:TyD}:dY {size:=n,bytes:=b,d:=d,z:=zd} [] e K=K (.c zd):=by
  simp only[dY,zd,dg,hfill,hlift_some];rw[aX6]
end Go.Pl
namespace Go.Hl
open Go Go.Pl
section
variable {P:Program}{n k:Nat}{Q:eJ}{fr:Fr}{ob:Ob}{nx:Nat}
end
def bB9 (P:Program)(f:FuncId)(args:List CV)(n:Nat)(T:TypeId)(l:List UInt8)(R:CV→List UInt8→Prop):Prop:=
  HFn P f (args.map .c++[.osl 0 n 0 1 n]) 1 (fob [(0,.box T (.c (.agg (l.map u8))))]) (fun r ob'=> ∃u l',r= .c u∧ob'=fob [(0,.box T (.c (.agg (l'.map u8))))]∧R u l')
theorem sD (args:List CV)(n:Nat)(T:TypeId)(v:CV):LocOk 1 (args.map .c++[.osl 0 n 0 1 n]) (fob [(0,.box T (.c v))]):=by
  refine⟨fun j h=>?_,fun id o h=>?_,HV.menL_append.2 ⟨HV.menL_c,by simp[HV.menL,HV.men]⟩⟩
  · have:j=0:=by omega
    subst this;exact⟨_,rfl⟩
  · simp only[fob_at,fob_nil]at h
    split at h
    · rename_i e;subst e;cases h;exact⟨by omega,by simp[HO.men,HV.men]⟩
    · cases h
variable {R:CV→List UInt8→Prop}{T:TypeId}{ob:Ob}
theorem aM5 {P:Program}{av:List Nat}{f:FuncId}{nid id:Nat}{K:HV→Ob→Prop}{args:List CV}{n:Nat}{l:List UInt8}(h:bB9 P f args n T l R)(hid:ob id=some (.box T (.c (.agg (l.map u8)))))(hav:id∉av)(hfree:Free4 ob nid)
    (hK: ∀u l',R u l'→K (.c u) (upd ob id (some (.box T (.c (.agg (l'.map u8))))))):HCall P av f (args.map .c++[.osl id n 0 1 n]) ob nid K:=by
  have h0:sub [id] nid 0=id:=rfl;have hra: ∀(m:Nat→Nat) (a:List CV) (b:List HV),HV.renL m (a.map .c++b)=a.map .c++HV.renL m b:=by
    intro m a b;induction a with
    |nil=>rfl
    |cons x a ih=>simp only[List.map_cons,List.cons_append,HV.renL,HV.ren,ih]
  refine⟨[id],_,_,_,h,sD args n T _,⟨by simp,by simpa using hav⟩,by rw[hra];simp only[HV.renL,HV.ren,h0],fun j o hj=>?_,fun r lob' hR _=>?_⟩
  · simp only[fob_at,fob_nil]at hj
    split at hj
    · rename_i e;subst e;cases hj;simpa[HO.ren,HV.ren]using hid
    · cases hj
  · obtain⟨u,l',rfl,rfl,hR⟩:=hR
    have e2:bU ob [id] nid (fob [(0,.box T (.c (.agg (l'.map u8))))])=upd ob id (some (.box T (.c (.agg (l'.map u8))))):=by
      funext i;by_cases e:i=id
      · subst e
        rw[bC];simp only[bU,List.findIdx?_cons,beq_self_eq_true,if_true,fob_at,Option.map_some,HO.ren,HV.ren]
      · have e':(id==i)=false:=by simp;exact fun h=>e h.symm
        rw[bL _ _ e];simp only[bU,List.findIdx?_cons,e',List.findIdx?_nil,Option.map_none];simp only[Bool.false_eq_true,if_false];split
        · rename_i hr
          have h2:[id].length+(i-nid)≠0:=by simp
          rw[fob_at,if_neg h2,fob_nil];exact(hfree.all i hr.1 hr.2).symm
        · rfl
    rw[e2];exact hK u l' hR
theorem lB {l':List UInt8}{r:HV}(u:CV)(hr:(r.close ob []).norm= .c u)(ho:ob 0=some (.box T (.c (.agg (l'.map u8)))))(hR:R u l'):
    mN 1 r ob (fun r ob'=> ∃u l',r= .c u∧ob'=fob [(0,.box T (.c (.agg (l'.map u8))))]∧R u l'):=by
  refine⟨[],id,.c u,_,⟨u,l',rfl,rfl,hR⟩,hr,fun _ _=>rfl,fun _ _ _ _ h=>h,by simp[HV.men],fun j o h=>?_⟩;simp only[fob_at,fob_nil]at h;split at h
  · rename_i e
    subst e;cases h;refine⟨by omega,by simp[HO.men,HV.men],by simp,_,ho,?_⟩;have hd:(CV.agg (l'.map u8)).denil= .agg (l'.map u8):=aR8 l';simp only[HO.ren,HV.ren,HV.close,hd,HV.norm,HV.toC]
  · cases h
end Go.Hl
