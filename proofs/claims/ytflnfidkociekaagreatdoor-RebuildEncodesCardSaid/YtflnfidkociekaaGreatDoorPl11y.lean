/- A root document out of a document: the sections (11.2), in plain Lean. By an AI agent. -/
import Derived.Test.YtflnfidkociekaaGreatDoorHeV3
import Derived.Test.YtflnfidkociekaaGreatDoorHlTab
import Derived.Test.YtflnfidkociekaaGreatDoorHlFl
import Derived.Test.YtflnfidkociekaaGreatDoorHeU1
import Derived.Test.YtflnfidkociekaaGreatDoorHeFm
import Derived.Sort.Grow
import Derived.Sort.EncStr
import Derived.Test.YtflnfidkociekaaGreatDoorHeV5
set_option linter.unusedSimpArgs false
set_option linter.unusedVariables false
set_option linter.defProp false
namespace Go.Proofs.YtflnfidkociekaaGreatDoor
open Go Go.Hl Go.Pl
set_option maxRecDepth 10000
set_option maxHeartbeats 2000000
theorem bA4 (s p:aU):cL Tryz.prog 80 [.str s,.str p] (fun v=>v= .bool (prefB s p)):=by
 refine bI Tryz.func80 rfl (by kernel_rfl) (bJ _) (Nat.le_of_ble_eq_true rfl) ?_;refine aD fun K hK=>aC (by kernel_rfl) ?_;simp (maxSteps:=4000000) only[↓sP,sA,tyS,simprocAttr];repeat refine AI ?_
 refine hK _ _ _ ?_;clear hK K;refine aD fun K hK=>aC (by kernel_rfl) ?_;simp only[sR,simprocAttr];iterate 6
  (refine aB (g:=none) rfl rfl fun K' hK'=>?_;simp only[sH,↓sP,sA,tyS,simprocAttr,Int.natCast_nonneg,Int.ofNat_le,List.drop_zero,Nat.sub_zero];(repeat refine AI ?_);refine hK' _ _ ?_;clear hK' K')
 refine bG 9 rfl (fun h1_9=>?_) (fun h1_9=>?_)
 ·
  iterate 3
   (refine aB (g:=some (10,true)) rfl rfl fun K' hK'=>?_;simp only[sH,↓sP,sA,tyS,simprocAttr,Int.natCast_nonneg,Int.ofNat_le,List.drop_zero,Nat.sub_zero,h1_9];(repeat refine AI ?_);refine hK' _ _ ?_;clear hK' K')
  refine aB (g:=some (10,true)) rfl rfl fun K' hK'=>?_;simp (maxSteps:=4000000) only[sH,↓sP,sA,tyS,simprocAttr,Int.natCast_nonneg,Int.ofNat_le,List.drop_zero,Nat.sub_zero,h1_9];refine⟨by simp at h1_9;omega,?_⟩;repeat refine AI ?_
  refine hK' _ _ ?_;clear hK' K';iterate 2
   (refine aB (g:=some (10,true)) rfl rfl fun K' hK'=>?_;simp only[sH,↓sP,sA,tyS,simprocAttr,Int.natCast_nonneg,Int.ofNat_le,List.drop_zero,Nat.sub_zero,h1_9];(repeat refine AI ?_);refine hK' _ _ ?_;clear hK' K')
  iterate 2
   (refine aB (g:=none) rfl rfl fun K' hK'=>?_;simp only[sH,↓sP,sA,tyS,simprocAttr,Int.natCast_nonneg,Int.ofNat_le,List.drop_zero,Nat.sub_zero,h1_9];(repeat refine AI ?_);refine hK' _ _ ?_;clear hK' K')
  simp only[sE,↓reduceIte,simprocAttr];repeat refine AI ?_
  refine hK _ _ _ ?_;clear hK K;refine aT ?_;simp (maxSteps:=4000000) only[bA,Tryz.results80,aY,aZ,aX,↓sP,sA,tyS,simprocAttr];have hle:p.length≤s.length:=by simp at h1_9;omega
  exact bF [] (.bool (s.take p.length==p)) rfl (by unfold prefB;rw[show decide (p.length≤s.length)=true from by simpa using hle];rfl)
 iterate 6
  (refine aB (g:=some (10,true)) rfl rfl fun K' hK'=>?_;simp only[sH,↓sP,sA,tyS,simprocAttr,Int.natCast_nonneg,Int.ofNat_le,List.drop_zero,Nat.sub_zero,h1_9];(repeat refine AI ?_);refine hK' _ _ ?_;clear hK' K')
 iterate 2
  (refine aB (g:=none) rfl rfl fun K' hK'=>?_;simp only[sH,↓sP,sA,tyS,simprocAttr,Int.natCast_nonneg,Int.ofNat_le,List.drop_zero,Nat.sub_zero,h1_9];(repeat refine AI ?_);refine hK' _ _ ?_;clear hK' K')
 simp only[sE,↓reduceIte,simprocAttr];repeat refine AI ?_
 refine hK _ _ _ ?_;clear hK K;refine aT ?_;simp (maxSteps:=4000000) only[bA,Tryz.results80,aY,aZ,aX,↓sP,sA,tyS,simprocAttr];have hle: ¬p.length≤s.length:=by simp at h1_9;omega
 exact bF [] (.bool false) rfl (by unfold prefB;rw[show decide (p.length≤s.length)=false from by simpa using hle];rfl)
theorem bA5 (s p:aU):eD Tryz.prog 57 [.str s,.str p] (fun u v=>u= .str (if prefB s p then s.drop p.length else s)∧v= .bool (prefB s p)):=by
 refine bI Tryz.func57 rfl (by kernel_rfl) (bJ _) (Nat.le_of_ble_eq_true rfl) ?_;refine aD fun K hK=>aC (by kernel_rfl) ?_;simp (maxSteps:=4000000) only[↓sP,sA,tyS,simprocAttr];repeat refine AI ?_
 refine hK _ _ _ ?_;clear hK K;refine aD fun K hK=>?_;refine aD fun K hK=>aC (by kernel_rfl) ?_;simp only[sR,simprocAttr];iterate 2
  (refine aB (g:=none) rfl rfl fun K' hK'=>?_;simp only[sH,↓sP,sA,tyS,simprocAttr];(repeat refine AI ?_);refine hK' _ _ ?_;clear hK' K')
 refine aB (g:=none) rfl rfl fun K' hK'=>?_;simp (maxSteps:=4000000) only[sH,↓sP,sA,tyS,simprocAttr];refine bH (args:=[_,_]) (bA4 s p) ⟨rfl,rfl,rfl,rfl⟩ ?_;rintro u rfl;repeat refine AI ?_
 refine hK' _ _ ?_;clear hK' K';refine aB (g:=none) rfl rfl fun K' hK'=>?_;simp (maxSteps:=4000000) only[sH,↓sP,sA,tyS,simprocAttr];repeat refine AI ?_
 refine hK' _ _ ?_;clear hK' K';simp only[sE,↓reduceIte,simprocAttr];repeat refine AI ?_
 refine hK _ _ _ ?_;clear hK K;refine aQ (b:=!(prefB s p)) rfl (fun hb=>?_) (fun hb=>?_)
 ·
  refine aD fun K hK=>aC (by kernel_rfl) ?_;simp (maxSteps:=4000000) only[↓sP,sA,tyS,simprocAttr];repeat refine AI ?_
  refine hK _ _ _ ?_;clear hK K;refine aT ?_;simp (maxSteps:=4000000) only[bA,Tryz.results57,aY,aZ,aX,↓sP,sA,tyS,simprocAttr];have hp:prefB s p=false:=by simpa using hb
  exact aW [] (.str s) (.bool false) rfl ⟨by rw[hp];rfl,by rw[hp]⟩
 refine aV ?_;simp (maxSteps:=4000000) only[↓sP,sA,tyS,simprocAttr];repeat refine AI ?_
 refine hK _ _ _ ?_;clear hK K;have hp:prefB s p=true:=by simpa using hb
 have hle:p.length≤s.length:=by
  unfold prefB at hp;simp only[Bool.and_eq_true,decide_eq_true_eq]at hp;exact hp.1
 have htd:List.take (s.length-p.length) (List.drop p.length s)=List.drop p.length s:=List.take_of_length_le (by simp);refine aD fun K hK=>aC (by kernel_rfl) ?_;simp only[sR,simprocAttr];iterate 6
  (refine aB (g:=none) rfl rfl fun K' hK'=>?_;simp only[sH,↓sP,sA,tyS,simprocAttr,Int.natCast_nonneg,Int.ofNat_le,hle,htd];(repeat refine AI ?_);refine hK' _ _ ?_;clear hK' K')
 simp only[sE,↓reduceIte,simprocAttr];repeat refine AI ?_
 refine hK _ _ _ ?_;clear hK K;refine aT ?_;simp (maxSteps:=4000000) only[bA,Tryz.results57,aY,aZ,aX,↓sP,sA,tyS,simprocAttr];exact aW [] (.str (s.drop p.length)) (.bool true) rfl ⟨by rw[hp];rfl,by rw[hp]⟩
theorem aU6 (s p:aU):eD Tryz.prog 39 [.str s,.str p] (fun u v=>u= .str (if prefB s p then s.drop p.length else s)∧v= .bool (prefB s p)):=by
 refine bI Tryz.func39 rfl (by kernel_rfl) (bJ _) (Nat.le_of_ble_eq_true rfl) ?_;refine aD fun K hK=>aC (by kernel_rfl) ?_;simp (maxSteps:=4000000) only[↓sP,sA,tyS,simprocAttr];repeat refine AI ?_
 refine hK _ _ _ ?_;clear hK K;refine aD fun K hK=>aC (by kernel_rfl) ?_;simp only[sR,simprocAttr];iterate 2
  (refine aB (g:=none) rfl rfl fun K' hK'=>?_;simp only[sH,↓sP,sA,tyS,simprocAttr];(repeat refine AI ?_);refine hK' _ _ ?_;clear hK' K')
 refine aB (g:=none) rfl rfl fun K' hK'=>?_;simp (maxSteps:=4000000) only[sH,↓sP,sA,tyS,simprocAttr];refine cD (args:=[_,_]) (bA5 s p) ⟨rfl,rfl,rfl,rfl⟩ ?_;rintro u v ⟨rfl,rfl⟩;repeat refine AI ?_
 refine hK' _ _ ?_;clear hK' K';iterate 4
  (refine aB (g:=none) rfl rfl fun K' hK'=>?_;simp only[sH,↓sP,sA,tyS,simprocAttr];(repeat refine AI ?_);refine hK' _ _ ?_;clear hK' K')
 simp only[sE,↓reduceIte,simprocAttr];repeat refine AI ?_
 refine hK _ _ _ ?_;clear hK K;refine aT ?_;simp (maxSteps:=4000000) only[bA,Tryz.results39,aY,aZ,aX,↓sP,sA,tyS,simprocAttr];exact aW [] _ _ rfl ⟨rfl,rfl⟩
theorem aU7 (s:aU)(n:Nat)(T:TypeId)(l0:List UInt8)(h0:l0.length=n)(hn1:1<n)(hn2:n<1000)(hs:s.length<2^40):
  bB9 Tryz.prog 40 [.str s] n T l0 (fun u l'=>u= .bool (cG s n).isSome∧l'.length=n∧ ∀w,cG s n=some w→l'=w):=by
 refine bI Tryz.func40 rfl (by kernel_rfl) (sD [_] _ _ _) (Nat.le_of_ble_eq_true rfl) ?_;refine aD fun K hK=>aC (by kernel_rfl) ?_;simp (maxSteps:=4000000) only[↓sP,sA,tyS,simprocAttr];repeat refine AI ?_
 refine hK _ _ _ ?_;clear hK K;refine aD fun K hK=>?_;have hw2:IntKind.i64.wrap (2*(n:Int))=((2*n:Nat):Int):=by rw[IntWalk.i64_in _ (by omega)];omega
 have hln:(List.take n (l0.map u8)).length=n:=by simp[h0]
 refine aD fun K hK=>aC (by kernel_rfl) ?_;simp only[sR,simprocAttr];iterate 6
  (refine aB (g:=none) rfl rfl fun K' hK'=>?_;simp only[sH,↓sP,sA,tyS,simprocAttr,h0,aU5,List.length_map,Nat.zero_le,Nat.le_refl,List.drop_zero,Nat.sub_zero,hln,hw2];(repeat refine AI ?_);refine hK' _ _ ?_;clear hK' K')
 simp only[sE,↓reduceIte,simprocAttr];repeat refine AI ?_
 refine hK _ _ _ ?_;clear hK K;refine aQ (b:=(s.length:Int) !=((2*n:Nat):Int)) rfl (fun hb=>?_) (fun hb=>?_)
 ·
  refine aD fun K hK=>aC (by kernel_rfl) ?_;simp (maxSteps:=4000000) only[↓sP,sA,tyS,simprocAttr];repeat refine AI ?_
  refine hK _ _ _ ?_;clear hK K;refine aT ?_;simp (maxSteps:=4000000) only[bA,Tryz.results40,aY,aZ,aX,↓sP,sA,tyS,simprocAttr];have hv:cG s n=none:=lZ (by simp at hb;omega);exact lB (.bool false) rfl rfl ⟨by rw[hv];rfl,h0,fun w hw=>by rw[hv]at hw;cases hw⟩
 refine aV ?_;simp (maxSteps:=4000000) only[↓sP,sA,tyS,simprocAttr];repeat refine AI ?_
 refine hK _ _ _ ?_;clear hK K;refine aD fun K hK=>?_;have hlen:s.length=2*n:=by simp at hb;omega
 clear hb;refine aD fun K hK=>aC (by kernel_rfl) ?_;simp (maxSteps:=4000000) only[↓sP,sA,tyS,simprocAttr,h0,aU5,List.length_map,Nat.zero_le,Nat.le_refl,List.drop_zero,Nat.sub_zero,hln];repeat refine AI ?_
 refine hK _ _ _ ?_;clear hK K;refine bE ?_;refine cA (α:={y:Nat×List UInt8//UhSt s n y.1 y.2}) (fun y=>(fin [(0,.c (.str s)),(1,.osl 0 n 0 1 n),(15,.c (.int .i64 n)),(16,.c (.int .i64 y.1.1))],fob [(0,.box T (.c (.agg (y.1.2.map u8))))])) 100 (fun y=>n-y.1.1) ⟨(0,l0),UhSt.init s h0⟩ (aS (by omega) (by simp[bK,fin_at,finA_at,upd_at,HV.men,HV.menL,HV.norm,HV.toC,HV.toCL]) (by simp[bM,fob_at,upd_at,none0_at,bY,HO.men,HV.men,HV.menL,HV.norm,HV.toC,HV.toCL])) ?_;rintro⟨⟨i,l⟩,hst⟩;simp only at hst;have hi:=hst.2.1;have hll:=hst.1;refine aD fun K hK=>aC (by kernel_rfl) ?_;simp (maxSteps:=4000000) only[↓sP,sA,tyS,simprocAttr];repeat refine AI ?_
 refine hK _ _ _ ?_;clear hK K;refine aD fun K hK=>?_;refine aQ (b:=decide ((i:Int)<(n:Int))) rfl (fun hb=>?_) (fun hb=>?_)
 ·
  have hlt:i<n:=by simp at hb;omega
  clear hb;have hv2:IntKind.i64.wrap (2*(i:Int))=((2*i:Nat):Int):=by rw[IntWalk.i64_in _ (by omega)];omega
  have hv3:IntKind.i64.wrap (((2*i:Nat):Int)+1)=((2*i+1:Nat):Int):=by rw[IntWalk.i64_in _ (by omega)];rfl
  have hgx:s.getD (2*i) 0=hX s i:=rfl;have hgy:s.getD (2*i+1) 0=hY s i:=rfl;have hl1:2*i<s.length:=by omega
  have hl2:2*i+1<s.length:=by omega
  refine aV ?_;simp (maxSteps:=4000000) only[↓sP,sA,tyS,simprocAttr];repeat refine AI ?_
  refine hK _ _ _ ?_;clear hK K;refine aD fun K hK=>?_;refine bE ?_;refine aD fun K hK=>aC (by kernel_rfl) ?_;simp (maxSteps:=4000000) only[↓sP,sA,tyS,simprocAttr];repeat refine AI ?_
  refine hK _ _ _ ?_;clear hK K;refine aD fun K hK=>eL mixed [(0,[],[]),(1,[],[]),(2,[],[]),(3,[],[]),(5,[],[]),(6,[],[]),(7,[],[]),(8,[],[]),(9,[],[]),(4,[],[5,6,7,8,9]),(10,[],[]),(11,[],[]),(12,[],[])] [0,0,2,7,15,0,0,64,192,480,1023,2047,4095] (by kernel_rfl) (by kernel_rfl) (by kernel_rfl) (by kernel_rfl) rfl (by kernel_rfl) ?_;iterate 9
   (refine bR (g:=none) rfl rfl fun K' hK'=>?_;simp only[sH,↓sP,sA,tyS,simprocAttr,Int.natCast_nonneg,Int.ofNat_lt,hv2,hv3,hgx,hgy,hl1,hl2];(repeat refine AI ?_);refine hK' _ _ ?_;clear hK' K')
  refine bR (g:=none) rfl rfl fun K' hK'=>?_;simp (maxSteps:=4000000) only[sH,↓sP,sA,tyS,simprocAttr,Int.natCast_nonneg,Int.ofNat_lt,hv2,hv3,hgx,hgy,hl1,hl2];refine bH (args:=[_,_]) (nJ aG2 (hX s i)) ⟨rfl,rfl,rfl,rfl⟩ ?_;rintro u rfl;repeat refine AI ?_
  refine hK' _ _ ?_;clear hK' K';refine bR (g:=none) rfl rfl fun K' hK'=>?_;simp (maxSteps:=4000000) only[sH,↓sP,sA,tyS,simprocAttr,Int.natCast_nonneg,Int.ofNat_lt,hv2,hv3,hgx,hgy,hl1,hl2];refine bH (args:=[_,_]) (nJ aG2 (hY s i)) ⟨rfl,rfl,rfl,rfl⟩ ?_;rintro u rfl;repeat refine AI ?_
  refine hK' _ _ ?_;clear hK' K';iterate 2
   (refine bR (g:=none) rfl rfl fun K' hK'=>?_;simp only[sH,↓sP,sA,tyS,simprocAttr,Int.natCast_nonneg,Int.ofNat_lt,hv2,hv3,hgx,hgy,hl1,hl2];(repeat refine AI ?_);refine hK' _ _ ?_;clear hK' K')
  simp only[sE,↓reduceIte,simprocAttr];repeat refine AI ?_
  refine hK _ _ _ ?_;clear hK K;refine aD fun K hK=>?_;by_cases hx:valL (hX s i)<16
  ·
   by_cases hy:valL (hY s i)<16
   ·
    rw[kN,kN,if_pos hx,if_pos hy];have hx0:decide (((valL (hX s i):Nat):Int)<0)=false:=by simp
    have hy0:decide (((valL (hY s i):Nat):Int)<0)=false:=by simp
    have e1:IntKind.i64.wrap (16*((valL (hX s i):Nat):Int))=((16*valL (hX s i):Nat):Int):=by rw[IntWalk.i64_in _ (by omega)];omega
    have e2:IntKind.i64.wrap (((16*valL (hX s i):Nat):Int)+((valL (hY s i):Nat):Int))=((16*valL (hX s i)+valL (hY s i):Nat):Int):=by rw[IntWalk.i64_in _ (by omega)];omega
    have e3:IntKind.u8.wrap ((16*valL (hX s i)+valL (hY s i):Nat):Int)=((hB s i).toNat:Int):=by rw[IntWalk.u8_in _ (by omega),aU4 hx hy]
    have hil:i<l.length:=by omega
    have hl1':l.length≠1:=by omega
    refine aD fun K hK=>aC (by kernel_rfl) ?_;simp only[sR,simprocAttr];iterate 3
     (refine aB (g:=none) rfl rfl fun K' hK'=>?_;simp only[sH,↓sP,sA,tyS,simprocAttr,hx0,hy0];(repeat refine AI ?_);refine hK' _ _ ?_;clear hK' K')
    iterate 2
     (refine aB (g:=some (32,false)) rfl rfl fun K' hK'=>?_;simp only[sH,↓sP,sA,tyS,simprocAttr,hx0,hy0];(repeat refine AI ?_);refine hK' _ _ ?_;clear hK' K')
    refine aB (g:=none) rfl rfl fun K' hK'=>?_;simp (maxSteps:=4000000) only[sH,↓sP,sA,tyS,simprocAttr,hx0,hy0];repeat refine AI ?_
    refine hK' _ _ ?_;clear hK' K';simp only[sE,↓reduceIte,simprocAttr];repeat refine AI ?_
    refine hK _ _ _ ?_;clear hK K;refine aQ (b:=false) rfl (fun hb=>?_) (fun hb=>?_)
    · cases hb
    refine aV ?_;simp (maxSteps:=4000000) only[↓sP,sA,tyS,simprocAttr];repeat refine AI ?_
    refine hK _ _ _ ?_;clear hK K;refine aC (by kernel_rfl) ?_;simp only[sR,simprocAttr];iterate 9
     (refine aB (g:=none) rfl rfl fun K' hK'=>?_;simp only[sH,↓sP,sA,tyS,simprocAttr,e1,e2,e3,Int.natCast_nonneg,Int.ofNat_lt,Nat.le_refl,Nat.sub_zero,Nat.zero_add,Nat.mul_one,hlt,oR,aM4,hil,hl1',and_false,vL];(repeat refine AI ?_);refine hK' _ _ ?_;clear hK' K')
    simp only[sE,↓reduceIte,simprocAttr];repeat refine AI ?_
    refine hK _ _ _ ?_;clear hK K;refine aC (by kernel_rfl) ?_;simp (maxSteps:=4000000) only[↓sP,sA,tyS,simprocAttr,IntWalk.i64_in _ (show-9223372036854775808≤(i:Int)+1∧(i:Int)+1≤9223372036854775807 by omega)];refine⟨⟨(i+1,l.set i (hB s i)),hst.next hlt (by simp[hOk,hx,hy])⟩,aS (by omega) (by simp[bK,fin_at,finA_at,upd_at,HV.men,HV.menL,HV.norm,HV.toC,HV.toCL]) (by simp[bM,fob_at,upd_at,none0_at,bY,HO.men,HV.men,HV.menL,HV.norm,HV.toC,HV.toCL]),?_⟩;show n-(i+1)<n-i;omega
   rw[kN,kN,if_pos hx,if_neg hy];have hx0:decide (((valL (hX s i):Nat):Int)<0)=false:=by simp
   refine aD fun K hK=>aC (by kernel_rfl) ?_;simp only[sR,simprocAttr];iterate 3
    (refine aB (g:=none) rfl rfl fun K' hK'=>?_;simp only[sH,↓sP,sA,tyS,simprocAttr,hx0];(repeat refine AI ?_);refine hK' _ _ ?_;clear hK' K')
   iterate 2
    (refine aB (g:=some (32,false)) rfl rfl fun K' hK'=>?_;simp only[sH,↓sP,sA,tyS,simprocAttr,hx0];(repeat refine AI ?_);refine hK' _ _ ?_;clear hK' K')
   refine aB (g:=none) rfl rfl fun K' hK'=>?_;simp (maxSteps:=4000000) only[sH,↓sP,sA,tyS,simprocAttr,hx0];repeat refine AI ?_
   refine hK' _ _ ?_;clear hK' K';simp only[sE,↓reduceIte,simprocAttr];repeat refine AI ?_
   refine hK _ _ _ ?_;clear hK K;refine aQ (b:=true) rfl (fun hb=>?_) (fun hb=>?_)
   ·
    refine aD fun K hK=>aC (by kernel_rfl) ?_;simp (maxSteps:=4000000) only[↓sP,sA,tyS,simprocAttr];repeat refine AI ?_
    refine hK _ _ _ ?_;clear hK K;refine aT ?_;simp (maxSteps:=4000000) only[bA,Tryz.results40,aY,aZ,aX,↓sP,sA,tyS,simprocAttr];have hv:=hst.bad hlt (by simp[hOk,hx,hy]);exact lB (.bool false) rfl rfl ⟨by rw[hv];rfl,hll,fun w hw=>by rw[hv]at hw;cases hw⟩
   cases hb
  rw[kN,if_neg hx];refine aD fun K hK=>aC (by kernel_rfl) ?_;simp only[sR,simprocAttr];iterate 3
   (refine aB (g:=none) rfl rfl fun K' hK'=>?_;simp only[sH,↓sP,sA,tyS,simprocAttr];(repeat refine AI ?_);refine hK' _ _ ?_;clear hK' K')
  iterate 2
   (refine aB (g:=some (32,false)) rfl rfl fun K' hK'=>?_;simp only[sH,↓sP,sA,tyS,simprocAttr];(repeat refine AI ?_);refine hK' _ _ ?_;clear hK' K')
  refine aB (g:=none) rfl rfl fun K' hK'=>?_;simp (maxSteps:=4000000) only[sH,↓sP,sA,tyS,simprocAttr];repeat refine AI ?_
  refine hK' _ _ ?_;clear hK' K';simp only[sE,↓reduceIte,simprocAttr];repeat refine AI ?_
  refine hK _ _ _ ?_;clear hK K;refine aQ (b:=true) rfl (fun hb=>?_) (fun hb=>?_)
  ·
   refine aD fun K hK=>aC (by kernel_rfl) ?_;simp (maxSteps:=4000000) only[↓sP,sA,tyS,simprocAttr];repeat refine AI ?_
   refine hK _ _ _ ?_;clear hK K;refine aT ?_;simp (maxSteps:=4000000) only[bA,Tryz.results40,aY,aZ,aX,↓sP,sA,tyS,simprocAttr];have hv:=hst.bad hlt (by simp[hOk,hx]);exact lB (.bool false) rfl rfl ⟨by rw[hv];rfl,hll,fun w hw=>by rw[hv]at hw;cases hw⟩
  cases hb
 refine bW ?_;simp (maxSteps:=4000000) only[↓sP,sA,tyS,simprocAttr];clear hK K;repeat refine AI ?_
 refine hK _ _ _ ?_;clear hK K;refine aD fun K hK=>aC (by kernel_rfl) ?_;simp (maxSteps:=4000000) only[↓sP,sA,tyS,simprocAttr];repeat refine AI ?_
 refine hK _ _ _ ?_;clear hK K;refine aT ?_;simp (maxSteps:=4000000) only[bA,Tryz.results40,aY,aZ,aX,↓sP,sA,tyS,simprocAttr];have hin:i=n:=by simp at hb;omega
 subst hin;have hv:=hst.fin hlen;exact lB (.bool true) rfl rfl ⟨by rw[hv];rfl,hll,fun w hw=>by rw[hv]at hw;cases hw;rfl⟩
theorem aM6 (s:aU)(hs:s.length<2^40):eD Tryz.prog 22 [.str s] (fun u v=>u=dg ((dT s).getD zdg)∧v= .bool (dT s).isSome):=by
 refine bI Tryz.func22 rfl (by kernel_rfl) (bJ _) (Nat.le_of_ble_eq_true rfl) ?_;refine aD fun K hK=>aC (by kernel_rfl) ?_;simp (maxSteps:=4000000) only[↓sP,sA,tyS,simprocAttr];repeat refine AI ?_
 refine hK _ _ _ ?_;clear hK K;refine aD fun K hK=>aC (by kernel_rfl) ?_;simp (maxSteps:=4000000) only[↓sP,sA,tyS,simprocAttr];repeat refine AI ?_
 refine hK _ _ _ ?_;clear hK K;refine aD fun K hK=>aC (by kernel_rfl) ?_;simp only[sR,simprocAttr];refine aB (g:=none) rfl rfl fun K' hK'=>?_;simp (maxSteps:=4000000) only[sH,↓sP,sA,tyS,simprocAttr];repeat refine AI ?_
 refine hK' _ _ ?_;clear hK' K';refine aB (g:=none) rfl rfl fun K' hK'=>?_;simp (maxSteps:=4000000) only[sH,↓sP,sA,tyS,simprocAttr];refine cD (args:=[_,_]) (aU6 s shaW) ⟨rfl,rfl,rfl,rfl⟩ ?_;rintro u v ⟨rfl,rfl⟩;repeat refine AI ?_
 refine hK' _ _ ?_;clear hK' K';iterate 5
  (refine aB (g:=none) rfl rfl fun K' hK'=>?_;simp only[sH,↓sP,sA,tyS,simprocAttr];(repeat refine AI ?_);refine hK' _ _ ?_;clear hK' K')
 simp only[sE,↓reduceIte,simprocAttr];repeat refine AI ?_
 refine hK _ _ _ ?_;clear hK K;refine aD fun K hK=>?_;by_cases hp:prefB s shaW=true
 ·
  rw[hp,if_pos rfl,show shaW.length=7 from rfl];refine aD fun K hK=>aC (by kernel_rfl) ?_;simp only[sR,simprocAttr];iterate 3
   (refine aB (g:=none) rfl rfl fun K' hK'=>?_;simp only[sH,↓sP,sA,tyS,simprocAttr];(repeat refine AI ?_);refine hK' _ _ ?_;clear hK' K')
  iterate 2
   (refine aB (g:=some (14,false)) rfl rfl fun K' hK'=>?_;simp only[sH,↓sP,sA,tyS,simprocAttr];(repeat refine AI ?_);refine hK' _ _ ?_;clear hK' K')
  refine aB (g:=some (14,false)) rfl rfl fun K' hK'=>?_;simp (maxSteps:=4000000) only[sH,↓sP,sA,tyS,simprocAttr];refine aM5 (args:=[_]) (aU7 (s.drop 7) 32 23 (List.replicate 32 0) (by simp) (by omega) (by omega) (by rw[List.length_drop];omega)) rfl (by simp) ⟨rfl,rfl,rfl,rfl⟩ ?_;rintro u l' ⟨rfl,hll,hw⟩;repeat refine AI ?_
  refine hK' _ _ ?_;clear hK' K';refine aB (g:=some (14,false)) rfl rfl fun K' hK'=>?_;simp (maxSteps:=4000000) only[sH,↓sP,sA,tyS,simprocAttr];repeat refine AI ?_
  refine hK' _ _ ?_;clear hK' K';refine aB (g:=none) rfl rfl fun K' hK'=>?_;simp (maxSteps:=4000000) only[sH,↓sP,sA,tyS,simprocAttr];repeat refine AI ?_
  refine hK' _ _ ?_;clear hK' K';simp only[sE,↓reduceIte,simprocAttr];repeat refine AI ?_
  refine hK _ _ _ ?_;clear hK K;refine aQ (b:=!(cG (s.drop 7) 32).isSome) rfl (fun hb=>?_) (fun hb=>?_)
  ·
   refine aD fun K hK=>aC (by kernel_rfl) ?_;simp (maxSteps:=4000000) only[↓sP,sA,tyS,simprocAttr,hbuild_zd,dg_setAt];repeat refine AI ?_
   refine hK _ _ _ ?_;clear hK K;refine aT ?_;simp (maxSteps:=4000000) only[bA,Tryz.results22,aY,aZ,aX,↓sP,sA,tyS,simprocAttr];have hn:dT s=none:=iQ (fun _=>by simpa using hb);exact aW [] zd (.bool false) rfl ⟨by rw[hn];rfl,by rw[hn];rfl⟩
  refine aV ?_;simp (maxSteps:=4000000) only[↓sP,sA,tyS,simprocAttr];repeat refine AI ?_
  refine hK _ _ _ ?_;clear hK K;obtain⟨l,hl⟩:=Option.isSome_iff_exists.1 (show(cG (s.drop 7) 32).isSome=true by simpa using hb);have:=hw l hl;subst this;have hv:=oS hp hl hll;refine aD fun K hK=>aC (by kernel_rfl) ?_;simp (maxSteps:=4000000) only[↓sP,sA,tyS,simprocAttr,oR,hll,dg_setAt];repeat refine AI ?_
  refine hK _ _ _ ?_;clear hK K;refine aT ?_;simp (maxSteps:=4000000) only[bA,Tryz.results22,aY,aZ,aX,↓sP,sA,tyS,simprocAttr];simp only[oR,hll,if_true,Option.map_some];refine aW [] (dg (⟨l',hll⟩:Dig)) (.bool true) ?_ ?_
  · simp[HV.close,HV.closeL,HV.norm,HV.toC,HV.toCL,CV.denil,denilL_u8];rfl
  exact⟨by rw[hv];rfl,by rw[hv];rfl⟩
 have hp':prefB s shaW=false:=by simpa using hp
 rw[hp',if_neg (by simp)];refine aD fun K hK=>aC (by kernel_rfl) ?_;simp only[sR,simprocAttr];iterate 3
  (refine aB (g:=none) rfl rfl fun K' hK'=>?_;simp only[sH,↓sP,sA,tyS,simprocAttr];(repeat refine AI ?_);refine hK' _ _ ?_;clear hK' K')
 iterate 4
  (refine aB (g:=some (14,false)) rfl rfl fun K' hK'=>?_;simp only[sH,↓sP,sA,tyS,simprocAttr];(repeat refine AI ?_);refine hK' _ _ ?_;clear hK' K')
 refine aB (g:=none) rfl rfl fun K' hK'=>?_;simp (maxSteps:=4000000) only[sH,↓sP,sA,tyS,simprocAttr];repeat refine AI ?_
 refine hK' _ _ ?_;clear hK' K';simp only[sE,↓reduceIte,simprocAttr];repeat refine AI ?_
 refine hK _ _ _ ?_;clear hK K;refine aQ (b:=true) rfl (fun hb=>?_) (fun hb=>?_)
 ·
  refine aD fun K hK=>aC (by kernel_rfl) ?_;simp (maxSteps:=4000000) only[↓sP,sA,tyS,simprocAttr,hbuild_zd,dg_setAt];repeat refine AI ?_
  refine hK _ _ _ ?_;clear hK K;refine aT ?_;simp (maxSteps:=4000000) only[bA,Tryz.results22,aY,aZ,aX,↓sP,sA,tyS,simprocAttr];have hn:dT s=none:=iQ (fun h=>absurd h hp);exact aW [] zd (.bool false) rfl ⟨by rw[hn];rfl,by rw[hn];rfl⟩
 cases hb
end Go.Proofs.YtflnfidkociekaaGreatDoor
namespace Go.Pl
open Go Go.Hl
end Go.Pl
namespace Go.Hl
open Go Go.RowKit Go.Sort Go.Proofs
end Go.Hl
namespace Go.Pl
open Go Go.Hl
def rMid (r:Rt):Prop:=(r.q.length≤12∧ ∀q∈r.q,q.r.length≤300)∧(r.k.length≤32∧ ∀k∈r.k,k.o.length≤300∧k.rs.length≤30∧ ∀w∈k.rs,w.length≤300)∧r.x.length≤65
theorem rMid.sz {r:Rt}(h:rMid r):rSz r:=by
  obtain⟨⟨h1,h2⟩,⟨h3,h4⟩,h5⟩:=h;refine⟨⟨by omega,fun q hq=>by have:=h2 q hq;omega⟩,⟨by omega,fun k hk=>?_⟩,by omega⟩;obtain⟨k1,k2,k3⟩:=h4 k hk;exact⟨by omega,by omega,fun w hw=>by have:=k3 w hw;omega⟩
def wd (l:List aU)(i:Nat):aU:=l.getD i []
def aU8 (l:List aU)(x:Rt):Option Rt:=
  if l.length=3 then match eY (wd l 2)with|some n=>some {x with q:=x.q++[⟨wd l 1,n⟩]}|none=>none else none
def bH5 (l:List aU)(x:Rt):Option Rt:=
  if l.length<6 then none else match eY (wd l 1),bH4 (wd l 2),eY (wd l 4),eY (wd l 5)with
    |some h,some r,some a,some b=>some {x with k:=x.k++[⟨⟨h,r⟩,wd l 3,l.drop 6,a,b⟩]}
    |_,_,_,_=>none
def bH6 (l:List aU)(x:Rt):Option Rt:=
  if l.length=3 then match dT (wd l 1),eY (wd l 2)with|some d,some t=>some {x with x:=x.x++[⟨d,t⟩]}|_,_=>none else none
end Go.Pl
namespace Go.Proofs.YtflnfidkociekaaGreatDoor
open Go Go.Hl Go.Pl
set_option maxRecDepth 10000
set_option maxHeartbeats 4000000
def hBs (s:aU)(i:Nat):List UInt8:=(List.range i).map (hB s)
theorem aG3 (s:aU)(i:Nat):(hBs s i).length=i:=by simp[hBs]
theorem aU9 (s:aU):hBs s 0=[]:=rfl
theorem aV0 (s:aU)(i:Nat):hBs s (i+1)=hBs s i++[hB s i]:=by simp[hBs,List.range_succ]
theorem uO (c:UInt8):cL Tryz.prog 60 [.int .u8 c.toNat] (fun v=>v= .int .i64 (valL c:Nat)):=by
 refine bI Tryz.func60 rfl (by kernel_rfl) (bJ _) (Nat.le_of_ble_eq_true rfl) ?_;refine aD fun K hK=>aC (by kernel_rfl) ?_;simp (maxSteps:=4000000) only[↓sP,sA,tyS,simprocAttr];repeat refine AI ?_
 refine hK _ _ _ ?_;clear hK K;refine aD fun K hK=>?_;refine aD fun K hK=>aC (by kernel_rfl) ?_;simp only[sR,simprocAttr];iterate 3
  (refine aB (g:=none) rfl rfl fun K' hK'=>?_;simp only[sH,↓sP,sA,tyS,simprocAttr];(repeat refine AI ?_);refine hK' _ _ ?_;clear hK' K')
 refine bG 4 rfl (fun h1_4=>?_) (fun h1_4=>?_)
 ·
  iterate 2
   (refine aB (g:=some (5,true)) rfl rfl fun K' hK'=>?_;simp only[sH,↓sP,sA,tyS,simprocAttr,h1_4];(repeat refine AI ?_);refine hK' _ _ ?_;clear hK' K')
  refine aB (g:=none) rfl rfl fun K' hK'=>?_;simp (maxSteps:=4000000) only[sH,↓sP,sA,tyS,simprocAttr,h1_4];repeat refine AI ?_
  refine hK' _ _ ?_;clear hK' K';refine bG 7 rfl (fun h1_7=>?_) (fun h1_7=>?_)
  ·
   simp only[h1_7];simp only[sE,↓reduceIte,simprocAttr];repeat refine AI ?_
   refine hK _ _ _ ?_;clear hK K;refine aQ (b:=true) rfl (fun hb=>?_) (fun hb=>?_)
   ·
    have e1:IntKind.u8.wrap ((c.toNat:Int)-48)=((c.toNat-48:Nat):Int):=by simp at h1_4 h1_7;rw[IntWalk.u8_in _ (by omega)];omega
    have e2:IntKind.i64.wrap ((c.toNat-48:Nat):Int)=((c.toNat-48:Nat):Int):=by have:=c.toNat_lt;rw[IntWalk.i64_in _ (by omega)]
    refine aD fun K hK=>aC (by kernel_rfl) ?_;simp only[sR,simprocAttr];iterate 4
     (refine aB (g:=none) rfl rfl fun K' hK'=>?_;simp only[sH,↓sP,sA,tyS,simprocAttr,e1,e2,h1_4,h1_7];(repeat refine AI ?_);refine hK' _ _ ?_;clear hK' K')
    simp only[sE,↓reduceIte,simprocAttr];repeat refine AI ?_
    refine hK _ _ _ ?_;clear hK K;refine aT ?_;simp (maxSteps:=4000000) only[bA,Tryz.results60,aY,aZ,aX,↓sP,sA,tyS,simprocAttr];refine bF [] _ rfl ?_;simp only[decide_eq_true_eq,decide_eq_false_iff_not]at*;refine congrArg (CV.int IntKind.i64) ?_;unfold valL;split<;>(try split)<;>omega
   cases hb
  simp only[h1_7];simp only[sE,↓reduceIte,simprocAttr];repeat refine AI ?_
  refine hK _ _ _ ?_;clear hK K;refine aQ (b:=false) rfl (fun hb=>?_) (fun hb=>?_)
  · cases hb
  refine aV ?_;simp (maxSteps:=4000000) only[↓sP,sA,tyS,simprocAttr];repeat refine AI ?_
  refine hK _ _ _ ?_;clear hK K;refine aD fun K hK=>?_;refine aD fun K hK=>aC (by kernel_rfl) ?_;simp only[sR,simprocAttr];iterate 3
   (refine aB (g:=none) rfl rfl fun K' hK'=>?_;simp only[sH,↓sP,sA,tyS,simprocAttr,h1_4,h1_7];(repeat refine AI ?_);refine hK' _ _ ?_;clear hK' K')
  refine bG 13 rfl (fun h3_13=>?_) (fun h3_13=>?_)
  ·
   iterate 2
    (refine aB (g:=some (14,true)) rfl rfl fun K' hK'=>?_;simp only[sH,↓sP,sA,tyS,simprocAttr,h1_4,h1_7,h3_13];(repeat refine AI ?_);refine hK' _ _ ?_;clear hK' K')
   refine aB (g:=none) rfl rfl fun K' hK'=>?_;simp (maxSteps:=4000000) only[sH,↓sP,sA,tyS,simprocAttr,h1_4,h1_7,h3_13];repeat refine AI ?_
   refine hK' _ _ ?_;clear hK' K';refine bG 16 rfl (fun h3_16=>?_) (fun h3_16=>?_)
   ·
    simp only[h3_16];simp only[sE,↓reduceIte,simprocAttr];repeat refine AI ?_
    refine hK _ _ _ ?_;clear hK K;refine aQ (b:=true) rfl (fun hb=>?_) (fun hb=>?_)
    ·
     have e1:IntKind.u8.wrap ((c.toNat:Int)-97)=((c.toNat-97:Nat):Int):=by simp at h3_13 h3_16;rw[IntWalk.u8_in _ (by omega)];omega
     have e2:IntKind.i64.wrap ((c.toNat-97:Nat):Int)=((c.toNat-97:Nat):Int):=by have:=c.toNat_lt;rw[IntWalk.i64_in _ (by omega)]
     have e3:IntKind.i64.wrap (((c.toNat-97:Nat):Int)+10)=((c.toNat-97+10:Nat):Int):=by have:=c.toNat_lt;rw[IntWalk.i64_in _ (by omega)];omega
     refine aD fun K hK=>aC (by kernel_rfl) ?_;simp only[sR,simprocAttr];iterate 5
      (refine aB (g:=none) rfl rfl fun K' hK'=>?_;simp only[sH,↓sP,sA,tyS,simprocAttr,e1,e2,e3,h1_4,h1_7,h3_13,h3_16];(repeat refine AI ?_);refine hK' _ _ ?_;clear hK' K')
     simp only[sE,↓reduceIte,simprocAttr];repeat refine AI ?_
     refine hK _ _ _ ?_;clear hK K;refine aT ?_;simp (maxSteps:=4000000) only[bA,Tryz.results60,aY,aZ,aX,↓sP,sA,tyS,simprocAttr];refine bF [] _ rfl ?_;simp only[decide_eq_true_eq,decide_eq_false_iff_not]at*;refine congrArg (CV.int IntKind.i64) ?_;unfold valL;split<;>(try split)<;>omega
    cases hb
   simp only[h3_16];simp only[sE,↓reduceIte,simprocAttr];repeat refine AI ?_
   refine hK _ _ _ ?_;clear hK K;refine aQ (b:=false) rfl (fun hb=>?_) (fun hb=>?_)
   · cases hb
   refine aV ?_;simp (maxSteps:=4000000) only[↓sP,sA,tyS,simprocAttr];repeat refine AI ?_
   refine hK _ _ _ ?_;clear hK K;refine aD fun K hK=>aC (by kernel_rfl) ?_;simp (maxSteps:=4000000) only[↓sP,sA,tyS,simprocAttr];repeat refine AI ?_
   refine hK _ _ _ ?_;clear hK K;refine aT ?_;simp (maxSteps:=4000000) only[bA,Tryz.results60,aY,aZ,aX,↓sP,sA,tyS,simprocAttr];refine bF [] _ rfl ?_;simp only[decide_eq_true_eq,decide_eq_false_iff_not]at*;refine congrArg (CV.int IntKind.i64) ?_;unfold valL;split<;>(try split)<;>omega
  iterate 2
   (refine aB (g:=some (14,true)) rfl rfl fun K' hK'=>?_;simp only[sH,↓sP,sA,tyS,simprocAttr,h1_4,h1_7,h3_13];(repeat refine AI ?_);refine hK' _ _ ?_;clear hK' K')
  refine aB (g:=none) rfl rfl fun K' hK'=>?_;simp (maxSteps:=4000000) only[sH,↓sP,sA,tyS,simprocAttr,h1_4,h1_7,h3_13];repeat refine AI ?_
  refine hK' _ _ ?_;clear hK' K';simp only[sE,↓reduceIte,simprocAttr];repeat refine AI ?_
  refine hK _ _ _ ?_;clear hK K;refine aQ (b:=false) rfl (fun hb=>?_) (fun hb=>?_)
  · cases hb
  refine aV ?_;simp (maxSteps:=4000000) only[↓sP,sA,tyS,simprocAttr];repeat refine AI ?_
  refine hK _ _ _ ?_;clear hK K;refine aD fun K hK=>aC (by kernel_rfl) ?_;simp (maxSteps:=4000000) only[↓sP,sA,tyS,simprocAttr];repeat refine AI ?_
  refine hK _ _ _ ?_;clear hK K;refine aT ?_;simp (maxSteps:=4000000) only[bA,Tryz.results60,aY,aZ,aX,↓sP,sA,tyS,simprocAttr];refine bF [] _ rfl ?_;simp only[decide_eq_true_eq,decide_eq_false_iff_not]at*;refine congrArg (CV.int IntKind.i64) ?_;unfold valL;split<;>(try split)<;>omega
 iterate 2
  (refine aB (g:=some (5,true)) rfl rfl fun K' hK'=>?_;simp only[sH,↓sP,sA,tyS,simprocAttr,h1_4];(repeat refine AI ?_);refine hK' _ _ ?_;clear hK' K')
 refine aB (g:=none) rfl rfl fun K' hK'=>?_;simp (maxSteps:=4000000) only[sH,↓sP,sA,tyS,simprocAttr,h1_4];repeat refine AI ?_
 refine hK' _ _ ?_;clear hK' K';simp only[sE,↓reduceIte,simprocAttr];repeat refine AI ?_
 refine hK _ _ _ ?_;clear hK K;refine aQ (b:=false) rfl (fun hb=>?_) (fun hb=>?_)
 · cases hb
 refine aV ?_;simp (maxSteps:=4000000) only[↓sP,sA,tyS,simprocAttr];repeat refine AI ?_
 refine hK _ _ _ ?_;clear hK K;refine aD fun K hK=>?_;refine aD fun K hK=>aC (by kernel_rfl) ?_;simp only[sR,simprocAttr];iterate 3
  (refine aB (g:=none) rfl rfl fun K' hK'=>?_;simp only[sH,↓sP,sA,tyS,simprocAttr,h1_4];(repeat refine AI ?_);refine hK' _ _ ?_;clear hK' K')
 refine bG 13 rfl (fun h3_13=>?_) (fun h3_13=>?_)
 ·
  iterate 2
   (refine aB (g:=some (14,true)) rfl rfl fun K' hK'=>?_;simp only[sH,↓sP,sA,tyS,simprocAttr,h1_4,h3_13];(repeat refine AI ?_);refine hK' _ _ ?_;clear hK' K')
  refine aB (g:=none) rfl rfl fun K' hK'=>?_;simp (maxSteps:=4000000) only[sH,↓sP,sA,tyS,simprocAttr,h1_4,h3_13];repeat refine AI ?_
  refine hK' _ _ ?_;clear hK' K';refine bG 16 rfl (fun h3_16=>?_) (fun h3_16=>?_)
  ·
   simp only[h3_16];simp only[sE,↓reduceIte,simprocAttr];repeat refine AI ?_
   refine hK _ _ _ ?_;clear hK K;refine aQ (b:=true) rfl (fun hb=>?_) (fun hb=>?_)
   ·
    have e1:IntKind.u8.wrap ((c.toNat:Int)-97)=((c.toNat-97:Nat):Int):=by simp at h3_13 h3_16;rw[IntWalk.u8_in _ (by omega)];omega
    have e2:IntKind.i64.wrap ((c.toNat-97:Nat):Int)=((c.toNat-97:Nat):Int):=by have:=c.toNat_lt;rw[IntWalk.i64_in _ (by omega)]
    have e3:IntKind.i64.wrap (((c.toNat-97:Nat):Int)+10)=((c.toNat-97+10:Nat):Int):=by have:=c.toNat_lt;rw[IntWalk.i64_in _ (by omega)];omega
    refine aD fun K hK=>aC (by kernel_rfl) ?_;simp only[sR,simprocAttr];iterate 5
     (refine aB (g:=none) rfl rfl fun K' hK'=>?_;simp only[sH,↓sP,sA,tyS,simprocAttr,e1,e2,e3,h1_4,h3_13,h3_16];(repeat refine AI ?_);refine hK' _ _ ?_;clear hK' K')
    simp only[sE,↓reduceIte,simprocAttr];repeat refine AI ?_
    refine hK _ _ _ ?_;clear hK K;refine aT ?_;simp (maxSteps:=4000000) only[bA,Tryz.results60,aY,aZ,aX,↓sP,sA,tyS,simprocAttr];refine bF [] _ rfl ?_;simp only[decide_eq_true_eq,decide_eq_false_iff_not]at*;refine congrArg (CV.int IntKind.i64) ?_;unfold valL;split<;>(try split)<;>omega
   cases hb
  simp only[h3_16];simp only[sE,↓reduceIte,simprocAttr];repeat refine AI ?_
  refine hK _ _ _ ?_;clear hK K;refine aQ (b:=false) rfl (fun hb=>?_) (fun hb=>?_)
  · cases hb
  refine aV ?_;simp (maxSteps:=4000000) only[↓sP,sA,tyS,simprocAttr];repeat refine AI ?_
  refine hK _ _ _ ?_;clear hK K;refine aD fun K hK=>aC (by kernel_rfl) ?_;simp (maxSteps:=4000000) only[↓sP,sA,tyS,simprocAttr];repeat refine AI ?_
  refine hK _ _ _ ?_;clear hK K;refine aT ?_;simp (maxSteps:=4000000) only[bA,Tryz.results60,aY,aZ,aX,↓sP,sA,tyS,simprocAttr];refine bF [] _ rfl ?_;simp only[decide_eq_true_eq,decide_eq_false_iff_not]at*;refine congrArg (CV.int IntKind.i64) ?_;unfold valL;split<;>(try split)<;>omega
 iterate 2
  (refine aB (g:=some (14,true)) rfl rfl fun K' hK'=>?_;simp only[sH,↓sP,sA,tyS,simprocAttr,h1_4,h3_13];(repeat refine AI ?_);refine hK' _ _ ?_;clear hK' K')
 refine aB (g:=none) rfl rfl fun K' hK'=>?_;simp (maxSteps:=4000000) only[sH,↓sP,sA,tyS,simprocAttr,h1_4,h3_13];repeat refine AI ?_
 refine hK' _ _ ?_;clear hK' K';simp only[sE,↓reduceIte,simprocAttr];repeat refine AI ?_
 refine hK _ _ _ ?_;clear hK K;refine aQ (b:=false) rfl (fun hb=>?_) (fun hb=>?_)
 · cases hb
 refine aV ?_;simp (maxSteps:=4000000) only[↓sP,sA,tyS,simprocAttr];repeat refine AI ?_
 refine hK _ _ _ ?_;clear hK K;refine aD fun K hK=>aC (by kernel_rfl) ?_;simp (maxSteps:=4000000) only[↓sP,sA,tyS,simprocAttr];repeat refine AI ?_
 refine hK _ _ _ ?_;clear hK K;refine aT ?_;simp (maxSteps:=4000000) only[bA,Tryz.results60,aY,aZ,aX,↓sP,sA,tyS,simprocAttr];refine bF [] _ rfl ?_;simp only[decide_eq_true_eq,decide_eq_false_iff_not]at*;refine congrArg (CV.int IntKind.i64) ?_;unfold valL;split<;>(try split)<;>omega
theorem aM7 (s:aU)(n:Nat)(hn:n<1000):eD Tryz.prog 43 [.str s,.int .i64 n] (fun u v=>u= .slc (((cG s n).getD []).map u8)∧v= .bool (cG s n).isSome):=by
 have hw2:IntKind.i64.wrap (2*(n:Int))=((2*n:Nat):Int):=by rw[IntWalk.i64_in _ (by omega)];omega
 refine bI Tryz.func43 rfl (by kernel_rfl) (bJ _) (Nat.le_of_ble_eq_true rfl) ?_;refine aD fun K hK=>aC (by kernel_rfl) ?_;simp (maxSteps:=4000000) only[↓sP,sA,tyS,simprocAttr];repeat refine AI ?_
 refine hK _ _ _ ?_;clear hK K;refine aD fun K hK=>?_;refine aD fun K hK=>aC (by kernel_rfl) ?_;simp only[sR,simprocAttr];iterate 5
  (refine aB (g:=none) rfl rfl fun K' hK'=>?_;simp only[sH,↓sP,sA,tyS,simprocAttr,hw2];(repeat refine AI ?_);refine hK' _ _ ?_;clear hK' K')
 simp only[sE,↓reduceIte,simprocAttr];repeat refine AI ?_
 refine hK _ _ _ ?_;clear hK K;refine aQ (b:=(s.length:Int) !=((2*n:Nat):Int)) rfl (fun hb=>?_) (fun hb=>?_)
 ·
  refine aD fun K hK=>aC (by kernel_rfl) ?_;simp (maxSteps:=4000000) only[↓sP,sA,tyS,simprocAttr];repeat refine AI ?_
  refine hK _ _ _ ?_;clear hK K;refine aT ?_;simp (maxSteps:=4000000) only[bA,Tryz.results43,aY,aZ,aX,↓sP,sA,tyS,simprocAttr];have hv:cG s n=none:=lZ (by simp at hb;omega);refine aW [] (.slc []) (.bool false) ?_ ⟨by rw[hv];rfl,by rw[hv];rfl⟩;simp[HV.close,HV.closeL,CV.denil,CV.denilL,HV.norm,HV.toC,HV.toCL]
 refine aV ?_;simp (maxSteps:=4000000) only[↓sP,sA,tyS,simprocAttr];repeat refine AI ?_
 refine hK _ _ _ ?_;clear hK K;have hlen:s.length=2*n:=by simp at hb;omega
 clear hb;refine aD fun K hK=>aC (by kernel_rfl) ?_;simp (maxSteps:=4000000) only[↓sP,sA,tyS,simprocAttr];repeat refine AI ?_
 refine hK _ _ _ ?_;clear hK K;refine aD fun K hK=>?_;refine aD fun K hK=>aC (by kernel_rfl) ?_;simp (maxSteps:=4000000) only[↓sP,sA,tyS,simprocAttr];repeat refine AI ?_
 refine hK _ _ _ ?_;clear hK K;refine bE ?_;refine iD 6 0 5 1 rfl rfl rfl rfl ?_;refine cA (α:={i:Nat//i≤n∧ ∀j,j<i→hOk s j=true}) (fun i=>(fin [(0,.c (.str s)),(1,.c (.int .i64 n)),(6,.own 36 i.1),(7,.c (.int .i64 i.1))],fob [(36,.row 5 1 ((hBs s i.1).map u8))])) 100 (fun i=>n-i.1) ⟨0,by omega,fun j hj=>absurd hj (by omega)⟩ (by simp only[aU9,List.map_nil];exact aS (by omega) (by simp[bK,fin_at,finA_at,upd_at,HV.men,HV.menL,HV.norm,HV.toC,HV.toCL]) (by simp[bM,fob_at,upd_at,none0_at,bY,HO.men,HV.men,HV.menL,HV.norm,HV.toC,HV.toCL])) ?_;rintro⟨i,hi,hok⟩;have hrl:=aG3 s i;refine aD fun K hK=>?_;refine aD fun K hK=>aC (by kernel_rfl) ?_;simp (maxSteps:=4000000) only[↓sP,sA,tyS,simprocAttr];repeat refine AI ?_
 refine hK _ _ _ ?_;clear hK K;refine aQ (b:=decide ((i:Int)<(n:Int))) rfl (fun hb=>?_) (fun hb=>?_)
 ·
  have hlt:i<n:=by simp at hb;omega
  clear hb;have hv2:IntKind.i64.wrap (2*(i:Int))=((2*i:Nat):Int):=by rw[IntWalk.i64_in _ (by omega)];omega
  have hv3:IntKind.i64.wrap (((2*i:Nat):Int)+1)=((2*i+1:Nat):Int):=by rw[IntWalk.i64_in _ (by omega)];rfl
  have hgx:s.getD (2*i) 0=hX s i:=rfl;have hgy:s.getD (2*i+1) 0=hY s i:=rfl;have hl1:2*i<s.length:=by omega
  have hl2:2*i+1<s.length:=by omega
  refine aV ?_;simp (maxSteps:=4000000) only[↓sP,sA,tyS,simprocAttr];repeat refine AI ?_
  refine hK _ _ _ ?_;clear hK K;refine aD fun K hK=>?_;refine bE ?_;refine aD fun K hK=>eL mixed [(0,[],[]),(1,[],[]),(2,[],[]),(3,[],[]),(5,[],[]),(6,[],[]),(7,[],[]),(8,[],[]),(9,[],[]),(4,[],[5,6,7,8,9]),(10,[],[]),(11,[],[]),(12,[],[])] [0,0,2,7,15,0,0,64,192,480,1023,2047,4095] (by kernel_rfl) (by kernel_rfl) (by kernel_rfl) (by kernel_rfl) rfl (by kernel_rfl) ?_;iterate 9
   (refine bR (g:=none) rfl rfl fun K' hK'=>?_;simp only[sH,↓sP,sA,tyS,simprocAttr,Int.natCast_nonneg,Int.ofNat_lt,hv2,hv3,hgx,hgy,hl1,hl2];(repeat refine AI ?_);refine hK' _ _ ?_;clear hK' K')
  refine bR (g:=none) rfl rfl fun K' hK'=>?_;simp (maxSteps:=4000000) only[sH,↓sP,sA,tyS,simprocAttr,Int.natCast_nonneg,Int.ofNat_lt,hv2,hv3,hgx,hgy,hl1,hl2];refine bH (args:=[_]) (uO (hX s i)) ⟨rfl,rfl,rfl,rfl⟩ ?_;rintro u rfl;repeat refine AI ?_
  refine hK' _ _ ?_;clear hK' K';refine bR (g:=none) rfl rfl fun K' hK'=>?_;simp (maxSteps:=4000000) only[sH,↓sP,sA,tyS,simprocAttr,Int.natCast_nonneg,Int.ofNat_lt,hv2,hv3,hgx,hgy,hl1,hl2];refine bH (args:=[_]) (uO (hY s i)) ⟨rfl,rfl,rfl,rfl⟩ ?_;rintro u rfl;repeat refine AI ?_
  refine hK' _ _ ?_;clear hK' K';iterate 2
   (refine bR (g:=none) rfl rfl fun K' hK'=>?_;simp only[sH,↓sP,sA,tyS,simprocAttr,Int.natCast_nonneg,Int.ofNat_lt,hv2,hv3,hgx,hgy,hl1,hl2];(repeat refine AI ?_);refine hK' _ _ ?_;clear hK' K')
  simp only[sE,↓reduceIte,simprocAttr];repeat refine AI ?_
  refine hK _ _ _ ?_;clear hK K;refine aD fun K hK=>?_;have hx:=aG1 (hX s i);have hy:=aG1 (hY s i);refine aD fun K hK=>aC (by kernel_rfl) ?_;simp only[sR,simprocAttr];iterate 3
   (refine aB (g:=none) rfl rfl fun K' hK'=>?_;simp only[sH,↓sP,sA,tyS,simprocAttr];(repeat refine AI ?_);refine hK' _ _ ?_;clear hK' K')
  refine bG 32 rfl (fun h8_32=>?_) (fun h8_32=>?_)
  ·
   iterate 2
    (refine aB (g:=some (33,false)) rfl rfl fun K' hK'=>?_;simp only[sH,↓sP,sA,tyS,simprocAttr,h8_32];(repeat refine AI ?_);refine hK' _ _ ?_;clear hK' K')
   refine aB (g:=none) rfl rfl fun K' hK'=>?_;simp (maxSteps:=4000000) only[sH,↓sP,sA,tyS,simprocAttr,h8_32];repeat refine AI ?_
   refine hK' _ _ ?_;clear hK' K';simp only[sE,↓reduceIte,simprocAttr];repeat refine AI ?_
   refine hK _ _ _ ?_;clear hK K;refine aQ (b:=true) rfl (fun hb=>?_) (fun hb=>?_)
   ·
    refine aD fun K hK=>aC (by kernel_rfl) ?_;simp (maxSteps:=4000000) only[↓sP,sA,tyS,simprocAttr];repeat refine AI ?_
    refine hK _ _ _ ?_;clear hK K;refine aT ?_;simp (maxSteps:=4000000) only[bA,Tryz.results43,aY,aZ,aX,↓sP,sA,tyS,simprocAttr];have hk:hOk s i=false:=by simp at h8_32;simp[hOk];omega
    have hv:cG s n=none:=by
     unfold cG;rw[if_neg];rintro⟨_,h⟩;have:=List.all_eq_true.1 h i (List.mem_range.2 hlt);rw[hk]at this;cases this
    refine aW [] (.slc []) (.bool false) ?_ ⟨by rw[hv];rfl,by rw[hv];rfl⟩;simp[HV.close,HV.closeL,CV.denil,CV.denilL,HV.norm,HV.toC,HV.toCL]
   cases hb
  iterate 2
   (refine aB (g:=some (33,false)) rfl rfl fun K' hK'=>?_;simp only[sH,↓sP,sA,tyS,simprocAttr,h8_32];(repeat refine AI ?_);refine hK' _ _ ?_;clear hK' K')
  refine aB (g:=none) rfl rfl fun K' hK'=>?_;simp (maxSteps:=4000000) only[sH,↓sP,sA,tyS,simprocAttr,h8_32];repeat refine AI ?_
  refine hK' _ _ ?_;clear hK' K';refine bG 35 rfl (fun h8_35=>?_) (fun h8_35=>?_)
  ·
   simp only[h8_35];simp only[sE,↓reduceIte,simprocAttr];repeat refine AI ?_
   refine hK _ _ _ ?_;clear hK K;refine aQ (b:=true) rfl (fun hb=>?_) (fun hb=>?_)
   ·
    refine aD fun K hK=>aC (by kernel_rfl) ?_;simp (maxSteps:=4000000) only[↓sP,sA,tyS,simprocAttr];repeat refine AI ?_
    refine hK _ _ _ ?_;clear hK K;refine aT ?_;simp (maxSteps:=4000000) only[bA,Tryz.results43,aY,aZ,aX,↓sP,sA,tyS,simprocAttr];have hk:hOk s i=false:=by simp at h8_35;simp[hOk];omega
    have hv:cG s n=none:=by
     unfold cG;rw[if_neg];rintro⟨_,h⟩;have:=List.all_eq_true.1 h i (List.mem_range.2 hlt);rw[hk]at this;cases this
    refine aW [] (.slc []) (.bool false) ?_ ⟨by rw[hv];rfl,by rw[hv];rfl⟩;simp[HV.close,HV.closeL,CV.denil,CV.denilL,HV.norm,HV.toC,HV.toCL]
   cases hb
  simp only[h8_35];simp only[sE,↓reduceIte,simprocAttr];repeat refine AI ?_
  refine hK _ _ _ ?_;clear hK K;refine aQ (b:=false) rfl (fun hb=>?_) (fun hb=>?_)
  · cases hb
  refine aV ?_;simp (maxSteps:=4000000) only[↓sP,sA,tyS,simprocAttr];repeat refine AI ?_
  refine hK _ _ _ ?_;clear hK K;have hx':valL (hX s i)<16:=by simp at h8_32;omega
  have hy':valL (hY s i)<16:=by simp at h8_35;omega
  have e1:IntKind.i64.wrap (16*((valL (hX s i):Nat):Int))=((16*valL (hX s i):Nat):Int):=by rw[IntWalk.i64_in _ (by omega)];omega
  have e2:IntKind.i64.wrap (((16*valL (hX s i):Nat):Int)+((valL (hY s i):Nat):Int))=((16*valL (hX s i)+valL (hY s i):Nat):Int):=by rw[IntWalk.i64_in _ (by omega)];omega
  have e3:IntKind.u8.wrap ((16*valL (hX s i)+valL (hY s i):Nat):Int)=((hB s i).toNat:Int):=by rw[IntWalk.u8_in _ (by omega),aU4 hx' hy']
  refine aC (by kernel_rfl) ?_;simp only[sR,simprocAttr];iterate 9
   (refine aB (g:=none) rfl rfl fun K' hK'=>?_;simp only[sH,↓sP,sA,tyS,simprocAttr,e1,e2,e3,Int.natCast_nonneg,List.length_append,List.length_map,hrl,h8_32,h8_35];(repeat refine AI ?_);refine hK' _ _ ?_;clear hK' K')
  simp only[sE,↓reduceIte,simprocAttr];repeat refine AI ?_
  refine hK _ _ _ ?_;clear hK K;refine aC (by kernel_rfl) ?_;simp (maxSteps:=4000000) only[↓sP,sA,tyS,simprocAttr,IntWalk.i64_in _ (show-9223372036854775808≤(i:Int)+1∧(i:Int)+1≤9223372036854775807 by omega)];have hok': ∀j,j<i+1→hOk s j=true:=fun j hj=>by
   rcases Nat.lt_or_ge j i with h|h
   · exact hok j h
   have:j=i:=by omega
   subst this;simp[hOk,hx',hy']
  refine⟨⟨i+1,hlt,hok'⟩,aS (by omega) ?_ ?_,?_⟩
  · simp[bK,upd_at,fin_at,HV.men]
  · simp only[bM,aV0,List.map_append,List.map_cons,List.map_nil];exact⟨rfl,by omega,trivial,trivial⟩
  show n-(i+1)<n-i;omega
 refine bW ?_;simp (maxSteps:=4000000) only[↓sP,sA,tyS,simprocAttr];clear hK K;repeat refine AI ?_
 refine hK _ _ _ ?_;clear hK K;refine aD fun K hK=>aC (by kernel_rfl) ?_;simp (maxSteps:=4000000) only[↓sP,sA,tyS,simprocAttr];repeat refine AI ?_
 refine hK _ _ _ ?_;clear hK K;refine aT ?_;simp (maxSteps:=4000000) only[bA,Tryz.results43,aY,aZ,aX,↓sP,sA,tyS,simprocAttr];have hin:i=n:=by simp at hb;omega
 subst hin;have hv:cG s i=some (hBs s i):=by
  unfold cG;rw[if_pos ⟨hlen,List.all_eq_true.2 fun j hj=>hok j (List.mem_range.1 hj)⟩];rfl
 refine aW [36] (.slc ((hBs s i).map u8)) (.bool true) ?_ ⟨by rw[hv];rfl,by rw[hv];rfl⟩;simp[HV.close,HV.closeL,upd_at,fob_at,HV.norm,HV.toC,HV.toCL,CV.denil,aG3,List.take_of_length_le]
def jI (n:Nat)(l:List UInt8)(i:Nat):List UInt8:=l.take i++List.replicate (n-i) 0
theorem aC1 (n:Nat)(l:List UInt8):jI n l 0=List.replicate n 0:=by simp[jI]
variable {i n:Nat}{l:List UInt8}
theorem aM8 (h:i≤l.length)(hl:l.length≤n):(jI n l i).length=n:=by simp[jI];omega
theorem aM9 (h:i<l.length)(hl:l.length≤n):(jI n l i).set i l[i]=jI n l (i+1):=by
 unfold jI;rw[List.set_append_right _ _ (by rw[List.length_take];exact Nat.min_le_left _ _),List.take_succ_eq_append_getElem h,show n-i=n-(i+1)+1 from by omega,List.replicate_succ,List.append_assoc];simp[Nat.min_eq_left (Nat.le_of_lt h)]
theorem aN0 (hl:l.length=n):jI n l l.length=l:=by subst hl;simp[jI]
theorem aN1 {s:aU}:((cG s n).getD []).length≤n:=by
 cases h:cG s n with
 |none=>simp
 |some l=>simp[fN h]
theorem mA (s:aU):eD Tryz.prog 25 [.str s] (fun u v=>u=dg ((dT s).getD zdg)∧v= .bool (dT s).isSome):=by
 refine bI Tryz.func25 rfl (by kernel_rfl) (bJ _) (Nat.le_of_ble_eq_true rfl) ?_;refine aD fun K hK=>aC (by kernel_rfl) ?_;simp (maxSteps:=4000000) only[↓sP,sA,tyS,simprocAttr];repeat refine AI ?_
 refine hK _ _ _ ?_;clear hK K;refine aD fun K hK=>aC (by kernel_rfl) ?_;simp (maxSteps:=4000000) only[↓sP,sA,tyS,simprocAttr];repeat refine AI ?_
 refine hK _ _ _ ?_;clear hK K;refine aD fun K hK=>?_;refine aD fun K hK=>aC (by kernel_rfl) ?_;simp only[sR,simprocAttr];iterate 4
  (refine aB (g:=none) rfl rfl fun K' hK'=>?_;simp only[sH,↓sP,sA,tyS,simprocAttr,List.drop_zero,Nat.sub_zero];(repeat refine AI ?_);refine hK' _ _ ?_;clear hK' K')
 refine bG 10 rfl (fun h2_10=>?_) (fun h2_10=>?_)
 ·
  iterate 3
   (refine aB (g:=some (11,false)) rfl rfl fun K' hK'=>?_;simp only[sH,↓sP,sA,tyS,simprocAttr,List.drop_zero,Nat.sub_zero,h2_10];(repeat refine AI ?_);refine hK' _ _ ?_;clear hK' K')
  refine aB (g:=none) rfl rfl fun K' hK'=>?_;simp (maxSteps:=4000000) only[sH,↓sP,sA,tyS,simprocAttr,List.drop_zero,Nat.sub_zero,h2_10];repeat refine AI ?_
  refine hK' _ _ ?_;clear hK' K';simp only[sE,↓reduceIte,simprocAttr];repeat refine AI ?_
  refine hK _ _ _ ?_;clear hK K;refine aQ (b:=true) rfl (fun hb=>?_) (fun hb=>?_)
  ·
   refine aD fun K hK=>aC (by kernel_rfl) ?_;simp (maxSteps:=4000000) only[↓sP,sA,tyS,simprocAttr];repeat refine AI ?_
   refine hK _ _ _ ?_;clear hK K;refine aT ?_;simp (maxSteps:=4000000) only[bA,Tryz.results25,aY,aZ,aX,↓sP,sA,tyS,simprocAttr];have hn:dT s=none:=iQ (fun _=>lZ (by simp at h2_10⊢;omega));refine aW [] zd (.bool false) rfl ⟨by rw[hn];rfl,by rw[hn];rfl⟩
  cases hb
 refine aB (g:=some (11,false)) rfl rfl fun K' hK'=>?_;simp (maxSteps:=4000000) only[sH,↓sP,sA,tyS,simprocAttr,List.drop_zero,Nat.sub_zero,h2_10];repeat refine AI ?_
 refine hK' _ _ ?_;clear hK' K';refine aB (g:=some (11,false)) rfl rfl fun K' hK'=>?_;simp (maxSteps:=4000000) only[sH,↓sP,sA,tyS,simprocAttr,List.drop_zero,Nat.sub_zero,h2_10];refine⟨by simp at h2_10;omega,?_⟩;repeat refine AI ?_
 refine hK' _ _ ?_;clear hK' K';refine aB (g:=some (11,false)) rfl rfl fun K' hK'=>?_;simp (maxSteps:=4000000) only[sH,↓sP,sA,tyS,simprocAttr,List.drop_zero,Nat.sub_zero,h2_10];repeat refine AI ?_
 refine hK' _ _ ?_;clear hK' K';refine aB (g:=none) rfl rfl fun K' hK'=>?_;simp (maxSteps:=4000000) only[sH,↓sP,sA,tyS,simprocAttr,List.drop_zero,Nat.sub_zero,h2_10];repeat refine AI ?_
 refine hK' _ _ ?_;clear hK' K';refine bG 14 rfl (fun h2_14=>?_) (fun h2_14=>?_)
 ·
  simp only[h2_14];simp only[sE,↓reduceIte,simprocAttr];repeat refine AI ?_
  refine hK _ _ _ ?_;clear hK K;refine aQ (b:=true) rfl (fun hb=>?_) (fun hb=>?_)
  ·
   refine aD fun K hK=>aC (by kernel_rfl) ?_;simp (maxSteps:=4000000) only[↓sP,sA,tyS,simprocAttr];repeat refine AI ?_
   refine hK _ _ _ ?_;clear hK K;refine aT ?_;simp (maxSteps:=4000000) only[bA,Tryz.results25,aY,aZ,aX,↓sP,sA,tyS,simprocAttr];have hn:dT s=none:=iQ (fun hp=>by
    unfold prefB at hp;simp only[Bool.and_eq_true]at hp;have:s.take 7=shaW:=eq_of_beq hp.2;rw[this]at h2_14;exact absurd h2_14 (by decide))
   refine aW [] zd (.bool false) rfl ⟨by rw[hn];rfl,by rw[hn];rfl⟩
  cases hb
 simp only[h2_14];simp only[sE,↓reduceIte,simprocAttr];repeat refine AI ?_
 refine hK _ _ _ ?_;clear hK K;refine aQ (b:=false) rfl (fun hb=>?_) (fun hb=>?_)
 · cases hb
 refine aV ?_;simp (maxSteps:=4000000) only[↓sP,sA,tyS,simprocAttr];repeat refine AI ?_
 refine hK _ _ _ ?_;clear hK K;have hs:s.length=71:=by simp at h2_10;omega
 have hp:prefB s shaW=true:=by
  unfold prefB;have e:s.take 7=shaW:=by simpa[shaW]using h2_14
  rw[show shaW.length=7 from rfl,e,hs];rfl
 have htd:List.take (s.length-7) (List.drop 7 s)=List.drop 7 s:=List.take_of_length_le (by simp);have h7:(7:Int)≤(s.length:Int):=by omega
 have h7':7≤s.length:=by omega
 refine aD fun K hK=>aC (by kernel_rfl) ?_;simp only[sR,simprocAttr];iterate 2
  (refine aB (g:=none) rfl rfl fun K' hK'=>?_;simp only[sH,↓sP,sA,tyS,simprocAttr,htd,h7,h7',Int.natCast_nonneg,Int.ofNat_le,h2_10,h2_14];(repeat refine AI ?_);refine hK' _ _ ?_;clear hK' K')
 refine aB (g:=none) rfl rfl fun K' hK'=>?_;simp (maxSteps:=4000000) only[sH,↓sP,sA,tyS,simprocAttr,htd,h7,h7',Int.natCast_nonneg,Int.ofNat_le,h2_10,h2_14];refine cD (args:=[_,_]) (aM7 (s.drop 7) 32 (by omega)) ⟨rfl,rfl,rfl,rfl⟩ ?_;rintro u v ⟨rfl,rfl⟩;repeat refine AI ?_
 refine hK' _ _ ?_;clear hK' K';iterate 5
  (refine aB (g:=none) rfl rfl fun K' hK'=>?_;simp only[sH,↓sP,sA,tyS,simprocAttr,htd,h7,h7',Int.natCast_nonneg,Int.ofNat_le,h2_10,h2_14];(repeat refine AI ?_);refine hK' _ _ ?_;clear hK' K')
 simp only[sE,↓reduceIte,simprocAttr];repeat refine AI ?_
 refine hK _ _ _ ?_;clear hK K;refine aD fun K hK=>?_;obtain⟨l,hl⟩: ∃l,l=(cG (s.drop 7) 32).getD []:=⟨_,rfl⟩;have hll:l.length≤32:=by rw[hl];exact aN1
 rw[←hl];refine aD fun K hK=>aC (by kernel_rfl) ?_;simp (maxSteps:=4000000) only[↓sP,sA,tyS,simprocAttr];repeat refine AI ?_
 refine hK _ _ _ ?_;clear hK K;refine bE ?_;refine cA (α:={i:Nat//i≤l.length}) (fun i=>(fin [(2,.ptr 0 0),(4,.ptr 8 0),(5,.c (.slc (l.map u8))),(6,.c (.bool (cG (s.drop 7) 32).isSome)),(7,.c (.int .i64 i.1))],fob [(0,.box 23 (.c zd)),(8,.box 23 (.c (us (jI 32 l i.1))))])) 200 (fun i=>l.length-i.1) ⟨0,by omega⟩ (aS (by omega) (by simp[bK,fin_at,finA_at,upd_at,HV.men,HV.menL,HV.norm,HV.toC,HV.toCL]) (by simp only[bM,fob_at,upd_at,none0_at,aC1];exact⟨rfl,by omega,trivial,rfl,by omega,trivial,trivial⟩)) ?_;rintro⟨i,hi⟩;have hA:=aM8 hi hll;refine aD fun K hK=>?_;refine aD fun K hK=>aC (by kernel_rfl) ?_;simp only[sR,simprocAttr];iterate 4
  (refine aB (g:=none) rfl rfl fun K' hK'=>?_;simp only[sH,↓sP,sA,tyS,simprocAttr,h2_10,h2_14];(repeat refine AI ?_);refine hK' _ _ ?_;clear hK' K')
 simp only[sE,↓reduceIte,simprocAttr];repeat refine AI ?_
 refine hK _ _ _ ?_;clear hK K;refine aQ (b:=decide ((i:Int)<l.length)) rfl (fun hb=>?_) (fun hb=>?_)
 ·
  have hlt:i<l.length:=by simpa using hb
  clear hb;have hset:=aY3 (l:=jI 32 l i) (i:=i) l[i] (by omega) (by omega);have hi16:(i:Int)<32:=by omega
  rw[aM9 hlt hll]at hset;refine aV ?_;simp (maxSteps:=4000000) only[↓sP,sA,tyS,simprocAttr];repeat refine AI ?_
  refine hK _ _ _ ?_;clear hK K;refine aD fun K hK=>?_;refine bE ?_;refine aC (by kernel_rfl) ?_;simp only[sR,simprocAttr];iterate 7
   (refine aB (g:=none) rfl rfl fun K' hK'=>?_;simp only[sH,↓sP,sA,tyS,simprocAttr,Int.natCast_nonneg,Int.ofNat_lt,hlt,bN hlt,u8,hset,vL,Nat.mul_one,hi16,h2_10,h2_14];(repeat refine AI ?_);refine hK' _ _ ?_;clear hK' K')
  simp only[sE,↓reduceIte,simprocAttr];repeat refine AI ?_
  refine hK _ _ _ ?_;clear hK K;refine aC (by kernel_rfl) ?_;simp (maxSteps:=4000000) only[↓sP,sA,tyS,simprocAttr,IntWalk.i64_in _ (show-9223372036854775808≤(i:Int)+1∧(i:Int)+1≤9223372036854775807 by omega)];refine⟨⟨i+1,hlt⟩,aS (by omega) (by simp[bK,fin_at,finA_at,upd_at,HV.men,HV.menL,HV.norm,HV.toC,HV.toCL]) (by simp[bM,fob_at,upd_at,none0_at,bY,HO.men,HV.men,HV.menL,HV.norm,HV.toC,HV.toCL]),?_⟩;show l.length-(i+1)<l.length-i;omega
 refine bW ?_;simp (maxSteps:=4000000) only[↓sP,sA,tyS,simprocAttr];clear hK K;repeat refine AI ?_
 refine hK _ _ _ ?_;clear hK K;have hil:i=l.length:=by simp at hb;omega
 subst hil;have hg:=bD7 hA;refine aD fun K hK=>aC (by kernel_rfl) ?_;simp only[sR,simprocAttr];iterate 4
  (refine aB (g:=none) rfl rfl fun K' hK'=>?_;simp only[sH,↓sP,sA,tyS,simprocAttr,dg_setAt,hg,h2_10,h2_14];(repeat refine AI ?_);refine hK' _ _ ?_;clear hK' K')
 simp only[sE,↓reduceIte,simprocAttr];repeat refine AI ?_
 refine hK _ _ _ ?_;clear hK K;refine aT ?_;simp (maxSteps:=4000000) only[bA,Tryz.results25,aY,aZ,aX,↓sP,sA,tyS,simprocAttr];rw[hg];simp only[Option.map_some];cases hv:cG (s.drop 7) 32 with
 |none=>
  rw[hv]at hl;subst hl;rw[iQ fun _=>hv];exact aW [] zd (.bool false) rfl ⟨rfl,rfl⟩
 |some m=>
  rw[hv]at hl;obtain rfl:m=l:=hl.symm;have hm:=fN hv;rw[oS hp hv hm];refine aW [] (dg (⟨m,hm⟩:Dig)) (.bool true) ?_ ?_
  rotate_left
  · exact⟨rfl,rfl⟩
  rw[show us (jI 32 m m.length)=dg (⟨m,hm⟩:Dig)from by rw[aN0 hm];rfl];simp[HV.close,HV.closeL,HV.norm,HV.toC,HV.toCL,CV.denil,dg_denil]
end Go.Proofs.YtflnfidkociekaaGreatDoor
namespace Go.Pl
open Go Go.Hl
def aC2 (j:Nat):aU:=([[113,117,111,116,97],[107,101,121],[114,101,118,111,107,101,100]]:List aU).getD j []
def aN2 (j:Nat)(l:List aU)(x:Rt):Option Rt:=if j=0 then aU8 l x else if j=1 then bH5 l x else bH6 l x
def yQ (j:Nat):List (List aU)→Rt→Option (List (List aU)×Rt)
  |[],x=>some ([],x)
  |l::ls,x=>if wd l 0=aC2 j then match aN2 j l x with|some y=>yQ j ls y|none=>none else some (l::ls,x)
def oT :Nat→Nat→List (List aU)→Rt→Option (List (List aU)×Rt)
  |0,_,ls,x=>some (ls,x)
  |n+1,j,ls,x=>match yQ j ls x with|some (ls',y)=>oT n (j+1) ls' y|none=>none
section
variable {l0:List aU}{ls:List (List aU)}{x:Rt}
end
variable {x:Rt}{ls:List (List aU)}{j:Nat}
theorem aV1 {l:List aU}{y:Rt}(h:wd l 0=aC2 j)(hy:aN2 j l x=some y):yQ j (l::ls) x=yQ j ls y:=by
  rw[yQ,if_pos h,hy]
theorem aN3 {l:List aU}(h:wd l 0≠aC2 j):yQ j (l::ls) x=some (l::ls,x):=by
  rw[yQ,if_neg h]
variable {n:Nat}
theorem aV2 {l:List aU}{y:Rt}(h:wd l 0=aC2 j)(hy:aN2 j l x=some y):oT (n+1) j (l::ls) x=oT (n+1) j ls y:=by grind[oT,aV1]
theorem aN4 {l:List aU}(h:wd l 0≠aC2 j):oT (n+1) j (l::ls) x=oT n (j+1) (l::ls) x:=by
  simp only[oT,aN3 h]
theorem aV3 :oT (n+1) j [] x=oT n (j+1) [] x:=by
  simp only[oT,yQ]
def wOk (l:List aU):Prop:=l≠[]∧l.length≤120∧ ∀w∈l,w.length≤32768
variable {l:List aU}
theorem wOk.wd (h:wOk l)(i:Nat):(wd l i).length≤32768:=by
  unfold Pl.wd;rw[List.getD_eq_getElem?_getD];rcases Nat.lt_or_ge i l.length with h'|h'
  · rw[List.getElem?_eq_getElem h'];exact h.2.2 _ (List.getElem_mem h')
  grind
def rRead (m:Nat)(x:Rt):Prop:=x.q.length+x.k.length+x.x.length≤m∧(∀q∈x.q,q.r.length≤32768)∧ ∀k∈x.k,k.o.length≤32768∧k.rs.length≤120∧ ∀w∈k.rs,w.length≤32768
variable {m:Nat}
theorem aN5 {y:Rt}(hl:wOk l)(h:aN2 j l x=some y)(hx:rRead m x):rRead (m+1) y:=by
  obtain⟨h1,h2,h3⟩:=hx;unfold aN2 at h;split at h
  · unfold aU8 at h
    split at h
    · split at h
      · cases h
        refine⟨by grind,fun q hq=>?_,h3⟩;rcases List.mem_append.1 hq with hq|hq
        · grind
        · simp only[List.mem_singleton]at hq;subst hq;exact hl.wd 1
      grind
    grind
  · split at h
    · unfold bH5 at h
      split at h
      · cases h
      · split at h
        · cases h
          refine⟨by grind,h2,fun k hk=>?_⟩;rcases List.mem_append.1 hk with hk|hk
          · exact h3 k hk
          · simp only[List.mem_singleton]at hk;subst hk
            exact⟨hl.wd 3,by show(l.drop 6).length≤120;rw[List.length_drop];have:=hl.2.1;omega,fun w hw=>hl.2.2 w (List.mem_of_mem_drop hw)⟩
        grind
    · unfold bH6 at h
      split at h
      · split at h
        · cases h
          exact⟨by grind,h2,h3⟩
        grind
      grind
theorem rRead.sz (h:rRead m x)(hm:m≤100000):rSz x:=by
  obtain⟨h1,h2,h3⟩:=h;refine⟨⟨by omega,fun q hq=>by grind⟩,⟨by omega,fun k hk=>?_⟩,by omega⟩;obtain⟨k1,k2,k3⟩:=h3 k hk;exact⟨by omega,by omega,fun w hw=>by grind⟩
def RtSt (ls0:List (List aU))(x0:Rt)(j:Nat)(rest:List (List aU))(x:Rt):Prop:=
  j≤3∧oT 3 0 ls0 x0=oT (3-j) j rest x∧(∀l∈rest,wOk l)∧rest.length≤ls0.length∧rRead (ls0.length-rest.length) x
section
variable {ls0 rest:List (List aU)}{x0 x:Rt}{j:Nat}{l:List aU}
theorem RtSt.init (h: ∀l∈ls0,wOk l)(hx:rRead 0 x0):RtSt ls0 x0 0 ls0 x0:=⟨by omega,rfl,h,Nat.le_refl _,by grind⟩
theorem RtSt.hit {y:Rt}(h:RtSt ls0 x0 j (l::rest) x)(hj:j<3)(hw:wd l 0=aC2 j)(hy:aN2 j l x=some y):RtSt ls0 x0 j rest y:=by
  obtain⟨h1,h2,h3,h4,h5⟩:=h;obtain⟨n,hn⟩: ∃n,3-j=n+1:=⟨2-j,by omega⟩;simp only[List.length_cons]at h4 h5;refine⟨h1,by rw[h2,hn,aV2 hw hy],fun l hl=>h3 l (List.mem_cons_of_mem _ hl),by omega,?_⟩;have:=aN5 (h3 l List.mem_cons_self) hy h5;grind
theorem RtSt.next (h:RtSt ls0 x0 j rest x)(hj:j<3)(hw: ∀l ls,rest=l::ls→wd l 0≠aC2 j):RtSt ls0 x0 (j+1) rest x:=by
  obtain⟨h1,h2,h3,h4,h5⟩:=h;obtain⟨n,hn⟩: ∃n,3-j=n+1:=⟨2-j,by omega⟩;have hn2:3-(j+1)=n:=by omega
  refine⟨by omega,?_,h3,h4,h5⟩;rw[h2,hn,hn2];cases rest with
  |nil=>exact aV3
  |cons l ls=>exact aN4 (hw l ls rfl)
theorem RtSt.fin (h:RtSt ls0 x0 3 rest x):oT 3 0 ls0 x0=some (rest,x):=by rw[h.2.1];rfl
end
theorem bA6 {b:aU}: ∀l∈fS b,wOk l:=by
  intro l hl;unfold fS at hl;split at hl
  · cases hv:fF b with
    |none=>grind
    |some ls=>
      rw[hv]at hl;simp only[Option.getD_some]at hl;unfold fF at hv;split at hv
      · grind
      · split at hv
        · have key: ∀{rs:List aU} {ls:List (List aU)},rs.mapM unR=some ls→ ∀l∈ls,okL l=true:=by
            intro rs;induction rs with
            |nil=>grind
            |cons r rs ih=>
              intro ls h l hl;rw[List.mapM_cons]at h;cases hr:unR r with
              |none=>grind
              |some a=>
                rw[hr]at h;cases hm:rs.mapM unR with
                |none=>grind
                |some m=>
                  rw[hm]at h;cases h;rcases List.mem_cons.1 hl with rfl|hl
                  · unfold unR at hr
                    split at hr
                    · split at hr
                      · rename_i hk;cases hr;exact hk
                      · cases hr
                    · cases hr
                  · exact ih hm l hl
          exact(gU l).1 (key hv l hl)
        grind
  grind
end Go.Pl
