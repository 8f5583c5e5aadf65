/- Part of a proof: walks of functions of the program, by contracts, and the rules they use. By an AI agent. -/
import Derived.Test.YtflnfidkociekaaGreatDoorHeV3
import Derived.Test.YtflnfidkociekaaGreatDoorHlTab
import Derived.Test.YtflnfidkociekaaGreatDoorPl02g
set_option linter.unusedSimpArgs false
set_option linter.unusedVariables false
set_option linter.defProp false
namespace Go.Proofs.YtflnfidkociekaaGreatDoor
open Go Go.Hl Go.Pl
set_option maxRecDepth 10000
set_option maxHeartbeats 2000000
theorem aZ7 (s:aU):eD Tryz.prog 23 [.str s] (fun u v=>u= .int .i64 ((eY s).getD 0)∧v= .bool (eY s).isSome):=by
 refine bI Tryz.func23 rfl (by kernel_rfl) (bJ _) (Nat.le_of_ble_eq_true rfl) ?_;refine aD fun K hK=>aC (by kernel_rfl) ?_;simp (maxSteps:=4000000) only[↓sP,sA,tyS,simprocAttr];repeat refine AI ?_
 refine hK _ _ _ ?_;clear hK K;refine aD fun K hK=>?_;have key: ∀fr ob nx,dW s=false→Fits 0 fr ob (fin [(0,.c (.str s))]) (fob []) 100→K fr ob nx:=by
  intro fr ob nx hbad hf;refine hK _ _ _ (cN hf ?_);clear hf hK K;have hlen:s.length≤13:=by
   simp only[dW,Bool.or_eq_false_iff,decide_eq_false_iff_not]at hbad;omega
  refine aD fun K hK=>aC (by kernel_rfl) ?_;simp (maxSteps:=4000000) only[↓sP,sA,tyS,simprocAttr];repeat refine AI ?_
  refine hK _ _ _ ?_;clear hK K;refine aD fun K hK=>?_;refine aD fun K hK=>aC (by kernel_rfl) ?_;simp (maxSteps:=4000000) only[↓sP,sA,tyS,simprocAttr];repeat refine AI ?_
  refine hK _ _ _ ?_;clear hK K;refine bE ?_;refine cA (α:={y:Nat×Nat//DgSt s y.1 y.2}) (fun y=>(fin [(0,.c (.str s)),(4,.c (.int .i64 y.1.2)),(5,.c (.int .i64 y.1.1))],fob [])) 200 (fun y=>s.length-y.1.1) ⟨(0,0),DgSt.init s⟩ (aS (by omega) (by simp[bK,fin_at,finA_at,upd_at,HV.men,HV.menL,HV.norm,HV.toC,HV.toCL]) (by simp[bM,fob_at,upd_at,none0_at,bY,HO.men,HV.men,HV.menL,HV.norm,HV.toC,HV.toCL])) ?_;rintro⟨⟨i,n⟩,hst⟩;simp only at hst;have hi:=hst.1;have hnl:=hst.lt hlen;refine aD fun K hK=>?_;refine aD fun K hK=>aC (by kernel_rfl) ?_;simp only[sR,simprocAttr];iterate 4
   (refine aB (g:=none) rfl rfl fun K' hK'=>?_;simp only[sH,↓sP,sA,tyS,simprocAttr];(repeat refine AI ?_);refine hK' _ _ ?_;clear hK' K')
  simp only[sE,↓reduceIte,simprocAttr];repeat refine AI ?_
  refine hK _ _ _ ?_;clear hK K;refine aQ (b:=decide ((i:Int)<s.length)) rfl (fun hb=>?_) (fun hb=>?_)
  ·
   have hlt:i<s.length:=by simpa using hb
   clear hb;have hgd:s.getD i 0=s[i]:=by simp[hlt]
   have hdi:=yJ s[i];refine aV ?_;simp (maxSteps:=4000000) only[↓sP,sA,tyS,simprocAttr];repeat refine AI ?_
   refine hK _ _ _ ?_;clear hK K;refine aD fun K hK=>?_;refine bE ?_;refine aD fun K hK=>?_;have key2: ∀fr ob nx,gP s[i]=true→Fits 0 fr ob (fin [(0,.c (.str s)),(4,.c (.int .i64 n)),(5,.c (.int .i64 i))]) (fob []) 300→K fr ob nx:=by
    intro fr ob nx hd hf;refine hK _ _ _ (cN hf ?_);clear hf hK K;have hd2:48≤s[i].toNat∧s[i].toNat≤57:=by simpa[gP]using hd
    have e1:IntKind.i64.wrap (10*(n:Int))=((10*n:Nat):Int):=by rw[IntWalk.i64_in _ (by omega)];omega
    have e2:IntKind.u8.wrap ((s[i].toNat:Int)-48)=((s[i].toNat-48:Nat):Int):=by rw[IntWalk.u8_in _ (by omega)];omega
    have e3:IntKind.i64.wrap ((s[i].toNat-48:Nat):Int)=((s[i].toNat-48:Nat):Int):=by rw[IntWalk.i64_in _ (by omega)]
    have e4:IntKind.i64.wrap (((10*n:Nat):Int)+((s[i].toNat-48:Nat):Int))=((10*n+(s[i].toNat-48):Nat):Int):=by rw[IntWalk.i64_in _ (by omega)];omega
    refine aC (by kernel_rfl) ?_;simp only[sR,simprocAttr];iterate 9
     (refine aB (g:=none) rfl rfl fun K' hK'=>?_;simp only[sH,↓sP,sA,tyS,simprocAttr,Int.natCast_nonneg,Int.ofNat_lt,hlt,hgd,e1,e2,e3,e4];(repeat refine AI ?_);refine hK' _ _ ?_;clear hK' K')
    simp only[sE,↓reduceIte,simprocAttr];repeat refine AI ?_
    refine hK _ _ _ ?_;clear hK K;refine aC (by kernel_rfl) ?_;simp (maxSteps:=4000000) only[↓sP,sA,tyS,simprocAttr,IntWalk.i64_in _ (show-9223372036854775808≤(i:Int)+1∧(i:Int)+1≤9223372036854775807 by omega)];refine⟨⟨(i+1,10*n+(s[i].toNat-48)),hst.next hlt hd⟩,aS (by omega) (by simp[bK,fin_at,finA_at,upd_at,HV.men,HV.menL,HV.norm,HV.toC,HV.toCL]) (by simp[bM,fob_at,upd_at,none0_at,bY,HO.men,HV.men,HV.menL,HV.norm,HV.toC,HV.toCL]),?_⟩;show s.length-(i+1)<s.length-i;omega
   refine aD fun K hK=>aC (by kernel_rfl) ?_;simp only[sR,simprocAttr];iterate 5
    (refine aB (g:=none) rfl rfl fun K' hK'=>?_;simp only[sH,↓sP,sA,tyS,simprocAttr,Int.natCast_nonneg,Int.ofNat_lt,hlt,hgd];(repeat refine AI ?_);refine hK' _ _ ?_;clear hK' K')
   refine bG 33 rfl (fun h7_33=>?_) (fun h7_33=>?_)
   ·
    iterate 4
     (refine aB (g:=some (34,false)) rfl rfl fun K' hK'=>?_;simp only[sH,↓sP,sA,tyS,simprocAttr,Int.natCast_nonneg,Int.ofNat_lt,hlt,hgd,h7_33];(repeat refine AI ?_);refine hK' _ _ ?_;clear hK' K')
    refine aB (g:=none) rfl rfl fun K' hK'=>?_;simp (maxSteps:=4000000) only[sH,↓sP,sA,tyS,simprocAttr,Int.natCast_nonneg,Int.ofNat_lt,hlt,hgd,h7_33];repeat refine AI ?_
    refine hK' _ _ ?_;clear hK' K';simp only[sE,↓reduceIte,simprocAttr];repeat refine AI ?_
    refine hK _ _ _ ?_;clear hK K;refine aQ (b:=true) rfl (fun hb=>?_) (fun hb=>?_)
    ·
     refine aD fun K hK=>aC (by kernel_rfl) ?_;simp (maxSteps:=4000000) only[↓sP,sA,tyS,simprocAttr];repeat refine AI ?_
     refine hK _ _ _ ?_;clear hK K;refine aT ?_;simp (maxSteps:=4000000) only[bA,Tryz.results23,aY,aZ,aX,↓sP,sA,tyS,simprocAttr];have hd:gP s[i]=false:=by simp only[gP,Bool.and_eq_false_iff,decide_eq_false_iff_not];simp at h7_33;omega
     have hn:=kZ (hst.bad hlt hd);exact aW [] (.int .i64 0) (.bool false) rfl ⟨by rw[hn];rfl,by rw[hn];rfl⟩
    cases hb
   iterate 4
    (refine aB (g:=some (34,false)) rfl rfl fun K' hK'=>?_;simp only[sH,↓sP,sA,tyS,simprocAttr,Int.natCast_nonneg,Int.ofNat_lt,hlt,hgd,h7_33];(repeat refine AI ?_);refine hK' _ _ ?_;clear hK' K')
   refine aB (g:=none) rfl rfl fun K' hK'=>?_;simp (maxSteps:=4000000) only[sH,↓sP,sA,tyS,simprocAttr,Int.natCast_nonneg,Int.ofNat_lt,hlt,hgd,h7_33];repeat refine AI ?_
   refine hK' _ _ ?_;clear hK' K';refine bG 38 rfl (fun h7_38=>?_) (fun h7_38=>?_)
   ·
    simp only[h7_38];simp only[sE,↓reduceIte,simprocAttr];repeat refine AI ?_
    refine hK _ _ _ ?_;clear hK K;refine aQ (b:=true) rfl (fun hb=>?_) (fun hb=>?_)
    ·
     refine aD fun K hK=>aC (by kernel_rfl) ?_;simp (maxSteps:=4000000) only[↓sP,sA,tyS,simprocAttr];repeat refine AI ?_
     refine hK _ _ _ ?_;clear hK K;refine aT ?_;simp (maxSteps:=4000000) only[bA,Tryz.results23,aY,aZ,aX,↓sP,sA,tyS,simprocAttr];have hd:gP s[i]=false:=by simp only[gP,Bool.and_eq_false_iff,decide_eq_false_iff_not];simp at h7_38;omega
     have hn:=kZ (hst.bad hlt hd);exact aW [] (.int .i64 0) (.bool false) rfl ⟨by rw[hn];rfl,by rw[hn];rfl⟩
    cases hb
   simp only[h7_38];simp only[sE,↓reduceIte,simprocAttr];repeat refine AI ?_
   refine hK _ _ _ ?_;clear hK K;refine aQ (b:=false) rfl (fun hb=>?_) (fun hb=>?_)
   · cases hb
   refine aV ?_;simp (maxSteps:=4000000) only[↓sP,sA,tyS,simprocAttr];exact key2 _ _ _ (by simp only[gP,Bool.and_eq_true,decide_eq_true_eq];simp at h7_33 h7_38;omega) (aS (by omega) (by simp[bK,fin_at,finA_at,upd_at,HV.men,HV.menL,HV.norm,HV.toC,HV.toCL]) (by simp[bM,fob_at,upd_at,none0_at,bY,HO.men,HV.men,HV.menL,HV.norm,HV.toC,HV.toCL]))
  refine bW ?_;simp (maxSteps:=4000000) only[↓sP,sA,tyS,simprocAttr];clear hK K;repeat refine AI ?_
  refine hK _ _ _ ?_;clear hK K;refine aD fun K hK=>?_;have hfin:=hst.fin (by simp at hb;omega);clear hb;refine aD fun K hK=>aC (by kernel_rfl) ?_;simp (maxSteps:=4000000) only[↓sP,sA,tyS,simprocAttr];repeat refine AI ?_
  refine hK _ _ _ ?_;clear hK K;refine aQ (b:=decide ((1099511627776:Int)<(n:Int))) rfl (fun hb=>?_) (fun hb=>?_)
  ·
   refine aD fun K hK=>aC (by kernel_rfl) ?_;simp (maxSteps:=4000000) only[↓sP,sA,tyS,simprocAttr];repeat refine AI ?_
   refine hK _ _ _ ?_;clear hK K;refine aT ?_;simp (maxSteps:=4000000) only[bA,Tryz.results23,aY,aZ,aX,↓sP,sA,tyS,simprocAttr];have hn:=yI hfin (by simp at hb;omega);exact aW [] (.int .i64 0) (.bool false) rfl ⟨by rw[hn];rfl,by rw[hn];rfl⟩
  refine aV ?_;simp (maxSteps:=4000000) only[↓sP,sA,tyS,simprocAttr];repeat refine AI ?_
  refine hK _ _ _ ?_;clear hK K;refine aD fun K hK=>aC (by kernel_rfl) ?_;simp (maxSteps:=4000000) only[↓sP,sA,tyS,simprocAttr];repeat refine AI ?_
  refine hK _ _ _ ?_;clear hK K;refine aT ?_;simp (maxSteps:=4000000) only[bA,Tryz.results23,aY,aZ,aX,↓sP,sA,tyS,simprocAttr];have hn:=wD hbad hfin (by simp at hb;omega);exact aW [] (.int .i64 n) (.bool true) rfl ⟨by rw[hn];rfl,by rw[hn];rfl⟩
 refine aD fun K hK=>aC (by kernel_rfl) ?_;simp only[sR,simprocAttr];iterate 4
  (refine aB (g:=none) rfl rfl fun K' hK'=>?_;simp only[sH,↓sP,sA,tyS,simprocAttr];(repeat refine AI ?_);refine hK' _ _ ?_;clear hK' K')
 refine bG 8 rfl (fun h1_8=>?_) (fun h1_8=>?_)
 ·
  iterate 3
   (refine aB (g:=some (9,false)) rfl rfl fun K' hK'=>?_;simp only[sH,↓sP,sA,tyS,simprocAttr,h1_8];(repeat refine AI ?_);refine hK' _ _ ?_;clear hK' K')
  iterate 2
   (refine aB (g:=none) rfl rfl fun K' hK'=>?_;simp only[sH,↓sP,sA,tyS,simprocAttr,h1_8];(repeat refine AI ?_);refine hK' _ _ ?_;clear hK' K')
  iterate 4
   (refine aB (g:=some (14,false)) rfl rfl fun K' hK'=>?_;simp only[sH,↓sP,sA,tyS,simprocAttr,h1_8];(repeat refine AI ?_);refine hK' _ _ ?_;clear hK' K')
  iterate 3
   (refine aB (g:=some (18,true)) rfl rfl fun K' hK'=>?_;simp only[sH,↓sP,sA,tyS,simprocAttr,h1_8];(repeat refine AI ?_);refine hK' _ _ ?_;clear hK' K')
  refine aB (g:=some (14,false)) rfl rfl fun K' hK'=>?_;simp (maxSteps:=4000000) only[sH,↓sP,sA,tyS,simprocAttr,h1_8];repeat refine AI ?_
  refine hK' _ _ ?_;clear hK' K';refine aB (g:=none) rfl rfl fun K' hK'=>?_;simp (maxSteps:=4000000) only[sH,↓sP,sA,tyS,simprocAttr,h1_8];repeat refine AI ?_
  refine hK' _ _ ?_;clear hK' K';simp only[sE,↓reduceIte,simprocAttr];repeat refine AI ?_
  refine hK _ _ _ ?_;clear hK K;refine aQ (b:=true) rfl (fun hb=>?_) (fun hb=>?_)
  ·
   refine aD fun K hK=>aC (by kernel_rfl) ?_;simp (maxSteps:=4000000) only[↓sP,sA,tyS,simprocAttr];repeat refine AI ?_
   refine hK _ _ _ ?_;clear hK K;refine aT ?_;simp (maxSteps:=4000000) only[bA,Tryz.results23,aY,aZ,aX,↓sP,sA,tyS,simprocAttr];have hn:eY s=none:=kJ (by simp only[dW,Bool.or_eq_true,decide_eq_true_eq];simp at h1_8;left;left;omega);exact aW [] (.int .i64 0) (.bool false) rfl ⟨by rw[hn];rfl,by rw[hn];rfl⟩
  cases hb
 iterate 3
  (refine aB (g:=some (9,false)) rfl rfl fun K' hK'=>?_;simp only[sH,↓sP,sA,tyS,simprocAttr,h1_8];(repeat refine AI ?_);refine hK' _ _ ?_;clear hK' K')
 iterate 2
  (refine aB (g:=none) rfl rfl fun K' hK'=>?_;simp only[sH,↓sP,sA,tyS,simprocAttr,h1_8];(repeat refine AI ?_);refine hK' _ _ ?_;clear hK' K')
 refine bG 12 rfl (fun h1_12=>?_) (fun h1_12=>?_)
 ·
  iterate 4
   (refine aB (g:=some (14,false)) rfl rfl fun K' hK'=>?_;simp only[sH,↓sP,sA,tyS,simprocAttr,h1_8,h1_12];(repeat refine AI ?_);refine hK' _ _ ?_;clear hK' K')
  iterate 3
   (refine aB (g:=some (18,true)) rfl rfl fun K' hK'=>?_;simp only[sH,↓sP,sA,tyS,simprocAttr,h1_8,h1_12];(repeat refine AI ?_);refine hK' _ _ ?_;clear hK' K')
  refine aB (g:=some (14,false)) rfl rfl fun K' hK'=>?_;simp (maxSteps:=4000000) only[sH,↓sP,sA,tyS,simprocAttr,h1_8,h1_12];repeat refine AI ?_
  refine hK' _ _ ?_;clear hK' K';refine aB (g:=none) rfl rfl fun K' hK'=>?_;simp (maxSteps:=4000000) only[sH,↓sP,sA,tyS,simprocAttr,h1_8,h1_12];repeat refine AI ?_
  refine hK' _ _ ?_;clear hK' K';simp only[sE,↓reduceIte,simprocAttr];repeat refine AI ?_
  refine hK _ _ _ ?_;clear hK K;refine aQ (b:=true) rfl (fun hb=>?_) (fun hb=>?_)
  ·
   refine aD fun K hK=>aC (by kernel_rfl) ?_;simp (maxSteps:=4000000) only[↓sP,sA,tyS,simprocAttr];repeat refine AI ?_
   refine hK _ _ _ ?_;clear hK K;refine aT ?_;simp (maxSteps:=4000000) only[bA,Tryz.results23,aY,aZ,aX,↓sP,sA,tyS,simprocAttr];have hn:eY s=none:=kJ (by simp only[dW,Bool.or_eq_true,decide_eq_true_eq];simp at h1_12;left;right;omega);exact aW [] (.int .i64 0) (.bool false) rfl ⟨by rw[hn];rfl,by rw[hn];rfl⟩
  cases hb
 iterate 4
  (refine aB (g:=some (14,false)) rfl rfl fun K' hK'=>?_;simp only[sH,↓sP,sA,tyS,simprocAttr,h1_8,h1_12];(repeat refine AI ?_);refine hK' _ _ ?_;clear hK' K')
 refine bG 17 rfl (fun h1_17=>?_) (fun h1_17=>?_)
 ·
  refine aB (g:=some (18,true)) rfl rfl fun K' hK'=>?_;simp (maxSteps:=4000000) only[sH,↓sP,sA,tyS,simprocAttr,h1_8,h1_12,h1_17];repeat refine AI ?_
  refine hK' _ _ ?_;clear hK' K';refine aB (g:=some (18,true)) rfl rfl fun K' hK'=>?_;simp (maxSteps:=4000000) only[sH,↓sP,sA,tyS,simprocAttr,h1_8,h1_12,h1_17];refine⟨by simp at h1_17;omega,?_⟩;repeat refine AI ?_
  refine hK' _ _ ?_;clear hK' K';refine aB (g:=some (18,true)) rfl rfl fun K' hK'=>?_;simp (maxSteps:=4000000) only[sH,↓sP,sA,tyS,simprocAttr,h1_8,h1_12,h1_17];repeat refine AI ?_
  refine hK' _ _ ?_;clear hK' K';refine aB (g:=some (14,false)) rfl rfl fun K' hK'=>?_;simp (maxSteps:=4000000) only[sH,↓sP,sA,tyS,simprocAttr,h1_8,h1_12,h1_17];repeat refine AI ?_
  refine hK' _ _ ?_;clear hK' K';refine aB (g:=none) rfl rfl fun K' hK'=>?_;simp (maxSteps:=4000000) only[sH,↓sP,sA,tyS,simprocAttr,h1_8,h1_12,h1_17];repeat refine AI ?_
  refine hK' _ _ ?_;clear hK' K';refine bG 21 rfl (fun h1_21=>?_) (fun h1_21=>?_)
  ·
   simp only[h1_21];simp only[sE,↓reduceIte,simprocAttr];repeat refine AI ?_
   refine hK _ _ _ ?_;clear hK K;refine aQ (b:=true) rfl (fun hb=>?_) (fun hb=>?_)
   ·
    refine aD fun K hK=>aC (by kernel_rfl) ?_;simp (maxSteps:=4000000) only[↓sP,sA,tyS,simprocAttr];repeat refine AI ?_
    refine hK _ _ _ ?_;clear hK K;refine aT ?_;simp (maxSteps:=4000000) only[bA,Tryz.results23,aY,aZ,aX,↓sP,sA,tyS,simprocAttr];have hn:eY s=none:=kJ (by
     simp only[dW,Bool.or_eq_true,Bool.and_eq_true,decide_eq_true_eq,beq_iff_eq];right;refine⟨by simp at h1_17;omega,UInt8.toNat_inj.1 ?_⟩;simp only[beq_iff_eq]at h1_21;show(s.getD 0 0).toNat=48;omega)
    exact aW [] (.int .i64 0) (.bool false) rfl ⟨by rw[hn];rfl,by rw[hn];rfl⟩
   cases hb
  simp only[h1_21];simp only[sE,↓reduceIte,simprocAttr];repeat refine AI ?_
  refine hK _ _ _ ?_;clear hK K;refine aQ (b:=false) rfl (fun hb=>?_) (fun hb=>?_)
  · cases hb
  refine aV ?_;simp (maxSteps:=4000000) only[↓sP,sA,tyS,simprocAttr];refine key _ _ _ ?_ (aS (by omega) (by simp[bK,fin_at,finA_at,upd_at,HV.men,HV.menL,HV.norm,HV.toC,HV.toCL]) (by simp[bM,fob_at,upd_at,none0_at,bY,HO.men,HV.men,HV.menL,HV.norm,HV.toC,HV.toCL]));simp only[dW,Bool.or_eq_false_iff,Bool.and_eq_false_iff,decide_eq_false_iff_not,beq_eq_false_iff_ne,ne_eq];simp only[decide_eq_false_iff_not,decide_eq_true_eq]at h1_8 h1_12;refine⟨⟨by omega,by omega⟩,?_⟩;first
   |(right;intro h0;rw[h0]at h1_21;simp at h1_21)
   |(left;simp at h1_17;omega)
 iterate 3
  (refine aB (g:=some (18,true)) rfl rfl fun K' hK'=>?_;simp only[sH,↓sP,sA,tyS,simprocAttr,h1_8,h1_12,h1_17];(repeat refine AI ?_);refine hK' _ _ ?_;clear hK' K')
 refine aB (g:=some (14,false)) rfl rfl fun K' hK'=>?_;simp (maxSteps:=4000000) only[sH,↓sP,sA,tyS,simprocAttr,h1_8,h1_12,h1_17];repeat refine AI ?_
 refine hK' _ _ ?_;clear hK' K';refine aB (g:=none) rfl rfl fun K' hK'=>?_;simp (maxSteps:=4000000) only[sH,↓sP,sA,tyS,simprocAttr,h1_8,h1_12,h1_17];repeat refine AI ?_
 refine hK' _ _ ?_;clear hK' K';simp only[sE,↓reduceIte,simprocAttr];repeat refine AI ?_
 refine hK _ _ _ ?_;clear hK K;refine aQ (b:=false) rfl (fun hb=>?_) (fun hb=>?_)
 · cases hb
 refine aV ?_;simp (maxSteps:=4000000) only[↓sP,sA,tyS,simprocAttr];refine key _ _ _ ?_ (aS (by omega) (by simp[bK,fin_at,finA_at,upd_at,HV.men,HV.menL,HV.norm,HV.toC,HV.toCL]) (by simp[bM,fob_at,upd_at,none0_at,bY,HO.men,HV.men,HV.menL,HV.norm,HV.toC,HV.toCL]));simp only[dW,Bool.or_eq_false_iff,Bool.and_eq_false_iff,decide_eq_false_iff_not,beq_eq_false_iff_ne,ne_eq];simp only[decide_eq_false_iff_not,decide_eq_true_eq]at h1_8 h1_12;refine⟨⟨by omega,by omega⟩,?_⟩;first
  |(right;intro h0;rw[h0]at h1_21;simp at h1_21)
  |(left;simp at h1_17;omega)
theorem aT5 (s:aU):eD Tryz.prog 26 [.str s] (fun u v=>u= .int .i64 ((eY s).getD 0)∧v= .bool (eY s).isSome):=by
 refine bI Tryz.func26 rfl (by kernel_rfl) (bJ _) (Nat.le_of_ble_eq_true rfl) ?_;refine aD fun K hK=>aC (by kernel_rfl) ?_;simp (maxSteps:=4000000) only[↓sP,sA,tyS,simprocAttr];repeat refine AI ?_
 refine hK _ _ _ ?_;clear hK K;refine aD fun K hK=>?_;have key: ∀fr ob nx,dW s=false→Fits 0 fr ob (fin [(0,.c (.str s))]) (fob []) 100→K fr ob nx:=by
  intro fr ob nx hbad hf;refine hK _ _ _ (cN hf ?_);clear hf hK K;have hlen:s.length≤13:=by
   simp only[dW,Bool.or_eq_false_iff,decide_eq_false_iff_not]at hbad;omega
  refine aD fun K hK=>aC (by kernel_rfl) ?_;simp (maxSteps:=4000000) only[↓sP,sA,tyS,simprocAttr];repeat refine AI ?_
  refine hK _ _ _ ?_;clear hK K;refine aD fun K hK=>?_;refine aD fun K hK=>aC (by kernel_rfl) ?_;simp (maxSteps:=4000000) only[↓sP,sA,tyS,simprocAttr];repeat refine AI ?_
  refine hK _ _ _ ?_;clear hK K;refine bE ?_;refine cA (α:={y:Nat×Nat//DgSt s y.1 y.2}) (fun y=>(fin [(0,.c (.str s)),(4,.c (.int .i64 y.1.2)),(5,.c (.int .i64 y.1.1))],fob [])) 200 (fun y=>s.length-y.1.1) ⟨(0,0),DgSt.init s⟩ (aS (by omega) (by simp[bK,fin_at,finA_at,upd_at,HV.men,HV.menL,HV.norm,HV.toC,HV.toCL]) (by simp[bM,fob_at,upd_at,none0_at,bY,HO.men,HV.men,HV.menL,HV.norm,HV.toC,HV.toCL])) ?_;rintro⟨⟨i,n⟩,hst⟩;simp only at hst;have hi:=hst.1;have hnl:=hst.lt hlen;refine aD fun K hK=>?_;refine aD fun K hK=>aC (by kernel_rfl) ?_;simp only[sR,simprocAttr];iterate 4
   (refine aB (g:=none) rfl rfl fun K' hK'=>?_;simp only[sH,↓sP,sA,tyS,simprocAttr];(repeat refine AI ?_);refine hK' _ _ ?_;clear hK' K')
  simp only[sE,↓reduceIte,simprocAttr];repeat refine AI ?_
  refine hK _ _ _ ?_;clear hK K;refine aQ (b:=decide ((i:Int)<s.length)) rfl (fun hb=>?_) (fun hb=>?_)
  ·
   have hlt:i<s.length:=by simpa using hb
   clear hb;have hgd:s.getD i 0=s[i]:=by simp[hlt]
   have hdi:=yJ s[i];refine aV ?_;simp (maxSteps:=4000000) only[↓sP,sA,tyS,simprocAttr];repeat refine AI ?_
   refine hK _ _ _ ?_;clear hK K;refine aD fun K hK=>?_;refine bE ?_;refine aD fun K hK=>?_;have key2: ∀fr ob nx,gP s[i]=true→Fits 0 fr ob (fin [(0,.c (.str s)),(4,.c (.int .i64 n)),(5,.c (.int .i64 i))]) (fob []) 300→K fr ob nx:=by
    intro fr ob nx hd hf;refine hK _ _ _ (cN hf ?_);clear hf hK K;have hd2:48≤s[i].toNat∧s[i].toNat≤57:=by simpa[gP]using hd
    have e1:IntKind.i64.wrap (10*(n:Int))=((10*n:Nat):Int):=by rw[IntWalk.i64_in _ (by omega)];omega
    have e2:IntKind.u8.wrap ((s[i].toNat:Int)-48)=((s[i].toNat-48:Nat):Int):=by rw[IntWalk.u8_in _ (by omega)];omega
    have e3:IntKind.i64.wrap ((s[i].toNat-48:Nat):Int)=((s[i].toNat-48:Nat):Int):=by rw[IntWalk.i64_in _ (by omega)]
    have e4:IntKind.i64.wrap (((10*n:Nat):Int)+((s[i].toNat-48:Nat):Int))=((10*n+(s[i].toNat-48):Nat):Int):=by rw[IntWalk.i64_in _ (by omega)];omega
    refine aC (by kernel_rfl) ?_;simp only[sR,simprocAttr];iterate 9
     (refine aB (g:=none) rfl rfl fun K' hK'=>?_;simp only[sH,↓sP,sA,tyS,simprocAttr,Int.natCast_nonneg,Int.ofNat_lt,hlt,hgd,e1,e2,e3,e4];(repeat refine AI ?_);refine hK' _ _ ?_;clear hK' K')
    simp only[sE,↓reduceIte,simprocAttr];repeat refine AI ?_
    refine hK _ _ _ ?_;clear hK K;refine aC (by kernel_rfl) ?_;simp (maxSteps:=4000000) only[↓sP,sA,tyS,simprocAttr,IntWalk.i64_in _ (show-9223372036854775808≤(i:Int)+1∧(i:Int)+1≤9223372036854775807 by omega)];refine⟨⟨(i+1,10*n+(s[i].toNat-48)),hst.next hlt hd⟩,aS (by omega) (by simp[bK,fin_at,finA_at,upd_at,HV.men,HV.menL,HV.norm,HV.toC,HV.toCL]) (by simp[bM,fob_at,upd_at,none0_at,bY,HO.men,HV.men,HV.menL,HV.norm,HV.toC,HV.toCL]),?_⟩;show s.length-(i+1)<s.length-i;omega
   refine aD fun K hK=>aC (by kernel_rfl) ?_;simp only[sR,simprocAttr];iterate 5
    (refine aB (g:=none) rfl rfl fun K' hK'=>?_;simp only[sH,↓sP,sA,tyS,simprocAttr,Int.natCast_nonneg,Int.ofNat_lt,hlt,hgd];(repeat refine AI ?_);refine hK' _ _ ?_;clear hK' K')
   refine bG 32 rfl (fun h7_32=>?_) (fun h7_32=>?_)
   ·
    iterate 4
     (refine aB (g:=some (33,false)) rfl rfl fun K' hK'=>?_;simp only[sH,↓sP,sA,tyS,simprocAttr,Int.natCast_nonneg,Int.ofNat_lt,hlt,hgd,h7_32];(repeat refine AI ?_);refine hK' _ _ ?_;clear hK' K')
    refine aB (g:=none) rfl rfl fun K' hK'=>?_;simp (maxSteps:=4000000) only[sH,↓sP,sA,tyS,simprocAttr,Int.natCast_nonneg,Int.ofNat_lt,hlt,hgd,h7_32];repeat refine AI ?_
    refine hK' _ _ ?_;clear hK' K';simp only[sE,↓reduceIte,simprocAttr];repeat refine AI ?_
    refine hK _ _ _ ?_;clear hK K;refine aQ (b:=true) rfl (fun hb=>?_) (fun hb=>?_)
    ·
     refine aD fun K hK=>aC (by kernel_rfl) ?_;simp (maxSteps:=4000000) only[↓sP,sA,tyS,simprocAttr];repeat refine AI ?_
     refine hK _ _ _ ?_;clear hK K;refine aT ?_;simp (maxSteps:=4000000) only[bA,Tryz.results26,aY,aZ,aX,↓sP,sA,tyS,simprocAttr];have hd:gP s[i]=false:=by simp only[gP,Bool.and_eq_false_iff,decide_eq_false_iff_not];simp at h7_32;omega
     have hn:=kZ (hst.bad hlt hd);exact aW [] (.int .i64 0) (.bool false) rfl ⟨by rw[hn];rfl,by rw[hn];rfl⟩
    cases hb
   iterate 4
    (refine aB (g:=some (33,false)) rfl rfl fun K' hK'=>?_;simp only[sH,↓sP,sA,tyS,simprocAttr,Int.natCast_nonneg,Int.ofNat_lt,hlt,hgd,h7_32];(repeat refine AI ?_);refine hK' _ _ ?_;clear hK' K')
   refine aB (g:=none) rfl rfl fun K' hK'=>?_;simp (maxSteps:=4000000) only[sH,↓sP,sA,tyS,simprocAttr,Int.natCast_nonneg,Int.ofNat_lt,hlt,hgd,h7_32];repeat refine AI ?_
   refine hK' _ _ ?_;clear hK' K';refine bG 37 rfl (fun h7_37=>?_) (fun h7_37=>?_)
   ·
    simp only[h7_37];simp only[sE,↓reduceIte,simprocAttr];repeat refine AI ?_
    refine hK _ _ _ ?_;clear hK K;refine aQ (b:=true) rfl (fun hb=>?_) (fun hb=>?_)
    ·
     refine aD fun K hK=>aC (by kernel_rfl) ?_;simp (maxSteps:=4000000) only[↓sP,sA,tyS,simprocAttr];repeat refine AI ?_
     refine hK _ _ _ ?_;clear hK K;refine aT ?_;simp (maxSteps:=4000000) only[bA,Tryz.results26,aY,aZ,aX,↓sP,sA,tyS,simprocAttr];have hd:gP s[i]=false:=by simp only[gP,Bool.and_eq_false_iff,decide_eq_false_iff_not];simp at h7_37;omega
     have hn:=kZ (hst.bad hlt hd);exact aW [] (.int .i64 0) (.bool false) rfl ⟨by rw[hn];rfl,by rw[hn];rfl⟩
    cases hb
   simp only[h7_37];simp only[sE,↓reduceIte,simprocAttr];repeat refine AI ?_
   refine hK _ _ _ ?_;clear hK K;refine aQ (b:=false) rfl (fun hb=>?_) (fun hb=>?_)
   · cases hb
   refine aV ?_;simp (maxSteps:=4000000) only[↓sP,sA,tyS,simprocAttr];exact key2 _ _ _ (by simp only[gP,Bool.and_eq_true,decide_eq_true_eq];simp at h7_32 h7_37;omega) (aS (by omega) (by simp[bK,fin_at,finA_at,upd_at,HV.men,HV.menL,HV.norm,HV.toC,HV.toCL]) (by simp[bM,fob_at,upd_at,none0_at,bY,HO.men,HV.men,HV.menL,HV.norm,HV.toC,HV.toCL]))
  refine bW ?_;simp (maxSteps:=4000000) only[↓sP,sA,tyS,simprocAttr];clear hK K;repeat refine AI ?_
  refine hK _ _ _ ?_;clear hK K;refine aD fun K hK=>?_;have hfin:=hst.fin (by simp at hb;omega);clear hb;refine aD fun K hK=>aC (by kernel_rfl) ?_;simp (maxSteps:=4000000) only[↓sP,sA,tyS,simprocAttr];repeat refine AI ?_
  refine hK _ _ _ ?_;clear hK K;refine aQ (b:=decide ((1099511627776:Int)<(n:Int))) rfl (fun hb=>?_) (fun hb=>?_)
  ·
   refine aD fun K hK=>aC (by kernel_rfl) ?_;simp (maxSteps:=4000000) only[↓sP,sA,tyS,simprocAttr];repeat refine AI ?_
   refine hK _ _ _ ?_;clear hK K;refine aT ?_;simp (maxSteps:=4000000) only[bA,Tryz.results26,aY,aZ,aX,↓sP,sA,tyS,simprocAttr];have hn:=yI hfin (by simp at hb;omega);exact aW [] (.int .i64 0) (.bool false) rfl ⟨by rw[hn];rfl,by rw[hn];rfl⟩
  refine aV ?_;simp (maxSteps:=4000000) only[↓sP,sA,tyS,simprocAttr];repeat refine AI ?_
  refine hK _ _ _ ?_;clear hK K;refine aD fun K hK=>aC (by kernel_rfl) ?_;simp (maxSteps:=4000000) only[↓sP,sA,tyS,simprocAttr];repeat refine AI ?_
  refine hK _ _ _ ?_;clear hK K;refine aT ?_;simp (maxSteps:=4000000) only[bA,Tryz.results26,aY,aZ,aX,↓sP,sA,tyS,simprocAttr];have hn:=wD hbad hfin (by simp at hb;omega);exact aW [] (.int .i64 n) (.bool true) rfl ⟨by rw[hn];rfl,by rw[hn];rfl⟩
 refine aD fun K hK=>aC (by kernel_rfl) ?_;simp only[sR,simprocAttr];iterate 3
  (refine aB (g:=none) rfl rfl fun K' hK'=>?_;simp only[sH,↓sP,sA,tyS,simprocAttr];(repeat refine AI ?_);refine hK' _ _ ?_;clear hK' K')
 refine bG 7 rfl (fun h1_7=>?_) (fun h1_7=>?_)
 ·
  iterate 3
   (refine aB (g:=some (8,false)) rfl rfl fun K' hK'=>?_;simp only[sH,↓sP,sA,tyS,simprocAttr,h1_7];(repeat refine AI ?_);refine hK' _ _ ?_;clear hK' K')
  iterate 2
   (refine aB (g:=none) rfl rfl fun K' hK'=>?_;simp only[sH,↓sP,sA,tyS,simprocAttr,h1_7];(repeat refine AI ?_);refine hK' _ _ ?_;clear hK' K')
  iterate 4
   (refine aB (g:=some (13,false)) rfl rfl fun K' hK'=>?_;simp only[sH,↓sP,sA,tyS,simprocAttr,h1_7];(repeat refine AI ?_);refine hK' _ _ ?_;clear hK' K')
  iterate 3
   (refine aB (g:=some (17,true)) rfl rfl fun K' hK'=>?_;simp only[sH,↓sP,sA,tyS,simprocAttr,h1_7];(repeat refine AI ?_);refine hK' _ _ ?_;clear hK' K')
  refine aB (g:=some (13,false)) rfl rfl fun K' hK'=>?_;simp (maxSteps:=4000000) only[sH,↓sP,sA,tyS,simprocAttr,h1_7];repeat refine AI ?_
  refine hK' _ _ ?_;clear hK' K';refine aB (g:=none) rfl rfl fun K' hK'=>?_;simp (maxSteps:=4000000) only[sH,↓sP,sA,tyS,simprocAttr,h1_7];repeat refine AI ?_
  refine hK' _ _ ?_;clear hK' K';simp only[sE,↓reduceIte,simprocAttr];repeat refine AI ?_
  refine hK _ _ _ ?_;clear hK K;refine aQ (b:=true) rfl (fun hb=>?_) (fun hb=>?_)
  ·
   refine aD fun K hK=>aC (by kernel_rfl) ?_;simp (maxSteps:=4000000) only[↓sP,sA,tyS,simprocAttr];repeat refine AI ?_
   refine hK _ _ _ ?_;clear hK K;refine aT ?_;simp (maxSteps:=4000000) only[bA,Tryz.results26,aY,aZ,aX,↓sP,sA,tyS,simprocAttr];have hs:s=[]:=by simpa using h1_7
   subst hs;exact aW [] (.int .i64 0) (.bool false) rfl ⟨rfl,rfl⟩
  cases hb
 iterate 3
  (refine aB (g:=some (8,false)) rfl rfl fun K' hK'=>?_;simp only[sH,↓sP,sA,tyS,simprocAttr,h1_7];(repeat refine AI ?_);refine hK' _ _ ?_;clear hK' K')
 iterate 2
  (refine aB (g:=none) rfl rfl fun K' hK'=>?_;simp only[sH,↓sP,sA,tyS,simprocAttr,h1_7];(repeat refine AI ?_);refine hK' _ _ ?_;clear hK' K')
 refine bG 11 rfl (fun h1_11=>?_) (fun h1_11=>?_)
 ·
  iterate 4
   (refine aB (g:=some (13,false)) rfl rfl fun K' hK'=>?_;simp only[sH,↓sP,sA,tyS,simprocAttr,h1_7,h1_11];(repeat refine AI ?_);refine hK' _ _ ?_;clear hK' K')
  iterate 3
   (refine aB (g:=some (17,true)) rfl rfl fun K' hK'=>?_;simp only[sH,↓sP,sA,tyS,simprocAttr,h1_7,h1_11];(repeat refine AI ?_);refine hK' _ _ ?_;clear hK' K')
  refine aB (g:=some (13,false)) rfl rfl fun K' hK'=>?_;simp (maxSteps:=4000000) only[sH,↓sP,sA,tyS,simprocAttr,h1_7,h1_11];repeat refine AI ?_
  refine hK' _ _ ?_;clear hK' K';refine aB (g:=none) rfl rfl fun K' hK'=>?_;simp (maxSteps:=4000000) only[sH,↓sP,sA,tyS,simprocAttr,h1_7,h1_11];repeat refine AI ?_
  refine hK' _ _ ?_;clear hK' K';simp only[sE,↓reduceIte,simprocAttr];repeat refine AI ?_
  refine hK _ _ _ ?_;clear hK K;refine aQ (b:=true) rfl (fun hb=>?_) (fun hb=>?_)
  ·
   refine aD fun K hK=>aC (by kernel_rfl) ?_;simp (maxSteps:=4000000) only[↓sP,sA,tyS,simprocAttr];repeat refine AI ?_
   refine hK _ _ _ ?_;clear hK K;refine aT ?_;simp (maxSteps:=4000000) only[bA,Tryz.results26,aY,aZ,aX,↓sP,sA,tyS,simprocAttr];have hn:eY s=none:=kJ (by simp only[dW,Bool.or_eq_true,decide_eq_true_eq];simp at h1_11;left;right;omega);exact aW [] (.int .i64 0) (.bool false) rfl ⟨by rw[hn];rfl,by rw[hn];rfl⟩
  cases hb
 refine aB (g:=some (13,false)) rfl rfl fun K' hK'=>?_;simp (maxSteps:=4000000) only[sH,↓sP,sA,tyS,simprocAttr,h1_7,h1_11];repeat refine AI ?_
 refine hK' _ _ ?_;clear hK' K';refine aB (g:=some (13,false)) rfl rfl fun K' hK'=>?_;simp (maxSteps:=4000000) only[sH,↓sP,sA,tyS,simprocAttr,h1_7,h1_11];refine⟨by have:=List.length_pos_iff.2 (show s≠[]by simpa using h1_7);omega,?_⟩;repeat refine AI ?_
 refine hK' _ _ ?_;clear hK' K';iterate 2
  (refine aB (g:=some (13,false)) rfl rfl fun K' hK'=>?_;simp only[sH,↓sP,sA,tyS,simprocAttr,h1_7,h1_11];(repeat refine AI ?_);refine hK' _ _ ?_;clear hK' K')
 refine bG 16 rfl (fun h1_16=>?_) (fun h1_16=>?_)
 ·
  iterate 3
   (refine aB (g:=some (17,true)) rfl rfl fun K' hK'=>?_;simp only[sH,↓sP,sA,tyS,simprocAttr,h1_7,h1_11,h1_16];(repeat refine AI ?_);refine hK' _ _ ?_;clear hK' K')
  refine aB (g:=some (13,false)) rfl rfl fun K' hK'=>?_;simp (maxSteps:=4000000) only[sH,↓sP,sA,tyS,simprocAttr,h1_7,h1_11,h1_16];repeat refine AI ?_
  refine hK' _ _ ?_;clear hK' K';refine aB (g:=none) rfl rfl fun K' hK'=>?_;simp (maxSteps:=4000000) only[sH,↓sP,sA,tyS,simprocAttr,h1_7,h1_11,h1_16];repeat refine AI ?_
  refine hK' _ _ ?_;clear hK' K';refine bG 20 rfl (fun h1_20=>?_) (fun h1_20=>?_)
  ·
   simp only[h1_20];simp only[sE,↓reduceIte,simprocAttr];repeat refine AI ?_
   refine hK _ _ _ ?_;clear hK K;refine aQ (b:=true) rfl (fun hb=>?_) (fun hb=>?_)
   ·
    refine aD fun K hK=>aC (by kernel_rfl) ?_;simp (maxSteps:=4000000) only[↓sP,sA,tyS,simprocAttr];repeat refine AI ?_
    refine hK _ _ _ ?_;clear hK K;refine aT ?_;simp (maxSteps:=4000000) only[bA,Tryz.results26,aY,aZ,aX,↓sP,sA,tyS,simprocAttr];have hn:eY s=none:=kJ (by
     simp only[dW,Bool.or_eq_true,Bool.and_eq_true,decide_eq_true_eq,beq_iff_eq];right;refine⟨by simp at h1_20;omega,UInt8.toNat_inj.1 ?_⟩;simp only[beq_iff_eq]at h1_16;show(s.getD 0 0).toNat=48;omega)
    exact aW [] (.int .i64 0) (.bool false) rfl ⟨by rw[hn];rfl,by rw[hn];rfl⟩
   cases hb
  simp only[h1_20];simp only[sE,↓reduceIte,simprocAttr];repeat refine AI ?_
  refine hK _ _ _ ?_;clear hK K;refine aQ (b:=false) rfl (fun hb=>?_) (fun hb=>?_)
  · cases hb
  refine aV ?_;simp (maxSteps:=4000000) only[↓sP,sA,tyS,simprocAttr];refine key _ _ _ ?_ (aS (by omega) (by simp[bK,fin_at,finA_at,upd_at,HV.men,HV.menL,HV.norm,HV.toC,HV.toCL]) (by simp[bM,fob_at,upd_at,none0_at,bY,HO.men,HV.men,HV.menL,HV.norm,HV.toC,HV.toCL]));have hs:=List.length_pos_iff.2 (show s≠[]by simpa using h1_7);simp only[dW,Bool.or_eq_false_iff,Bool.and_eq_false_iff,decide_eq_false_iff_not,beq_eq_false_iff_ne,ne_eq];simp only[decide_eq_false_iff_not,decide_eq_true_eq]at h1_11;refine⟨⟨by omega,by omega⟩,?_⟩;first
   |(left;simp at h1_20;omega)
   |(right;intro h0;rw[h0]at h1_16;simp at h1_16)
 iterate 3
  (refine aB (g:=some (17,true)) rfl rfl fun K' hK'=>?_;simp only[sH,↓sP,sA,tyS,simprocAttr,h1_7,h1_11,h1_16];(repeat refine AI ?_);refine hK' _ _ ?_;clear hK' K')
 refine aB (g:=some (13,false)) rfl rfl fun K' hK'=>?_;simp (maxSteps:=4000000) only[sH,↓sP,sA,tyS,simprocAttr,h1_7,h1_11,h1_16];repeat refine AI ?_
 refine hK' _ _ ?_;clear hK' K';refine aB (g:=none) rfl rfl fun K' hK'=>?_;simp (maxSteps:=4000000) only[sH,↓sP,sA,tyS,simprocAttr,h1_7,h1_11,h1_16];repeat refine AI ?_
 refine hK' _ _ ?_;clear hK' K';simp only[sE,↓reduceIte,simprocAttr];repeat refine AI ?_
 refine hK _ _ _ ?_;clear hK K;refine aQ (b:=false) rfl (fun hb=>?_) (fun hb=>?_)
 · cases hb
 refine aV ?_;simp (maxSteps:=4000000) only[↓sP,sA,tyS,simprocAttr];refine key _ _ _ ?_ (aS (by omega) (by simp[bK,fin_at,finA_at,upd_at,HV.men,HV.menL,HV.norm,HV.toC,HV.toCL]) (by simp[bM,fob_at,upd_at,none0_at,bY,HO.men,HV.men,HV.menL,HV.norm,HV.toC,HV.toCL]));have hs:=List.length_pos_iff.2 (show s≠[]by simpa using h1_7);simp only[dW,Bool.or_eq_false_iff,Bool.and_eq_false_iff,decide_eq_false_iff_not,beq_eq_false_iff_ne,ne_eq];simp only[decide_eq_false_iff_not,decide_eq_true_eq]at h1_11;refine⟨⟨by omega,by omega⟩,?_⟩;first
  |(left;simp at h1_20;omega)
  |(right;intro h0;rw[h0]at h1_16;simp at h1_16)
theorem yK (c:UInt8):cL Tryz.prog 59 [.int .u8 c.toNat] (fun v=>v= .int .i64 (valH c:Nat)):=by
 refine bI Tryz.func59 rfl (by kernel_rfl) (bJ _) (Nat.le_of_ble_eq_true rfl) ?_;refine aD fun K hK=>aC (by kernel_rfl) ?_;simp (maxSteps:=4000000) only[↓sP,sA,tyS,simprocAttr];repeat refine AI ?_
 refine hK _ _ _ ?_;clear hK K;refine aD fun K hK=>?_;refine aD fun K hK=>aC (by kernel_rfl) ?_;simp only[sR,simprocAttr];iterate 3
  (refine aB (g:=none) rfl rfl fun K' hK'=>?_;simp only[sH,↓sP,sA,tyS,simprocAttr];(repeat refine AI ?_);refine hK' _ _ ?_;clear hK' K')
 refine bG 4 rfl (fun h1_4=>?_) (fun h1_4=>?_)
 ·
  iterate 2
   (refine aB (g:=some (5,true)) rfl rfl fun K' hK'=>?_;simp only[sH,↓sP,sA,tyS,simprocAttr,h1_4];(repeat refine AI ?_);refine hK' _ _ ?_;clear hK' K')
  refine aB (g:=none) rfl rfl fun K' hK'=>?_;simp (maxSteps:=4000000) only[sH,↓sP,sA,tyS,simprocAttr,h1_4];repeat refine AI ?_
  refine hK' _ _ ?_;clear hK' K';refine bG 7 rfl (fun h1_7=>?_) (fun h1_7=>?_)
  ·
   simp only[h1_7];simp only[sE,↓reduceIte,simprocAttr];repeat refine AI ?_
   refine hK _ _ _ ?_;clear hK K;refine aQ (b:=true) rfl (fun hb=>?_) (fun hb=>?_)
   ·
    have e1:IntKind.u8.wrap ((c.toNat:Int)-48)=((c.toNat-48:Nat):Int):=by simp at h1_4 h1_7;rw[IntWalk.u8_in _ (by omega)];omega
    have e2:IntKind.i64.wrap ((c.toNat-48:Nat):Int)=((c.toNat-48:Nat):Int):=by have:=c.toNat_lt;rw[IntWalk.i64_in _ (by omega)]
    refine aD fun K hK=>aC (by kernel_rfl) ?_;simp only[sR,simprocAttr];iterate 4
     (refine aB (g:=none) rfl rfl fun K' hK'=>?_;simp only[sH,↓sP,sA,tyS,simprocAttr,e1,e2,h1_4,h1_7];(repeat refine AI ?_);refine hK' _ _ ?_;clear hK' K')
    simp only[sE,↓reduceIte,simprocAttr];repeat refine AI ?_
    refine hK _ _ _ ?_;clear hK K;refine aT ?_;simp (maxSteps:=4000000) only[bA,Tryz.results59,aY,aZ,aX,↓sP,sA,tyS,simprocAttr];refine bF [] _ rfl ?_;simp only[decide_eq_true_eq,decide_eq_false_iff_not]at*;refine congrArg (CV.int IntKind.i64) ?_;unfold valH;split<;>(try split)<;>omega
   cases hb
  simp only[h1_7];simp only[sE,↓reduceIte,simprocAttr];repeat refine AI ?_
  refine hK _ _ _ ?_;clear hK K;refine aQ (b:=false) rfl (fun hb=>?_) (fun hb=>?_)
  · cases hb
  refine aV ?_;simp (maxSteps:=4000000) only[↓sP,sA,tyS,simprocAttr];repeat refine AI ?_
  refine hK _ _ _ ?_;clear hK K;refine aD fun K hK=>?_;refine aD fun K hK=>aC (by kernel_rfl) ?_;simp only[sR,simprocAttr];iterate 3
   (refine aB (g:=none) rfl rfl fun K' hK'=>?_;simp only[sH,↓sP,sA,tyS,simprocAttr,h1_4,h1_7];(repeat refine AI ?_);refine hK' _ _ ?_;clear hK' K')
  refine bG 13 rfl (fun h3_13=>?_) (fun h3_13=>?_)
  ·
   iterate 2
    (refine aB (g:=some (14,true)) rfl rfl fun K' hK'=>?_;simp only[sH,↓sP,sA,tyS,simprocAttr,h1_4,h1_7,h3_13];(repeat refine AI ?_);refine hK' _ _ ?_;clear hK' K')
   refine aB (g:=none) rfl rfl fun K' hK'=>?_;simp (maxSteps:=4000000) only[sH,↓sP,sA,tyS,simprocAttr,h1_4,h1_7,h3_13];repeat refine AI ?_
   refine hK' _ _ ?_;clear hK' K';refine bG 16 rfl (fun h3_16=>?_) (fun h3_16=>?_)
   ·
    simp only[h3_16];simp only[sE,↓reduceIte,simprocAttr];repeat refine AI ?_
    refine hK _ _ _ ?_;clear hK K;refine aQ (b:=true) rfl (fun hb=>?_) (fun hb=>?_)
    ·
     have e1:IntKind.u8.wrap ((c.toNat:Int)-65)=((c.toNat-65:Nat):Int):=by simp at h3_13 h3_16;rw[IntWalk.u8_in _ (by omega)];omega
     have e2:IntKind.i64.wrap ((c.toNat-65:Nat):Int)=((c.toNat-65:Nat):Int):=by have:=c.toNat_lt;rw[IntWalk.i64_in _ (by omega)]
     have e3:IntKind.i64.wrap (((c.toNat-65:Nat):Int)+10)=((c.toNat-65+10:Nat):Int):=by have:=c.toNat_lt;rw[IntWalk.i64_in _ (by omega)];omega
     refine aD fun K hK=>aC (by kernel_rfl) ?_;simp only[sR,simprocAttr];iterate 5
      (refine aB (g:=none) rfl rfl fun K' hK'=>?_;simp only[sH,↓sP,sA,tyS,simprocAttr,e1,e2,e3,h1_4,h1_7,h3_13,h3_16];(repeat refine AI ?_);refine hK' _ _ ?_;clear hK' K')
     simp only[sE,↓reduceIte,simprocAttr];repeat refine AI ?_
     refine hK _ _ _ ?_;clear hK K;refine aT ?_;simp (maxSteps:=4000000) only[bA,Tryz.results59,aY,aZ,aX,↓sP,sA,tyS,simprocAttr];refine bF [] _ rfl ?_;simp only[decide_eq_true_eq,decide_eq_false_iff_not]at*;refine congrArg (CV.int IntKind.i64) ?_;unfold valH;split<;>(try split)<;>omega
    cases hb
   simp only[h3_16];simp only[sE,↓reduceIte,simprocAttr];repeat refine AI ?_
   refine hK _ _ _ ?_;clear hK K;refine aQ (b:=false) rfl (fun hb=>?_) (fun hb=>?_)
   · cases hb
   refine aV ?_;simp (maxSteps:=4000000) only[↓sP,sA,tyS,simprocAttr];repeat refine AI ?_
   refine hK _ _ _ ?_;clear hK K;refine aD fun K hK=>aC (by kernel_rfl) ?_;simp (maxSteps:=4000000) only[↓sP,sA,tyS,simprocAttr];repeat refine AI ?_
   refine hK _ _ _ ?_;clear hK K;refine aT ?_;simp (maxSteps:=4000000) only[bA,Tryz.results59,aY,aZ,aX,↓sP,sA,tyS,simprocAttr];refine bF [] _ rfl ?_;simp only[decide_eq_true_eq,decide_eq_false_iff_not]at*;refine congrArg (CV.int IntKind.i64) ?_;unfold valH;split<;>(try split)<;>omega
  iterate 2
   (refine aB (g:=some (14,true)) rfl rfl fun K' hK'=>?_;simp only[sH,↓sP,sA,tyS,simprocAttr,h1_4,h1_7,h3_13];(repeat refine AI ?_);refine hK' _ _ ?_;clear hK' K')
  refine aB (g:=none) rfl rfl fun K' hK'=>?_;simp (maxSteps:=4000000) only[sH,↓sP,sA,tyS,simprocAttr,h1_4,h1_7,h3_13];repeat refine AI ?_
  refine hK' _ _ ?_;clear hK' K';simp only[sE,↓reduceIte,simprocAttr];repeat refine AI ?_
  refine hK _ _ _ ?_;clear hK K;refine aQ (b:=false) rfl (fun hb=>?_) (fun hb=>?_)
  · cases hb
  refine aV ?_;simp (maxSteps:=4000000) only[↓sP,sA,tyS,simprocAttr];repeat refine AI ?_
  refine hK _ _ _ ?_;clear hK K;refine aD fun K hK=>aC (by kernel_rfl) ?_;simp (maxSteps:=4000000) only[↓sP,sA,tyS,simprocAttr];repeat refine AI ?_
  refine hK _ _ _ ?_;clear hK K;refine aT ?_;simp (maxSteps:=4000000) only[bA,Tryz.results59,aY,aZ,aX,↓sP,sA,tyS,simprocAttr];refine bF [] _ rfl ?_;simp only[decide_eq_true_eq,decide_eq_false_iff_not]at*;refine congrArg (CV.int IntKind.i64) ?_;unfold valH;split<;>(try split)<;>omega
 iterate 2
  (refine aB (g:=some (5,true)) rfl rfl fun K' hK'=>?_;simp only[sH,↓sP,sA,tyS,simprocAttr,h1_4];(repeat refine AI ?_);refine hK' _ _ ?_;clear hK' K')
 refine aB (g:=none) rfl rfl fun K' hK'=>?_;simp (maxSteps:=4000000) only[sH,↓sP,sA,tyS,simprocAttr,h1_4];repeat refine AI ?_
 refine hK' _ _ ?_;clear hK' K';simp only[sE,↓reduceIte,simprocAttr];repeat refine AI ?_
 refine hK _ _ _ ?_;clear hK K;refine aQ (b:=false) rfl (fun hb=>?_) (fun hb=>?_)
 · cases hb
 refine aV ?_;simp (maxSteps:=4000000) only[↓sP,sA,tyS,simprocAttr];repeat refine AI ?_
 refine hK _ _ _ ?_;clear hK K;refine aD fun K hK=>?_;refine aD fun K hK=>aC (by kernel_rfl) ?_;simp only[sR,simprocAttr];iterate 3
  (refine aB (g:=none) rfl rfl fun K' hK'=>?_;simp only[sH,↓sP,sA,tyS,simprocAttr,h1_4];(repeat refine AI ?_);refine hK' _ _ ?_;clear hK' K')
 refine bG 13 rfl (fun h3_13=>?_) (fun h3_13=>?_)
 ·
  iterate 2
   (refine aB (g:=some (14,true)) rfl rfl fun K' hK'=>?_;simp only[sH,↓sP,sA,tyS,simprocAttr,h1_4,h3_13];(repeat refine AI ?_);refine hK' _ _ ?_;clear hK' K')
  refine aB (g:=none) rfl rfl fun K' hK'=>?_;simp (maxSteps:=4000000) only[sH,↓sP,sA,tyS,simprocAttr,h1_4,h3_13];repeat refine AI ?_
  refine hK' _ _ ?_;clear hK' K';refine bG 16 rfl (fun h3_16=>?_) (fun h3_16=>?_)
  ·
   simp only[h3_16];simp only[sE,↓reduceIte,simprocAttr];repeat refine AI ?_
   refine hK _ _ _ ?_;clear hK K;refine aQ (b:=true) rfl (fun hb=>?_) (fun hb=>?_)
   ·
    have e1:IntKind.u8.wrap ((c.toNat:Int)-65)=((c.toNat-65:Nat):Int):=by simp at h3_13 h3_16;rw[IntWalk.u8_in _ (by omega)];omega
    have e2:IntKind.i64.wrap ((c.toNat-65:Nat):Int)=((c.toNat-65:Nat):Int):=by have:=c.toNat_lt;rw[IntWalk.i64_in _ (by omega)]
    have e3:IntKind.i64.wrap (((c.toNat-65:Nat):Int)+10)=((c.toNat-65+10:Nat):Int):=by have:=c.toNat_lt;rw[IntWalk.i64_in _ (by omega)];omega
    refine aD fun K hK=>aC (by kernel_rfl) ?_;simp only[sR,simprocAttr];iterate 5
     (refine aB (g:=none) rfl rfl fun K' hK'=>?_;simp only[sH,↓sP,sA,tyS,simprocAttr,e1,e2,e3,h1_4,h3_13,h3_16];(repeat refine AI ?_);refine hK' _ _ ?_;clear hK' K')
    simp only[sE,↓reduceIte,simprocAttr];repeat refine AI ?_
    refine hK _ _ _ ?_;clear hK K;refine aT ?_;simp (maxSteps:=4000000) only[bA,Tryz.results59,aY,aZ,aX,↓sP,sA,tyS,simprocAttr];refine bF [] _ rfl ?_;simp only[decide_eq_true_eq,decide_eq_false_iff_not]at*;refine congrArg (CV.int IntKind.i64) ?_;unfold valH;split<;>(try split)<;>omega
   cases hb
  simp only[h3_16];simp only[sE,↓reduceIte,simprocAttr];repeat refine AI ?_
  refine hK _ _ _ ?_;clear hK K;refine aQ (b:=false) rfl (fun hb=>?_) (fun hb=>?_)
  · cases hb
  refine aV ?_;simp (maxSteps:=4000000) only[↓sP,sA,tyS,simprocAttr];repeat refine AI ?_
  refine hK _ _ _ ?_;clear hK K;refine aD fun K hK=>aC (by kernel_rfl) ?_;simp (maxSteps:=4000000) only[↓sP,sA,tyS,simprocAttr];repeat refine AI ?_
  refine hK _ _ _ ?_;clear hK K;refine aT ?_;simp (maxSteps:=4000000) only[bA,Tryz.results59,aY,aZ,aX,↓sP,sA,tyS,simprocAttr];refine bF [] _ rfl ?_;simp only[decide_eq_true_eq,decide_eq_false_iff_not]at*;refine congrArg (CV.int IntKind.i64) ?_;unfold valH;split<;>(try split)<;>omega
 iterate 2
  (refine aB (g:=some (14,true)) rfl rfl fun K' hK'=>?_;simp only[sH,↓sP,sA,tyS,simprocAttr,h1_4,h3_13];(repeat refine AI ?_);refine hK' _ _ ?_;clear hK' K')
 refine aB (g:=none) rfl rfl fun K' hK'=>?_;simp (maxSteps:=4000000) only[sH,↓sP,sA,tyS,simprocAttr,h1_4,h3_13];repeat refine AI ?_
 refine hK' _ _ ?_;clear hK' K';simp only[sE,↓reduceIte,simprocAttr];repeat refine AI ?_
 refine hK _ _ _ ?_;clear hK K;refine aQ (b:=false) rfl (fun hb=>?_) (fun hb=>?_)
 · cases hb
 refine aV ?_;simp (maxSteps:=4000000) only[↓sP,sA,tyS,simprocAttr];repeat refine AI ?_
 refine hK _ _ _ ?_;clear hK K;refine aD fun K hK=>aC (by kernel_rfl) ?_;simp (maxSteps:=4000000) only[↓sP,sA,tyS,simprocAttr];repeat refine AI ?_
 refine hK _ _ _ ?_;clear hK K;refine aT ?_;simp (maxSteps:=4000000) only[bA,Tryz.results59,aY,aZ,aX,↓sP,sA,tyS,simprocAttr];refine bF [] _ rfl ?_;simp only[decide_eq_true_eq,decide_eq_false_iff_not]at*;refine congrArg (CV.int IntKind.i64) ?_;unfold valH;split<;>(try split)<;>omega
theorem aL7 (l:List UInt8)(c:UInt8):cL Tryz.prog 99 [.str l,u8 c] (fun v=>v= .int .i64 (Lib.countByte l c:Nat)):=
 oM (f:=99) (fn:=Tryz.f99) (e:=Extern.BytealgCount.count) Tryz.func99 (by kernel_rfl) (by kernel_rfl) (by kernel_rfl) (by kernel_rfl) fun w ρ O xs h=>by
  simp only[List.map_cons,List.map_nil,bP,RepHV]at h;obtain⟨x,l1,rfl,hx,y,l2,rfl,hy,rfl⟩:=h;have h1:=RepV.single hx rfl;have h2:=RepV.single hy rfl;simp only[u8,RepC,List.cons.injEq,and_true]at h1 h2;subst h1 h2;refine⟨_,_,rfl,dF _ _ _ _ _,?_⟩;have:=Lib.run_countString (P:=Tryz.prog) ⟨l.toArray⟩ (c.toNat:Int) w;simpa using this
theorem aB8 (l:List UInt8)(c:UInt8):cL Tryz.prog 100 [.str l,.str [c]] (fun v=>v= .int .i64 (dO l c)):=by
 refine bI Tryz.func100 rfl (by kernel_rfl) (bJ _) (Nat.le_of_ble_eq_true rfl) ?_;refine aD fun K hK=>aC (by kernel_rfl) ?_;simp (maxSteps:=4000000) only[↓sP,sA,tyS,simprocAttr];repeat refine AI ?_
 refine hK _ _ _ ?_;clear hK K;refine aD fun K hK=>aC (by kernel_rfl) ?_;simp (maxSteps:=4000000) only[↓sP,sA,tyS,simprocAttr];repeat refine AI ?_
 refine hK _ _ _ ?_;clear hK K;refine aD fun K hK=>?_;refine bE ?_;refine aD fun K hK=>aC (by kernel_rfl) ?_;simp only[sR,simprocAttr];iterate 3
  (refine aB (g:=none) rfl rfl fun K' hK'=>?_;simp only[sH,↓sP,sA,tyS,simprocAttr];(repeat refine AI ?_);refine hK' _ _ ?_;clear hK' K')
 refine bG 18 rfl (fun h2_18=>?_) (fun h2_18=>?_)
 ·
  iterate 3
   (refine aB (g:=some (19,false)) rfl rfl fun K' hK'=>?_;simp only[sH,↓sP,sA,tyS,simprocAttr,h2_18];(repeat refine AI ?_);refine hK' _ _ ?_;clear hK' K')
  iterate 2
   (refine aB (g:=none) rfl rfl fun K' hK'=>?_;simp only[sH,↓sP,sA,tyS,simprocAttr,h2_18];(repeat refine AI ?_);refine hK' _ _ ?_;clear hK' K')
  simp only[sE,↓reduceIte,simprocAttr];repeat refine AI ?_
  refine hK _ _ _ ?_;clear hK K;refine aQ (b:=true) rfl (fun hb=>?_) (fun hb=>?_)
  ·
   refine aD fun K hK=>aC (by kernel_rfl) ?_;simp (maxSteps:=4000000) only[↓sP,sA,tyS,simprocAttr];repeat refine AI ?_
   refine hK _ _ _ ?_;clear hK K;refine aT ?_;simp (maxSteps:=4000000) only[bA,Tryz.results100,aY,aZ,aX,↓sP,sA,tyS,simprocAttr];exact absurd h2_18 (by decide)
  cases hb
 iterate 3
  (refine aB (g:=some (19,false)) rfl rfl fun K' hK'=>?_;simp only[sH,↓sP,sA,tyS,simprocAttr,h2_18];(repeat refine AI ?_);refine hK' _ _ ?_;clear hK' K')
 iterate 2
  (refine aB (g:=none) rfl rfl fun K' hK'=>?_;simp only[sH,↓sP,sA,tyS,simprocAttr,h2_18];(repeat refine AI ?_);refine hK' _ _ ?_;clear hK' K')
 refine bG 22 rfl (fun h2_22=>?_) (fun h2_22=>?_)
 ·
  simp only[h2_22];simp only[sE,↓reduceIte,simprocAttr];repeat refine AI ?_
  refine hK _ _ _ ?_;clear hK K;refine aQ (b:=true) rfl (fun hb=>?_) (fun hb=>?_)
  ·
   refine aD fun K hK=>aC (by kernel_rfl) ?_;simp (maxSteps:=4000000) only[↓sP,sA,tyS,simprocAttr];repeat refine AI ?_
   refine hK _ _ _ ?_;clear hK K;refine aT ?_;simp (maxSteps:=4000000) only[bA,Tryz.results100,aY,aZ,aX,↓sP,sA,tyS,simprocAttr];have hl:l=[c]:=(eq_of_beq h2_22).symm;subst hl;exact bF [] (.int .i64 0) rfl (by simp[dO])
  cases hb
 simp only[h2_22];simp only[sE,↓reduceIte,simprocAttr];repeat refine AI ?_
 refine hK _ _ _ ?_;clear hK K;refine aQ (b:=false) rfl (fun hb=>?_) (fun hb=>?_)
 · cases hb
 refine aD fun K hK=>aC (by kernel_rfl) ?_;simp (maxSteps:=4000000) only[↓sP,sA,tyS,simprocAttr];repeat refine AI ?_
 refine hK _ _ _ ?_;clear hK K;refine aQ (b:=(1:Int)==1) rfl (fun hb=>?_) (fun hb=>?_)
 ·
  refine aD fun K hK=>aC (by kernel_rfl) ?_;simp only[sR,simprocAttr];iterate 3
   (refine aB (g:=none) rfl rfl fun K' hK'=>?_;simp only[sH,↓sP,sA,tyS,simprocAttr,List.getD_cons_zero,h2_18,h2_22];(repeat refine AI ?_);refine hK' _ _ ?_;clear hK' K')
  refine aB (g:=none) rfl rfl fun K' hK'=>?_;simp (maxSteps:=4000000) only[sH,↓sP,sA,tyS,simprocAttr,List.getD_cons_zero,h2_18,h2_22];refine bH (args:=[_,_]) (aT4 l c) ⟨rfl,rfl,rfl,rfl⟩ ?_;rintro u rfl;repeat refine AI ?_
  refine hK' _ _ ?_;clear hK' K';refine aB (g:=none) rfl rfl fun K' hK'=>?_;simp (maxSteps:=4000000) only[sH,↓sP,sA,tyS,simprocAttr,List.getD_cons_zero,h2_18,h2_22];repeat refine AI ?_
  refine hK' _ _ ?_;clear hK' K';simp only[sE,↓reduceIte,simprocAttr];repeat refine AI ?_
  refine hK _ _ _ ?_;clear hK K;refine aT ?_;simp (maxSteps:=4000000) only[bA,Tryz.results100,aY,aZ,aX,↓sP,sA,tyS,simprocAttr];exact bF [] (.int .i64 (dO l c)) rfl rfl
 exact absurd hb (by decide)
theorem yL (l:List UInt8)(c:UInt8):cL Tryz.prog 83 [.str l,.str [c]] (fun v=>v= .int .i64 (dO l c)):=by
 refine bI Tryz.func83 rfl (by kernel_rfl) (bJ _) (Nat.le_of_ble_eq_true rfl) ?_;refine aD fun K hK=>aC (by kernel_rfl) ?_;simp (maxSteps:=4000000) only[↓sP,sA,tyS,simprocAttr];repeat refine AI ?_
 refine hK _ _ _ ?_;clear hK K;refine aD fun K hK=>aC (by kernel_rfl) ?_;simp only[sR,simprocAttr];iterate 2
  (refine aB (g:=none) rfl rfl fun K' hK'=>?_;simp only[sH,↓sP,sA,tyS,simprocAttr];(repeat refine AI ?_);refine hK' _ _ ?_;clear hK' K')
 refine aB (g:=none) rfl rfl fun K' hK'=>?_;simp (maxSteps:=4000000) only[sH,↓sP,sA,tyS,simprocAttr];refine bH (args:=[_,_]) (aB8 l c) ⟨rfl,rfl,rfl,rfl⟩ ?_;rintro u rfl;repeat refine AI ?_
 refine hK' _ _ ?_;clear hK' K';refine aB (g:=none) rfl rfl fun K' hK'=>?_;simp (maxSteps:=4000000) only[sH,↓sP,sA,tyS,simprocAttr];repeat refine AI ?_
 refine hK' _ _ ?_;clear hK' K';simp only[sE,↓reduceIte,simprocAttr];repeat refine AI ?_
 refine hK _ _ _ ?_;clear hK K;refine aT ?_;simp (maxSteps:=4000000) only[bA,Tryz.results83,aY,aZ,aX,↓sP,sA,tyS,simprocAttr];exact bF [] (.int .i64 (dO l c)) rfl rfl
theorem yM (l:List UInt8)(c:UInt8):cL Tryz.prog 82 [.str l,.str [c]] (fun v=>v= .int .i64 (Lib.countByte l c:Nat)):=by
 refine bI Tryz.func82 rfl (by kernel_rfl) (bJ _) (Nat.le_of_ble_eq_true rfl) ?_;refine aD fun K hK=>aC (by kernel_rfl) ?_;simp (maxSteps:=4000000) only[↓sP,sA,tyS,simprocAttr];repeat refine AI ?_
 refine hK _ _ _ ?_;clear hK K;refine aD fun K hK=>?_;refine aD fun K hK=>aC (by kernel_rfl) ?_;simp (maxSteps:=4000000) only[↓sP,sA,tyS,simprocAttr];repeat refine AI ?_
 refine hK _ _ _ ?_;clear hK K;refine aQ (b:=(1:Int)==0) rfl (fun hb=>?_) (fun hb=>?_)
 · exact absurd hb (by decide)
 refine aV ?_;simp (maxSteps:=4000000) only[↓sP,sA,tyS,simprocAttr];repeat refine AI ?_
 refine hK _ _ _ ?_;clear hK K;refine aD fun K hK=>?_;refine aD fun K hK=>aC (by kernel_rfl) ?_;simp (maxSteps:=4000000) only[↓sP,sA,tyS,simprocAttr];repeat refine AI ?_
 refine hK _ _ _ ?_;clear hK K;refine aQ (b:=(1:Int)==1) rfl (fun hb=>?_) (fun hb=>?_)
 ·
  refine aD fun K hK=>aC (by kernel_rfl) ?_;simp only[sR,simprocAttr];iterate 3
   (refine aB (g:=none) rfl rfl fun K' hK'=>?_;simp only[sH,↓sP,sA,tyS,simprocAttr,List.getD_cons_zero];(repeat refine AI ?_);refine hK' _ _ ?_;clear hK' K')
  refine aB (g:=none) rfl rfl fun K' hK'=>?_;simp (maxSteps:=4000000) only[sH,↓sP,sA,tyS,simprocAttr,List.getD_cons_zero];refine bH (args:=[_,_]) (aL7 l c) ⟨rfl,rfl,rfl,rfl⟩ ?_;rintro u rfl;repeat refine AI ?_
  refine hK' _ _ ?_;clear hK' K';refine aB (g:=none) rfl rfl fun K' hK'=>?_;simp (maxSteps:=4000000) only[sH,↓sP,sA,tyS,simprocAttr,List.getD_cons_zero];repeat refine AI ?_
  refine hK' _ _ ?_;clear hK' K';simp only[sE,↓reduceIte,simprocAttr];repeat refine AI ?_
  refine hK _ _ _ ?_;clear hK K;refine aT ?_;simp (maxSteps:=4000000) only[bA,Tryz.results82,aY,aZ,aX,↓sP,sA,tyS,simprocAttr];exact bF [] (.int .i64 _) rfl rfl
 exact absurd hb (by decide)
theorem yN (l:List UInt8)(c:UInt8)(hl:l.length<2^40):cL Tryz.prog 58 [.str l,.str [c],.int .i64 0,.int .i64 (-1)] (fun v=>v= .slc ((bD c l).map .str)):=by
 refine bI Tryz.func58 rfl (by kernel_rfl) (bJ _) (Nat.le_of_ble_eq_true rfl) ?_;refine aD fun K hK=>aC (by kernel_rfl) ?_;simp (maxSteps:=4000000) only[↓sP,sA,tyS,simprocAttr];repeat refine AI ?_
 refine hK _ _ _ ?_;clear hK K;refine aD fun K hK=>?_;refine aD fun K hK=>aC (by kernel_rfl) ?_;simp (maxSteps:=4000000) only[↓sP,sA,tyS,simprocAttr];repeat refine AI ?_
 refine hK _ _ _ ?_;clear hK K;refine aQ (b:=(-1:Int)==0) rfl (fun hb=>?_) (fun hb=>?_)
 · exact absurd hb (by decide)
 refine aV ?_;simp (maxSteps:=4000000) only[↓sP,sA,tyS,simprocAttr];repeat refine AI ?_
 refine hK _ _ _ ?_;clear hK K;refine aD fun K hK=>?_;refine aD fun K hK=>aC (by kernel_rfl) ?_;simp (maxSteps:=4000000) only[↓sP,sA,tyS,simprocAttr];repeat refine AI ?_
 refine hK _ _ _ ?_;clear hK K;refine aQ (b:=[c]==[]) rfl (fun hb=>?_) (fun hb=>?_)
 · exact absurd hb (by simp)
 refine aV ?_;simp (maxSteps:=4000000) only[↓sP,sA,tyS,simprocAttr];repeat refine AI ?_
 refine hK _ _ _ ?_;clear hK K;refine aD fun K hK=>?_;refine aD fun K hK=>aC (by kernel_rfl) ?_;simp (maxSteps:=4000000) only[↓sP,sA,tyS,simprocAttr];repeat refine AI ?_
 refine hK _ _ _ ?_;clear hK K;refine aQ (b:=decide ((-1:Int)<0)) rfl (fun hb=>?_) (fun hb=>?_)
 ·
  obtain⟨n,hn⟩: ∃n,n=(bD c l).length:=⟨_,rfl⟩;have hcount:=nK c l;have hlen:=dK c l;rw[←hn]at hcount hlen;have hw0:IntKind.i64.wrap ((Lib.countByte l c:Nat)+1:Int)=(n:Int):=by rw[IntWalk.i64_in _ (by omega)];omega
  refine aC (by kernel_rfl) ?_;simp only[sR,simprocAttr];iterate 2
   (refine aB (g:=none) rfl rfl fun K' hK'=>?_;simp only[sH,↓sP,sA,tyS,simprocAttr,hw0];(repeat refine AI ?_);refine hK' _ _ ?_;clear hK' K')
  refine aB (g:=none) rfl rfl fun K' hK'=>?_;simp (maxSteps:=4000000) only[sH,↓sP,sA,tyS,simprocAttr,hw0];refine bH (args:=[_,_]) (yM l c) ⟨rfl,rfl,rfl,rfl⟩ ?_;rintro u rfl;repeat refine AI ?_
  refine hK' _ _ ?_;clear hK' K';iterate 2
   (refine aB (g:=none) rfl rfl fun K' hK'=>?_;simp only[sH,↓sP,sA,tyS,simprocAttr,hw0];(repeat refine AI ?_);refine hK' _ _ ?_;clear hK' K')
  simp only[sE,↓reduceIte,simprocAttr];repeat refine AI ?_
  refine hK _ _ _ ?_;clear hK K;have hw1:IntKind.i64.wrap ((l.length:Int)+1)=((l.length+1:Nat):Int):=by rw[IntWalk.i64_in _ (by omega)];omega
  have hmin:(if((l.length+1:Nat):Int)<(n:Int)then((l.length+1:Nat):Int)else(n:Int))=(n:Int):=by rw[if_neg (by omega)]
  refine aD fun K hK=>aC (by kernel_rfl) ?_;simp only[sR,simprocAttr];iterate 6
   (refine aB (g:=none) rfl rfl fun K' hK'=>?_;simp only[sH,↓sP,sA,tyS,simprocAttr,hw1,hmin];(repeat refine AI ?_);refine hK' _ _ ?_;clear hK' K')
  simp only[sE,↓reduceIte,simprocAttr];repeat refine AI ?_
  refine hK _ _ _ ?_;clear hK K;have hn0:((n:Int)=0)=False:=by simp;omega
  have hrep:(List.replicate n (CV.str []))=(List.replicate n ([]:aU)).map .str:=by simp
  refine aD fun K hK=>aC (by kernel_rfl) ?_;simp (maxSteps:=4000000) only[↓sP,sA,tyS,simprocAttr,hn0,hrep,Int.toNat_natCast];repeat refine AI ?_
  refine hK _ _ _ ?_;clear hK K;have hw2:IntKind.i64.wrap ((n:Int)-1)=((n-1:Nat):Int):=by rw[IntWalk.i64_in _ (by omega)];omega
  refine aD fun K hK=>aC (by kernel_rfl) ?_;simp (maxSteps:=4000000) only[↓sP,sA,tyS,simprocAttr,hw2];repeat refine AI ?_
  refine hK _ _ _ ?_;clear hK K;refine aD fun K hK=>aC (by kernel_rfl) ?_;simp (maxSteps:=4000000) only[↓sP,sA,tyS,simprocAttr];repeat refine AI ?_
  refine hK _ _ _ ?_;clear hK K;refine aD fun K hK=>?_;refine bE ?_;have hn1:1≤n:=by rw[hn];exact List.length_pos_iff.2 (cJ c l)
  refine cA (α:={y:Nat×aU×List aU//SplSt l c y.1 y.2.1 y.2.2}) (fun y=>(fin [(0,.c (.str y.1.2.1)),(1,.c (.str [c])),(2,.c (.int .i64 0)),(3,.c (.int .i64 (n-1:Nat))),(9,.own 76 n),(10,.c (.int .i64 y.1.1))],fob [(76,.row 9 1 (y.1.2.2.map .str))])) 100 (fun y=>y.1.2.1.length) ⟨(0,l,List.replicate n []),by rw[hn];exact SplSt.init l c⟩ (aS (by omega) (by simp[bK,fin_at,finA_at,upd_at,HV.men,HV.menL,HV.norm,HV.toC,HV.toCL]) (by simp[bM,fob_at,upd_at,none0_at,bY,HO.men,HV.men,HV.menL,HV.norm,HV.toC,HV.toCL])) ?_;rintro⟨⟨i,rest,a⟩,hst⟩;simp only at hst;have hin:i<n:=by rw[hn];exact hst.2.2.2.1
  have hal:a.length=n:=by rw[hn];exact hst.1
  have hia:i<a.length:=by omega
  have hna:nth (a.map CV.str) i= .str a[i]:=bN hia;have hrl:=hst.2.2.2.2;refine aD fun K hK=>?_;refine aD fun K hK=>aC (by kernel_rfl) ?_;simp (maxSteps:=4000000) only[↓sP,sA,tyS,simprocAttr];repeat refine AI ?_
  refine hK _ _ _ ?_;clear hK K;refine aQ (b:=decide ((i:Int)<((n-1:Nat):Int))) rfl (fun hb=>?_) (fun hb=>?_)
  ·
   have hi1:i+1<n:=by simp at hb;omega
   clear hb;refine aV ?_;simp (maxSteps:=4000000) only[↓sP,sA,tyS,simprocAttr];repeat refine AI ?_
   refine hK _ _ _ ?_;clear hK K;refine bE ?_;refine aD fun K hK=>aC (by kernel_rfl) ?_;simp only[sR,simprocAttr];iterate 2
    (refine aB (g:=none) rfl rfl fun K' hK'=>?_;simp only[sH,↓sP,sA,tyS,simprocAttr];(repeat refine AI ?_);refine hK' _ _ ?_;clear hK' K')
   refine aB (g:=none) rfl rfl fun K' hK'=>?_;simp (maxSteps:=4000000) only[sH,↓sP,sA,tyS,simprocAttr];refine bH (args:=[_,_]) (yL rest c) ⟨rfl,rfl,rfl,rfl⟩ ?_;rintro u rfl;repeat refine AI ?_
   refine hK' _ _ ?_;clear hK' K';refine aB (g:=none) rfl rfl fun K' hK'=>?_;simp (maxSteps:=4000000) only[sH,↓sP,sA,tyS,simprocAttr];repeat refine AI ?_
   refine hK' _ _ ?_;clear hK' K';simp only[sE,↓reduceIte,simprocAttr];repeat refine AI ?_
   refine hK _ _ _ ?_;clear hK K;refine aD fun K hK=>?_;refine aD fun K hK=>aC (by kernel_rfl) ?_;simp (maxSteps:=4000000) only[↓sP,sA,tyS,simprocAttr];repeat refine AI ?_
   refine hK _ _ _ ?_;clear hK K;refine aQ (b:=decide (dO rest c<0)) rfl (fun hb=>?_) (fun hb=>?_)
   · have:=hst.last (by simpa using hb);omega
   obtain⟨k,hk,hkl,_⟩:=eW (l:=rest) (c:=c) (by simpa using hb);obtain⟨_,hnx⟩:=hst.next hk;rw[hk];have hkl1:k+1≤rest.length:=hkl;have hw3:IntKind.i64.wrap ((k:Int)+0)=(k:Int):=by rw[IntWalk.i64_in _ (by omega)];omega
   have hw4:IntKind.i64.wrap ((k:Int)+1)=((k+1:Nat):Int):=by rw[IntWalk.i64_in _ (by omega)];rfl
   have hw5:IntKind.i64.wrap ((i:Int)+1)=((i+1:Nat):Int):=by rw[IntWalk.i64_in _ (by omega)];rfl
   have htd:List.take (rest.length-(k+1)) (List.drop (k+1) rest)=List.drop (k+1) rest:=List.take_of_length_le (by simp);refine aV ?_;simp (maxSteps:=4000000) only[↓sP,sA,tyS,simprocAttr];repeat refine AI ?_
   refine hK _ _ _ ?_;clear hK K;refine aD fun K hK=>aC (by kernel_rfl) ?_;simp only[sR,simprocAttr];iterate 9
    (refine aB (g:=none) rfl rfl fun K' hK'=>?_;simp only[sH,↓sP,sA,tyS,simprocAttr,Int.natCast_nonneg,Int.ofNat_le,Int.ofNat_lt,Nat.le_of_lt hkl,hw3,Nat.sub_zero,List.drop_zero,List.length_map,hal,hin,hna];(repeat refine AI ?_);refine hK' _ _ ?_;clear hK' K')
   simp only[sE,↓reduceIte,simprocAttr];repeat refine AI ?_
   refine hK _ _ _ ?_;clear hK K;refine aD fun K hK=>aC (by kernel_rfl) ?_;simp only[sR,simprocAttr];iterate 7
    (refine aB (g:=none) rfl rfl fun K' hK'=>?_;simp only[sH,↓sP,sA,tyS,simprocAttr,Int.natCast_nonneg,Int.ofNat_le,hkl1,hw4,htd];(repeat refine AI ?_);refine hK' _ _ ?_;clear hK' K')
   simp only[sE,↓reduceIte,simprocAttr];repeat refine AI ?_
   refine hK _ _ _ ?_;clear hK K;refine aC (by kernel_rfl) ?_;simp (maxSteps:=4000000) only[↓sP,sA,tyS,simprocAttr,hw5];refine⟨⟨(i+1,rest.drop (k+1),a.set i (rest.take k)),hnx⟩,aS (by omega) ?_ ?_,?_⟩
   · simp[bK,upd_at,fin_at,HV.men]
   · simp only[bM,List.map_set];exact⟨rfl,by omega,trivial,trivial⟩
   show(rest.drop (k+1)).length<rest.length;simp;omega
  refine bW ?_;simp (maxSteps:=4000000) only[↓sP,sA,tyS,simprocAttr];clear hK K;repeat refine AI ?_
  refine hK _ _ _ ?_;clear hK K;have hi1:i+1=n:=by simp at hb;omega
  have hfin:=hst.fin (by omega);have hw5:IntKind.i64.wrap ((i:Int)+1)=(n:Int):=by rw[IntWalk.i64_in _ (by omega)];omega
  refine aD fun K hK=>aC (by kernel_rfl) ?_;simp only[sR,simprocAttr];iterate 5
   (refine aB (g:=none) rfl rfl fun K' hK'=>?_;simp only[sH,↓sP,sA,tyS,simprocAttr,Int.natCast_nonneg,Int.ofNat_lt,List.length_map,hal,hin,hna];(repeat refine AI ?_);refine hK' _ _ ?_;clear hK' K')
  simp only[sE,↓reduceIte,simprocAttr];repeat refine AI ?_
  refine hK _ _ _ ?_;clear hK K;refine aD fun K hK=>aC (by kernel_rfl) ?_;simp only[sR,simprocAttr];iterate 5
   (refine aB (g:=none) rfl rfl fun K' hK'=>?_;simp only[sH,↓sP,sA,tyS,simprocAttr,Int.natCast_nonneg,hw5,List.length_map,List.length_set,hal,Int.le_refl];(repeat refine AI ?_);refine hK' _ _ ?_;clear hK' K')
  simp only[sE,↓reduceIte,simprocAttr];repeat refine AI ?_
  refine hK _ _ _ ?_;clear hK K;refine aT ?_;simp (maxSteps:=4000000) only[bA,Tryz.results58,aY,aZ,aX,↓sP,sA,tyS,simprocAttr];refine bF [76] (.slc ((bD c l).map .str)) ?_ rfl;have hset:(a.map CV.str).set i (CV.str rest)=(bD c l).map .str:=by rw[←List.map_set,hfin]
  have ht:List.take n ((bD c l).map CV.str)=(bD c l).map .str:=List.take_of_length_le (by simp[hn]);rw[hset];have hn0':0<n:=hn1;simp[HV.close,upd_at,←hn,HV.norm,HV.toC,CV.denil,denilL_str,ht,hn0']
 exact absurd hb (by decide)
theorem yO (l:List UInt8)(c:UInt8)(hl:l.length<2^40):cL Tryz.prog 41 [.str l,.str [c]] (fun v=>v= .slc ((bD c l).map .str)):=by
 refine bI Tryz.func41 rfl (by kernel_rfl) (bJ _) (Nat.le_of_ble_eq_true rfl) ?_;refine aD fun K hK=>aC (by kernel_rfl) ?_;simp (maxSteps:=4000000) only[↓sP,sA,tyS,simprocAttr];repeat refine AI ?_
 refine hK _ _ _ ?_;clear hK K;refine aD fun K hK=>aC (by kernel_rfl) ?_;simp only[sR,simprocAttr];iterate 2
  (refine aB (g:=none) rfl rfl fun K' hK'=>?_;simp only[sH,↓sP,sA,tyS,simprocAttr];(repeat refine AI ?_);refine hK' _ _ ?_;clear hK' K')
 refine aB (g:=none) rfl rfl fun K' hK'=>?_;simp (maxSteps:=4000000) only[sH,↓sP,sA,tyS,simprocAttr];refine bH (args:=[_,_,_,_]) (yN l c hl) ⟨rfl,rfl,rfl,rfl⟩ ?_;rintro u rfl;repeat refine AI ?_
 refine hK' _ _ ?_;clear hK' K';refine aB (g:=none) rfl rfl fun K' hK'=>?_;simp (maxSteps:=4000000) only[sH,↓sP,sA,tyS,simprocAttr];repeat refine AI ?_
 refine hK' _ _ ?_;clear hK' K';simp only[sE,↓reduceIte,simprocAttr];repeat refine AI ?_
 refine hK _ _ _ ?_;clear hK K;refine aT ?_;simp (maxSteps:=4000000) only[bA,Tryz.results41,aY,aZ,aX,↓sP,sA,tyS,simprocAttr];exact bF [] (.slc ((bD c l).map .str)) (by simp[HV.close,HV.norm,HV.toC,CV.denil,denilL_str]) rfl
end Go.Proofs.YtflnfidkociekaaGreatDoor
