/- Plain Lean: small derivations are encoded without an error (31.4). By an AI agent. -/
import Derived.Test.YthedbjfipmkpiaaGreatDoorHdV1
import Derived.Test.YthedbjfipmkpiaaGreatDoorHdSb
import Derived.Test.YthedbjfipmkpiaaGreatDoorHdV9
import Derived.Test.YthedbjfipmkpiaaGreatDoorPl31
import Derived.Test.YthedbjfipmkpiaaGreatDoorHdU5
set_option linter.unusedSimpArgs false
set_option linter.unusedVariables false
set_option linter.defProp false
namespace Go.Proofs.YthedbjfipmkpiaaGreatDoor
open Go Go.Hl Go.Pl
set_option maxRecDepth 10000
set_option maxHeartbeats 8000000
abbrev I64 (n:Int):Prop:= -9223372036854775808≤n∧n≤9223372036854775807
structure LnW (x:Ln):Prop where
 k:I64 x.k
 n:I64 x.n
 f: ∀n∈x.f,I64 n
 fl:x.f.length<2^38
 dl:x.d.length<2^38
variable {k:Int}
theorem kk1 (h:(k==1)=true)(h2:(k !=1)=true):False:=bne_iff_ne.1 h2 (eq_of_beq h)
theorem kk2 (h:(k==1)=false)(h2:(k !=1)=false):False:=by
 rw[bne,h]at h2;cases h2
def kL (x:Ln):Bool:=((!inB x.k 1 5||!iM x.n)||(x.k==1&&decide ((x.f.length:Int)>0)))||(!(x.k==1)&&decide ((x.d.length:Int)>0))
variable {x:Ln}
theorem pP :fP x=(!kL x&&x.f.all iM):=by
 have e1:(x.f==[])=!decide ((x.f.length:Int)>0):=by
  cases x.f with
  |nil=>rfl
  |cons a l=>
   have:decide (((a::l).length:Int)>0)=true:=decide_eq_true (by simp only[List.length_cons];omega);rw[this];rfl
 have e2:(x.d==[])=!decide ((x.d.length:Int)>0):=by
  cases x.d with
  |nil=>rfl
  |cons a l=>
   have:decide (((a::l).length:Int)>0)=true:=decide_eq_true (by simp only[List.length_cons];omega);rw[this];rfl
 unfold fP kL;by_cases hk:x.k=1
 ·
  rw[if_pos hk,e1,hk];cases hf:decide ((x.f.length:Int)>0)with
  |true=>simp
  |false=>
   have:x.f=[]:=List.eq_nil_of_length_eq_zero (by have:=of_decide_eq_false hf;omega);rw[this];simp
 rw[if_neg hk,e2,show(x.k==1)=false from beq_eq_false_iff_ne.2 hk];cases inB x.k 1 5<;>cases iM x.n<;>cases x.f.all iM<;>cases decide ((x.d.length:Int)>0)<;>rfl
variable {i:Nat}
theorem uC (h:i<x.f.length):(x.f.take (i+1)).map fU=(x.f.take i).map fU++[fU x.f[i]]:=by
 rw[List.take_succ_eq_append_getElem h,List.map_append];rfl
variable {l:List Int}
theorem all_take (h:i<l.length)(h0:(l.take i).all iM=true)(h1:iM l[i]=true):(l.take (i+1)).all iM=true:=by
 rw[List.take_succ_eq_append_getElem h,List.all_append,h0];simp[h1]
theorem cA8 (h:i<l.length)(h1:iM l[i]=false):l.all iM=false:=by
 rw[List.all_eq_false];exact⟨_,List.getElem_mem h,by simp[h1]⟩
theorem aA6 {l:List Dig}(h:i<l.length):(l.take (i+1)).map mI=(l.take i).map mI++[mI l[i]]:=by
 rw[List.take_succ_eq_append_getElem h,List.map_append];rfl
def xG (x:Ln):List (List aH):=if fP x then fC x else []
theorem lines_ok (x:Ln)(hx:LnW x):qR Tryz.prog 47 tabs [x.cv] (fun u v=>u= .slc ((xG x).map lsC)∧v= .bool (fP x)):=by
 refine bB (args:=[.c x.cv]) Tryz.func47 rfl (by kernel_rfl) (fS tabs [x.cv]) (Nat.le_of_ble_eq_true rfl) ?_;unfold fN;obtain⟨w1,w2⟩:=bZ6 x.k;have hno: ∀{ob:Ob} {r:HV},fP x=false→r= .tup [.c .nils,.c (.bool false)]→ob 0=some (.tab tabs)→iO 1 r ob (fun r ob'=> ∃u v,r= .tup [.c u,.c v]∧ob'=fob [(0,.tab tabs)]∧(u= .slc ((xG x).map lsC)∧v= .bool (fP x))):=fun {ob r} hf hr h0=>by
  subst hr;exact eP [] (.slc []) (.bool false) (by simp[HV.close,HV.closeL,CV.denil,CV.denilL,HV.norm,HV.toC,HV.toCL]) h0 (by simp) ⟨by rw[xG,hf];rfl,by rw[hf]⟩
 refine aE fun K hK=>aD (by kernel_rfl) ?_;simp (maxSteps:=4000000) only[↓sP,sA,tyS,simprocAttr];repeat refine AI ?_
 refine hK _ _ _ ?_;clear hK K;refine aE fun K hK=>dR mixed [(1,[],[]),(2,[],[]),(0,[],[1,2]),(3,[],[]),(4,[],[]),(5,[],[]),(6,[],[]),(7,[],[]),(8,[],[])] [0,0,2,7,15,31,31,63,255] (by kernel_rfl) (by kernel_rfl) (by kernel_rfl) (by kernel_rfl) rfl (by kernel_rfl) ?_;iterate 2
  (refine cA (g:=none) rfl rfl fun K' hK'=>?_;simp only[sH,↓sP,sA,tyS,simprocAttr];(repeat refine AI ?_);refine hK' _ _ ?_;clear hK' K')
 refine cA (g:=none) rfl rfl fun K' hK'=>?_;simp (maxSteps:=4000000) only[sH,↓sP,sA,tyS,simprocAttr];refine fE [] aM6 rfl trivial (by simp) (by simp) ⟨rfl,rfl,rfl,rfl⟩ (by simp[dU]) (by simp[HV.menL]) ?_;rintro r os' ⟨rfl,rfl⟩;rw[bS6,aZ2];repeat refine AI ?_
 refine hK' _ _ ?_;clear hK' K';refine cF (g:=none) rfl rfl fun K' hK'=>?_;simp (maxSteps:=4000000) only[sN,↓hopH.eq_def,sH,↓sP,sA,tyS,simprocAttr];refine⟨wlK,rfl,bZ7,?_⟩;rw[w1,w2];repeat refine AI ?_
 refine hK' _ _ ?_;clear hK' K';iterate 5
  (refine cA (g:=none) rfl rfl fun K' hK'=>?_;simp only[sH,↓sP,sA,tyS,simprocAttr];(repeat refine AI ?_);refine hK' _ _ ?_;clear hK' K')
 simp only[sE,↓reduceIte,simprocAttr];repeat refine AI ?_
 refine hK _ _ _ ?_;clear hK K;refine aE fun K hK=>aD (by kernel_rfl) ?_;simp only[sR,simprocAttr];iterate 2
  (refine aC (g:=none) rfl rfl fun K' hK'=>?_;simp only[sH,↓sP,sA,tyS,simprocAttr];(repeat refine AI ?_);refine hK' _ _ ?_;clear hK' K')
 refine aC (g:=none) rfl rfl fun K' hK'=>?_;simp (maxSteps:=4000000) only[sH,↓sP,sA,tyS,simprocAttr];refine fO (args:=[_]) 0 (aE7 x.n hx.n) rfl (by simp) ⟨rfl,rfl,rfl,rfl⟩ ?_;rintro u v ⟨rfl,rfl⟩;repeat refine AI ?_
 refine hK' _ _ ?_;clear hK' K';iterate 5
  (refine aC (g:=none) rfl rfl fun K' hK'=>?_;simp only[sH,↓sP,sA,tyS,simprocAttr];(repeat refine AI ?_);refine hK' _ _ ?_;clear hK' K')
 simp only[sE,↓reduceIte,simprocAttr];repeat refine AI ?_
 refine hK _ _ _ ?_;clear hK K;refine aE fun K hK=>?_;refine aE fun K hK=>?_;have key: ∀(b:Bool) fr ob nx,b=kL x→Fits 1 fr ob (fin [(1,.ptr 1 0),(4,.c (.str (wordK x.k))),(6,.c (.str (fU x.n))),(56,.c (.bool b))]) (fob [(0,.tab tabs),(1,.box 41 (.c x.cv))]) 600→K fr ob nx:=by
  rintro b fr ob nx rfl hf;refine hK _ _ _ (bW hf ?_);clear hf hK K;refine aG (b:=kL x) rfl (fun hb=>?_) (fun hb=>?_)
  ·
   refine aE fun K hK=>aD (by kernel_rfl) ?_;simp (maxSteps:=4000000) only[↓sP,sA,tyS,simprocAttr];repeat refine AI ?_
   refine hK _ _ _ ?_;clear hK K;refine aJ ?_;simp (maxSteps:=4000000) only[aV,Tryz.results47,aR,aT,aQ,↓sP,sA,tyS,simprocAttr];exact hno (by rw[pP,hb];rfl) rfl rfl
  have hbad:kL x=false:=hb;clear hb;refine aK ?_;simp (maxSteps:=4000000) only[↓sP,sA,tyS,simprocAttr];repeat refine AI ?_
  refine hK _ _ _ ?_;clear hK K;refine aE fun K hK=>aD (by kernel_rfl) ?_;simp only[sR,simprocAttr];iterate 4
   (refine aC (g:=none) rfl rfl fun K' hK'=>?_;simp only[sH,↓sP,sA,tyS,simprocAttr];(repeat refine AI ?_);refine hK' _ _ ?_;clear hK' K')
  simp only[sE,↓reduceIte,simprocAttr];repeat refine AI ?_
  refine hK _ _ _ ?_;clear hK K;refine aE fun K hK=>?_;refine aE fun K hK=>aD (by kernel_rfl) ?_;simp only[sR,simprocAttr];iterate 4
   (refine aC (g:=none) rfl rfl fun K' hK'=>?_;simp only[sH,↓sP,sA,tyS,simprocAttr];(repeat refine AI ?_);refine hK' _ _ ?_;clear hK' K')
  simp only[sE,↓reduceIte,simprocAttr];repeat refine AI ?_
  refine hK _ _ _ ?_;clear hK K;refine aP ?_;refine bT (α:={i:Nat//i≤x.f.length∧(x.f.take i).all iM=true}) (fun i=>(fin [(1,.ptr 1 0),(8,.own 608 (2+i.1)),(61,.c (.slc (x.f.map (CV.int .i64)))),(62,.c (.int .i64 x.f.length)),(63,.c (.int .i64 i.1))],fob [(0,.tab tabs),(1,.box 41 (.c x.cv)),(608,.row 9 1 ((wordK x.k::fU x.n::(x.f.take i.1).map fU).map .str))])) 2000 (fun i=>x.f.length-i.1) ⟨0,by omega,by simp⟩ (aI (by omega) (by simp[aY,fin_at,finA_at,upd_at,HV.men,HV.menL,HV.norm,HV.toC,HV.toCL]) (by simp[bA,fob_at,upd_at,none0_at,bO,HO.men,HV.men,HV.menL,HV.norm,HV.toC,HV.toCL])) ?_;rintro⟨i,hi,hall⟩;refine aE fun K hK=>aD (by kernel_rfl) ?_;simp (maxSteps:=4000000) only[↓sP,sA,tyS,simprocAttr];repeat refine AI ?_
  refine hK _ _ _ ?_;clear hK K;refine aE fun K hK=>?_;refine aG (b:=decide ((i:Int)<x.f.length)) rfl (fun hb=>?_) (fun hb=>?_)
  ·
   have hlt:i<x.f.length:=by have:=of_decide_eq_true hb;omega
   have hfl:=hx.fl;have hti:(x.f.take i).length=i:=by simp;omega
   clear hb;refine aK ?_;simp (maxSteps:=4000000) only[↓sP,sA,tyS,simprocAttr];repeat refine AI ?_
   refine hK _ _ _ ?_;clear hK K;refine aE fun K hK=>?_;refine aP ?_;refine aE fun K hK=>aD (by kernel_rfl) ?_;simp (maxSteps:=4000000) only[↓sP,sA,tyS,simprocAttr,Int.natCast_nonneg,Int.ofNat_lt,hlt,aZ hlt];repeat refine AI ?_
   refine hK _ _ _ ?_;clear hK K;refine aE fun K hK=>aD (by kernel_rfl) ?_;simp only[sR,simprocAttr];refine aC (g:=none) rfl rfl fun K' hK'=>?_;simp (maxSteps:=4000000) only[sH,↓sP,sA,tyS,simprocAttr];repeat refine AI ?_
   refine hK' _ _ ?_;clear hK' K';refine aC (g:=none) rfl rfl fun K' hK'=>?_;simp (maxSteps:=4000000) only[sH,↓sP,sA,tyS,simprocAttr];refine fO (args:=[_]) 0 (aE7 x.f[i] (hx.f _ (List.getElem_mem hlt))) rfl (by simp) ⟨rfl,rfl,rfl,rfl⟩ ?_;rintro u v ⟨rfl,rfl⟩;repeat refine AI ?_
   refine hK' _ _ ?_;clear hK' K';iterate 5
    (refine aC (g:=none) rfl rfl fun K' hK'=>?_;simp only[sH,↓sP,sA,tyS,simprocAttr];(repeat refine AI ?_);refine hK' _ _ ?_;clear hK' K')
   simp only[sE,↓reduceIte,simprocAttr];repeat refine AI ?_
   refine hK _ _ _ ?_;clear hK K;refine aE fun K hK=>?_;refine aE fun K hK=>aD (by kernel_rfl) ?_;simp (maxSteps:=4000000) only[↓sP,sA,tyS,simprocAttr];repeat refine AI ?_
   refine hK _ _ _ ?_;clear hK K;refine aG (b:=!iM x.f[i]) rfl (fun hb=>?_) (fun hb=>?_)
   ·
    refine aE fun K hK=>aD (by kernel_rfl) ?_;simp (maxSteps:=4000000) only[↓sP,sA,tyS,simprocAttr];repeat refine AI ?_
    refine hK _ _ _ ?_;clear hK K;refine aJ ?_;simp (maxSteps:=4000000) only[aV,Tryz.results47,aR,aT,aQ,↓sP,sA,tyS,simprocAttr];exact hno (by rw[pP,cA8 hlt (by simpa using hb),Bool.and_false]) rfl rfl
   have h40:iM x.f[i]=true:=by simpa using hb
   clear hb;refine aK ?_;simp (maxSteps:=4000000) only[↓sP,sA,tyS,simprocAttr];repeat refine AI ?_
   refine hK _ _ _ ?_;clear hK K;refine aD (by kernel_rfl) ?_;simp only[sR,simprocAttr];iterate 5
    (refine aC (g:=none) rfl rfl fun K' hK'=>?_;simp only[sH,↓sP,sA,tyS,simprocAttr,List.length_cons,List.length_map,hti];(repeat refine AI ?_);refine hK' _ _ ?_;clear hK' K')
   simp only[sE,↓reduceIte,simprocAttr];repeat refine AI ?_
   refine hK _ _ _ ?_;clear hK K;refine aD (by kernel_rfl) ?_;simp (maxSteps:=4000000) only[↓sP,sA,tyS,simprocAttr,IntWalk.i64_in _ (show-9223372036854775808≤(i:Int)+1∧(i:Int)+1≤9223372036854775807 by omega)];have hmn:min i x.f.length+1+1+1=2+(i+1):=by omega
   refine⟨⟨i+1,by omega,all_take hlt hall h40⟩,(aI (by omega) (by simp[aY,fin_at,finA_at,upd_at,HV.men,HV.menL,HV.norm,HV.toC,HV.toCL,uC hlt,List.map_append,hti,hmn]) (by simp[bA,fob_at,upd_at,none0_at,bO,HO.men,HV.men,HV.menL,HV.norm,HV.toC,HV.toCL,uC hlt,List.map_append,hti,hmn])),?_⟩;show x.f.length-(i+1)<x.f.length-i;omega
  have hie:i=x.f.length:=by have:=of_decide_eq_false hb;omega
  subst hie;rw[List.take_length]at hall;clear hb;have hfine:fP x=true:=by rw[pP,hbad,hall];rfl
  refine bL ?_;simp (maxSteps:=4000000) only[↓sP,sA,tyS,simprocAttr];clear hK K;repeat refine AI ?_
  refine hK _ _ _ ?_;clear hK K;have hfl2:2+x.f.length=x.f.length+1+1:=by omega
  refine fM [608] (bW (fr2:=fin [(1,.ptr 1 0),(8,.c (lsC (firstL x)))]) (ob2:=fob [(0,.tab tabs),(1,.box 41 (.c x.cv))]) (nx2:=3000) (aI (by omega) (by simp[aY,fL,fin_at,finA_at,upd_at,fob_at,HV.close,HV.closeL,CV.denil,CV.denilL,denilL_str,hfl2,lsC,firstL,HV.men,HV.menL,HV.norm,HV.toC,HV.toCL]) (by simp[bA,iF,fob_at,upd_at,none0_at,bO,HO.close,HV.close,HV.closeL,Ln.denil,HO.men,HV.men,HV.menL,HV.norm,HV.toC,HV.toCL])) ?_);refine aE fun K hK=>aD (by kernel_rfl) ?_;simp (maxSteps:=4000000) only[↓sP,sA,tyS,simprocAttr];repeat refine AI ?_
  refine hK _ _ _ ?_;clear hK K;refine aE fun K hK=>?_;refine aE fun K hK=>aD (by kernel_rfl) ?_;simp only[sR,simprocAttr];iterate 4
   (refine aC (g:=none) rfl rfl fun K' hK'=>?_;simp only[sH,↓sP,sA,tyS,simprocAttr];(repeat refine AI ?_);refine hK' _ _ ?_;clear hK' K')
  simp only[sE,↓reduceIte,simprocAttr];repeat refine AI ?_
  refine hK _ _ _ ?_;clear hK K;refine aP ?_;refine bT (α:={i:Nat//i≤x.d.length}) (fun i=>(fin [(13,.own 3004 (1+i.1)),(82,.c (.slc (x.d.map dg))),(83,.c (.int .i64 x.d.length)),(84,.c (.int .i64 i.1))],fob [(0,.tab tabs),(3004,.row 71 1 ((firstL x::(x.d.take i.1).map mI).map lsC))])) 5000 (fun i=>x.d.length-i.1) ⟨0,by omega⟩ (aI (by omega) (by simp[aY,fin_at,finA_at,upd_at,HV.men,HV.menL,HV.norm,HV.toC,HV.toCL,tC]) (by simp[bA,fob_at,upd_at,none0_at,bO,HO.men,HV.men,HV.menL,HV.norm,HV.toC,HV.toCL,tC])) ?_;rintro⟨i,hi⟩;refine aE fun K hK=>aD (by kernel_rfl) ?_;simp (maxSteps:=4000000) only[↓sP,sA,tyS,simprocAttr];repeat refine AI ?_
  refine hK _ _ _ ?_;clear hK K;refine aE fun K hK=>?_;refine aG (b:=decide ((i:Int)<x.d.length)) rfl (fun hb=>?_) (fun hb=>?_)
  ·
   have hlt:i<x.d.length:=by have:=of_decide_eq_true hb;omega
   have hdl:=hx.dl;have hti:(x.d.take i).length=i:=by simp;omega
   clear hb;refine aK ?_;simp (maxSteps:=4000000) only[↓sP,sA,tyS,simprocAttr];repeat refine AI ?_
   refine hK _ _ _ ?_;clear hK K;refine aE fun K hK=>?_;refine aP ?_;refine aE fun K hK=>aD (by kernel_rfl) ?_;simp only[sR,simprocAttr];iterate 4
    (refine aC (g:=none) rfl rfl fun K' hK'=>?_;simp only[sH,↓sP,sA,tyS,simprocAttr,Int.natCast_nonneg,Int.ofNat_lt,hlt,aZ hlt];(repeat refine AI ?_);refine hK' _ _ ?_;clear hK' K')
   simp only[sE,↓reduceIte,simprocAttr];repeat refine AI ?_
   refine hK _ _ _ ?_;clear hK K;refine cJ (by kernel_rfl) ?_;simp only[sR,simprocAttr];iterate 2
    (refine bF (g:=none) rfl rfl fun K' hK'=>?_;simp only[sH,↓sP,sA,tyS,simprocAttr,List.length_cons,List.length_map,hti];(repeat refine AI ?_);refine hK' _ _ ?_;clear hK' K')
   refine bF (g:=none) rfl rfl fun K' hK'=>?_;simp (maxSteps:=4000000) only[sH,↓sP,sA,tyS,simprocAttr,List.length_cons,List.length_map,hti];refine bD (args:=[_]) (uT x.d[i]) ⟨rfl,rfl,rfl,rfl⟩ ?_;rintro u rfl;repeat refine AI ?_
   refine hK' _ _ ?_;clear hK' K';refine eN (g:=none) 5032 rfl rfl fun K' hK'=>?_;simp (maxSteps:=4000000) only[jM,mG,sH,↓sP,sA,tyS,simprocAttr,List.length_cons,List.length_map,hti];repeat refine AI ?_
   refine eI (by first|rfl|simp) ?_;try simp (maxSteps:=4000000) only[sH,↓sP,sA,tyS,simprocAttr,List.length_cons,List.length_map,hti]
   repeat refine AI ?_
   refine hK' _ _ ?_;clear hK' K';iterate 3
    (refine bF (g:=none) rfl rfl fun K' hK'=>?_;simp only[sH,↓sP,sA,tyS,simprocAttr,List.length_cons,List.length_map,hti];(repeat refine AI ?_);refine hK' _ _ ?_;clear hK' K')
   simp only[sE,↓reduceIte,simprocAttr];repeat refine AI ?_
   refine hK _ _ _ ?_;clear hK K;refine aD (by kernel_rfl) ?_;simp (maxSteps:=4000000) only[↓sP,sA,tyS,simprocAttr,IntWalk.i64_in _ (show-9223372036854775808≤(i:Int)+1∧(i:Int)+1≤9223372036854775807 by omega)];have hmn2:min i x.d.length+1+1=1+(i+1):=by omega
   refine⟨⟨i+1,by omega⟩,(aI (by omega) (by simp[aY,fin_at,finA_at,upd_at,HV.men,HV.menL,HV.norm,HV.toC,HV.toCL,aA6 hlt,List.map_append,hti,mI,lsC,oI,hmn2]) (by simp[bA,fob_at,upd_at,none0_at,bO,HO.men,HV.men,HV.menL,HV.norm,HV.toC,HV.toCL,aA6 hlt,List.map_append,hti,mI,lsC,oI,hmn2])),?_⟩;show x.d.length-(i+1)<x.d.length-i;omega
  have hie:i=x.d.length:=by have:=of_decide_eq_false hb;omega
  subst hie;clear hb;refine bL ?_;simp (maxSteps:=4000000) only[↓sP,sA,tyS,simprocAttr];clear hK K;repeat refine AI ?_
  refine hK _ _ _ ?_;clear hK K;refine aE fun K hK=>aD (by kernel_rfl) ?_;simp (maxSteps:=4000000) only[↓sP,sA,tyS,simprocAttr];repeat refine AI ?_
  refine hK _ _ _ ?_;clear hK K;refine aJ ?_;simp (maxSteps:=4000000) only[aV,Tryz.results47,aR,aT,aQ,↓sP,sA,tyS,simprocAttr];have hdl2:1+x.d.length=x.d.length+1:=by omega
  rw[List.take_length];refine eP [3004] (.slc ((fC x).map lsC)) (.bool true) ?_ rfl (by simp) ⟨by rw[xG,if_pos hfine],by rw[hfine]⟩;simp[HV.close,HV.closeL,fob_at,upd_at,CV.denil,HV.norm,HV.toC,HV.toCL,fC,hdl2]
 refine aD (by kernel_rfl) ?_;simp only[sR,simprocAttr];iterate 3
  (refine aC (g:=none) rfl rfl fun K' hK'=>?_;simp only[sH,↓sP,sA,tyS,simprocAttr,List.length_map];(repeat refine AI ?_);refine hK' _ _ ?_;clear hK' K')
 refine aL 29 rfl (fun h3_29=>?_) (fun h3_29=>?_)
 ·
  iterate 2
   (refine aC (g:=some (31,false)) rfl rfl fun K' hK'=>?_;simp only[sH,↓sP,sA,tyS,simprocAttr,List.length_map,h3_29];(repeat refine AI ?_);refine hK' _ _ ?_;clear hK' K')
  iterate 2
   (refine aC (g:=none) rfl rfl fun K' hK'=>?_;simp only[sH,↓sP,sA,tyS,simprocAttr,List.length_map,h3_29];(repeat refine AI ?_);refine hK' _ _ ?_;clear hK' K')
  refine aL 32 rfl (fun h3_32=>?_) (fun h3_32=>?_)
  ·
   iterate 4
    (refine aC (g:=some (35,false)) rfl rfl fun K' hK'=>?_;simp only[sH,↓sP,sA,tyS,simprocAttr,List.length_map,h3_29,h3_32];(repeat refine AI ?_);refine hK' _ _ ?_;clear hK' K')
   refine aL 38 rfl (fun h3_38=>?_) (fun h3_38=>?_)
   ·
    iterate 4
     (refine aC (g:=some (39,true)) rfl rfl fun K' hK'=>?_;simp only[sH,↓sP,sA,tyS,simprocAttr,List.length_map,h3_29,h3_32,h3_38];(repeat refine AI ?_);refine hK' _ _ ?_;clear hK' K')
    refine aC (g:=some (35,false)) rfl rfl fun K' hK'=>?_;simp (maxSteps:=4000000) only[sH,↓sP,sA,tyS,simprocAttr,List.length_map,h3_29,h3_32,h3_38];repeat refine AI ?_
    refine hK' _ _ ?_;clear hK' K';iterate 2
     (refine aC (g:=none) rfl rfl fun K' hK'=>?_;simp only[sH,↓sP,sA,tyS,simprocAttr,List.length_map,h3_29,h3_32,h3_38];(repeat refine AI ?_);refine hK' _ _ ?_;clear hK' K')
    refine aL 43 rfl (fun h3_43=>?_) (fun h3_43=>?_)
    ·
     iterate 4
      (refine aC (g:=some (46,false)) rfl rfl fun K' hK'=>?_;simp only[sH,↓sP,sA,tyS,simprocAttr,List.length_map,h3_29,h3_32,h3_38,h3_43];(repeat refine AI ?_);refine hK' _ _ ?_;clear hK' K')
     iterate 4
      (refine aC (g:=some (50,true)) rfl rfl fun K' hK'=>?_;simp only[sH,↓sP,sA,tyS,simprocAttr,List.length_map,h3_29,h3_32,h3_38,h3_43];(repeat refine AI ?_);refine hK' _ _ ?_;clear hK' K')
     refine aC (g:=some (46,false)) rfl rfl fun K' hK'=>?_;simp (maxSteps:=4000000) only[sH,↓sP,sA,tyS,simprocAttr,List.length_map,h3_29,h3_32,h3_38,h3_43];repeat refine AI ?_
     refine hK' _ _ ?_;clear hK' K';refine aC (g:=none) rfl rfl fun K' hK'=>?_;simp (maxSteps:=4000000) only[sH,↓sP,sA,tyS,simprocAttr,List.length_map,h3_29,h3_32,h3_38,h3_43];repeat refine AI ?_
     refine hK' _ _ ?_;clear hK' K';simp only[sE,↓reduceIte,simprocAttr];exact key true _ _ _ (by first|(simp only[kL,h3_29,h3_32,h3_38,h3_43,Bool.not_true,Bool.not_false,Bool.true_or,Bool.false_or,Bool.true_and,Bool.false_and];done)|(exfalso;first|exact kk1 (by assumption) (by assumption)|exact kk2 (by assumption) (by assumption))) (aI (by omega) (by simp[aY,fin_at,finA_at,upd_at,HV.men,HV.menL,HV.norm,HV.toC,HV.toCL]) (by simp[bA,fob_at,upd_at,none0_at,bO,HO.men,HV.men,HV.menL,HV.norm,HV.toC,HV.toCL]))
    iterate 4
     (refine aC (g:=some (46,false)) rfl rfl fun K' hK'=>?_;simp only[sH,↓sP,sA,tyS,simprocAttr,List.length_map,h3_29,h3_32,h3_38,h3_43];(repeat refine AI ?_);refine hK' _ _ ?_;clear hK' K')
    refine aL 49 rfl (fun h3_49=>?_) (fun h3_49=>?_)
    ·
     iterate 4
      (refine aC (g:=some (50,true)) rfl rfl fun K' hK'=>?_;simp only[sH,↓sP,sA,tyS,simprocAttr,List.length_map,h3_29,h3_32,h3_38,h3_43,h3_49];(repeat refine AI ?_);refine hK' _ _ ?_;clear hK' K')
     refine aC (g:=some (46,false)) rfl rfl fun K' hK'=>?_;simp (maxSteps:=4000000) only[sH,↓sP,sA,tyS,simprocAttr,List.length_map,h3_29,h3_32,h3_38,h3_43,h3_49];repeat refine AI ?_
     refine hK' _ _ ?_;clear hK' K';refine aC (g:=none) rfl rfl fun K' hK'=>?_;simp (maxSteps:=4000000) only[sH,↓sP,sA,tyS,simprocAttr,List.length_map,h3_29,h3_32,h3_38,h3_43,h3_49];repeat refine AI ?_
     refine hK' _ _ ?_;clear hK' K';refine aL 54 rfl (fun h3_54=>?_) (fun h3_54=>?_)
     · simp only[h3_54];simp only[sE,↓reduceIte,simprocAttr];exact key true _ _ _ (by first|(simp only[kL,h3_29,h3_32,h3_38,h3_43,h3_49,h3_54,Bool.not_true,Bool.not_false,Bool.true_or,Bool.false_or,Bool.true_and,Bool.false_and];done)|(exfalso;first|exact kk1 (by assumption) (by assumption)|exact kk2 (by assumption) (by assumption))) (aI (by omega) (by simp[aY,fin_at,finA_at,upd_at,HV.men,HV.menL,HV.norm,HV.toC,HV.toCL]) (by simp[bA,fob_at,upd_at,none0_at,bO,HO.men,HV.men,HV.menL,HV.norm,HV.toC,HV.toCL]))
     simp only[h3_54];simp only[sE,↓reduceIte,simprocAttr];exact key false _ _ _ (by first|(simp only[kL,h3_29,h3_32,h3_38,h3_43,h3_49,h3_54,Bool.not_true,Bool.not_false,Bool.true_or,Bool.false_or,Bool.true_and,Bool.false_and];done)|(exfalso;first|exact kk1 (by assumption) (by assumption)|exact kk2 (by assumption) (by assumption))) (aI (by omega) (by simp[aY,fin_at,finA_at,upd_at,HV.men,HV.menL,HV.norm,HV.toC,HV.toCL]) (by simp[bA,fob_at,upd_at,none0_at,bO,HO.men,HV.men,HV.menL,HV.norm,HV.toC,HV.toCL]))
    iterate 4
     (refine aC (g:=some (50,true)) rfl rfl fun K' hK'=>?_;simp only[sH,↓sP,sA,tyS,simprocAttr,List.length_map,h3_29,h3_32,h3_38,h3_43,h3_49];(repeat refine AI ?_);refine hK' _ _ ?_;clear hK' K')
    refine aC (g:=some (46,false)) rfl rfl fun K' hK'=>?_;simp (maxSteps:=4000000) only[sH,↓sP,sA,tyS,simprocAttr,List.length_map,h3_29,h3_32,h3_38,h3_43,h3_49];repeat refine AI ?_
    refine hK' _ _ ?_;clear hK' K';refine aC (g:=none) rfl rfl fun K' hK'=>?_;simp (maxSteps:=4000000) only[sH,↓sP,sA,tyS,simprocAttr,List.length_map,h3_29,h3_32,h3_38,h3_43,h3_49];repeat refine AI ?_
    refine hK' _ _ ?_;clear hK' K';simp only[sE,↓reduceIte,simprocAttr];exact key false _ _ _ (by first|(simp only[kL,h3_29,h3_32,h3_38,h3_43,h3_49,Bool.not_true,Bool.not_false,Bool.true_or,Bool.false_or,Bool.true_and,Bool.false_and];done)|(exfalso;first|exact kk1 (by assumption) (by assumption)|exact kk2 (by assumption) (by assumption))) (aI (by omega) (by simp[aY,fin_at,finA_at,upd_at,HV.men,HV.menL,HV.norm,HV.toC,HV.toCL]) (by simp[bA,fob_at,upd_at,none0_at,bO,HO.men,HV.men,HV.menL,HV.norm,HV.toC,HV.toCL]))
   iterate 4
    (refine aC (g:=some (39,true)) rfl rfl fun K' hK'=>?_;simp only[sH,↓sP,sA,tyS,simprocAttr,List.length_map,h3_29,h3_32,h3_38];(repeat refine AI ?_);refine hK' _ _ ?_;clear hK' K')
   refine aC (g:=some (35,false)) rfl rfl fun K' hK'=>?_;simp (maxSteps:=4000000) only[sH,↓sP,sA,tyS,simprocAttr,List.length_map,h3_29,h3_32,h3_38];repeat refine AI ?_
   refine hK' _ _ ?_;clear hK' K';iterate 2
    (refine aC (g:=none) rfl rfl fun K' hK'=>?_;simp only[sH,↓sP,sA,tyS,simprocAttr,List.length_map,h3_29,h3_32,h3_38];(repeat refine AI ?_);refine hK' _ _ ?_;clear hK' K')
   iterate 4
    (refine aC (g:=some (46,false)) rfl rfl fun K' hK'=>?_;simp only[sH,↓sP,sA,tyS,simprocAttr,List.length_map,h3_29,h3_32,h3_38];(repeat refine AI ?_);refine hK' _ _ ?_;clear hK' K')
   refine aL 49 rfl (fun h3_49=>?_) (fun h3_49=>?_)
   ·
    iterate 4
     (refine aC (g:=some (50,true)) rfl rfl fun K' hK'=>?_;simp only[sH,↓sP,sA,tyS,simprocAttr,List.length_map,h3_29,h3_32,h3_38,h3_49];(repeat refine AI ?_);refine hK' _ _ ?_;clear hK' K')
    refine aC (g:=some (46,false)) rfl rfl fun K' hK'=>?_;simp (maxSteps:=4000000) only[sH,↓sP,sA,tyS,simprocAttr,List.length_map,h3_29,h3_32,h3_38,h3_49];repeat refine AI ?_
    refine hK' _ _ ?_;clear hK' K';refine aC (g:=none) rfl rfl fun K' hK'=>?_;simp (maxSteps:=4000000) only[sH,↓sP,sA,tyS,simprocAttr,List.length_map,h3_29,h3_32,h3_38,h3_49];repeat refine AI ?_
    refine hK' _ _ ?_;clear hK' K';refine aL 54 rfl (fun h3_54=>?_) (fun h3_54=>?_)
    · simp only[h3_54];simp only[sE,↓reduceIte,simprocAttr];exact key true _ _ _ (by first|(simp only[kL,h3_29,h3_32,h3_38,h3_49,h3_54,Bool.not_true,Bool.not_false,Bool.true_or,Bool.false_or,Bool.true_and,Bool.false_and];done)|(exfalso;first|exact kk1 (by assumption) (by assumption)|exact kk2 (by assumption) (by assumption))) (aI (by omega) (by simp[aY,fin_at,finA_at,upd_at,HV.men,HV.menL,HV.norm,HV.toC,HV.toCL]) (by simp[bA,fob_at,upd_at,none0_at,bO,HO.men,HV.men,HV.menL,HV.norm,HV.toC,HV.toCL]))
    simp only[h3_54];simp only[sE,↓reduceIte,simprocAttr];exact key false _ _ _ (by first|(simp only[kL,h3_29,h3_32,h3_38,h3_49,h3_54,Bool.not_true,Bool.not_false,Bool.true_or,Bool.false_or,Bool.true_and,Bool.false_and];done)|(exfalso;first|exact kk1 (by assumption) (by assumption)|exact kk2 (by assumption) (by assumption))) (aI (by omega) (by simp[aY,fin_at,finA_at,upd_at,HV.men,HV.menL,HV.norm,HV.toC,HV.toCL]) (by simp[bA,fob_at,upd_at,none0_at,bO,HO.men,HV.men,HV.menL,HV.norm,HV.toC,HV.toCL]))
   iterate 4
    (refine aC (g:=some (50,true)) rfl rfl fun K' hK'=>?_;simp only[sH,↓sP,sA,tyS,simprocAttr,List.length_map,h3_29,h3_32,h3_38,h3_49];(repeat refine AI ?_);refine hK' _ _ ?_;clear hK' K')
   refine aC (g:=some (46,false)) rfl rfl fun K' hK'=>?_;simp (maxSteps:=4000000) only[sH,↓sP,sA,tyS,simprocAttr,List.length_map,h3_29,h3_32,h3_38,h3_49];repeat refine AI ?_
   refine hK' _ _ ?_;clear hK' K';refine aC (g:=none) rfl rfl fun K' hK'=>?_;simp (maxSteps:=4000000) only[sH,↓sP,sA,tyS,simprocAttr,List.length_map,h3_29,h3_32,h3_38,h3_49];repeat refine AI ?_
   refine hK' _ _ ?_;clear hK' K';simp only[sE,↓reduceIte,simprocAttr];exact key false _ _ _ (by first|(simp only[kL,h3_29,h3_32,h3_38,h3_49,Bool.not_true,Bool.not_false,Bool.true_or,Bool.false_or,Bool.true_and,Bool.false_and];done)|(exfalso;first|exact kk1 (by assumption) (by assumption)|exact kk2 (by assumption) (by assumption))) (aI (by omega) (by simp[aY,fin_at,finA_at,upd_at,HV.men,HV.menL,HV.norm,HV.toC,HV.toCL]) (by simp[bA,fob_at,upd_at,none0_at,bO,HO.men,HV.men,HV.menL,HV.norm,HV.toC,HV.toCL]))
  iterate 4
   (refine aC (g:=some (35,false)) rfl rfl fun K' hK'=>?_;simp only[sH,↓sP,sA,tyS,simprocAttr,List.length_map,h3_29,h3_32];(repeat refine AI ?_);refine hK' _ _ ?_;clear hK' K')
  iterate 4
   (refine aC (g:=some (39,true)) rfl rfl fun K' hK'=>?_;simp only[sH,↓sP,sA,tyS,simprocAttr,List.length_map,h3_29,h3_32];(repeat refine AI ?_);refine hK' _ _ ?_;clear hK' K')
  refine aC (g:=some (35,false)) rfl rfl fun K' hK'=>?_;simp (maxSteps:=4000000) only[sH,↓sP,sA,tyS,simprocAttr,List.length_map,h3_29,h3_32];repeat refine AI ?_
  refine hK' _ _ ?_;clear hK' K';iterate 2
   (refine aC (g:=none) rfl rfl fun K' hK'=>?_;simp only[sH,↓sP,sA,tyS,simprocAttr,List.length_map,h3_29,h3_32];(repeat refine AI ?_);refine hK' _ _ ?_;clear hK' K')
  iterate 4
   (refine aC (g:=some (46,false)) rfl rfl fun K' hK'=>?_;simp only[sH,↓sP,sA,tyS,simprocAttr,List.length_map,h3_29,h3_32];(repeat refine AI ?_);refine hK' _ _ ?_;clear hK' K')
  iterate 4
   (refine aC (g:=some (50,true)) rfl rfl fun K' hK'=>?_;simp only[sH,↓sP,sA,tyS,simprocAttr,List.length_map,h3_29,h3_32];(repeat refine AI ?_);refine hK' _ _ ?_;clear hK' K')
  refine aC (g:=some (46,false)) rfl rfl fun K' hK'=>?_;simp (maxSteps:=4000000) only[sH,↓sP,sA,tyS,simprocAttr,List.length_map,h3_29,h3_32];repeat refine AI ?_
  refine hK' _ _ ?_;clear hK' K';refine aC (g:=none) rfl rfl fun K' hK'=>?_;simp (maxSteps:=4000000) only[sH,↓sP,sA,tyS,simprocAttr,List.length_map,h3_29,h3_32];repeat refine AI ?_
  refine hK' _ _ ?_;clear hK' K';simp only[sE,↓reduceIte,simprocAttr];exact key true _ _ _ (by first|(simp only[kL,h3_29,h3_32,Bool.not_true,Bool.not_false,Bool.true_or,Bool.false_or,Bool.true_and,Bool.false_and];done)|(exfalso;first|exact kk1 (by assumption) (by assumption)|exact kk2 (by assumption) (by assumption))) (aI (by omega) (by simp[aY,fin_at,finA_at,upd_at,HV.men,HV.menL,HV.norm,HV.toC,HV.toCL]) (by simp[bA,fob_at,upd_at,none0_at,bO,HO.men,HV.men,HV.menL,HV.norm,HV.toC,HV.toCL]))
 iterate 2
  (refine aC (g:=some (31,false)) rfl rfl fun K' hK'=>?_;simp only[sH,↓sP,sA,tyS,simprocAttr,List.length_map,h3_29];(repeat refine AI ?_);refine hK' _ _ ?_;clear hK' K')
 iterate 2
  (refine aC (g:=none) rfl rfl fun K' hK'=>?_;simp only[sH,↓sP,sA,tyS,simprocAttr,List.length_map,h3_29];(repeat refine AI ?_);refine hK' _ _ ?_;clear hK' K')
 iterate 4
  (refine aC (g:=some (35,false)) rfl rfl fun K' hK'=>?_;simp only[sH,↓sP,sA,tyS,simprocAttr,List.length_map,h3_29];(repeat refine AI ?_);refine hK' _ _ ?_;clear hK' K')
 iterate 4
  (refine aC (g:=some (39,true)) rfl rfl fun K' hK'=>?_;simp only[sH,↓sP,sA,tyS,simprocAttr,List.length_map,h3_29];(repeat refine AI ?_);refine hK' _ _ ?_;clear hK' K')
 refine aC (g:=some (35,false)) rfl rfl fun K' hK'=>?_;simp (maxSteps:=4000000) only[sH,↓sP,sA,tyS,simprocAttr,List.length_map,h3_29];repeat refine AI ?_
 refine hK' _ _ ?_;clear hK' K';iterate 2
  (refine aC (g:=none) rfl rfl fun K' hK'=>?_;simp only[sH,↓sP,sA,tyS,simprocAttr,List.length_map,h3_29];(repeat refine AI ?_);refine hK' _ _ ?_;clear hK' K')
 iterate 4
  (refine aC (g:=some (46,false)) rfl rfl fun K' hK'=>?_;simp only[sH,↓sP,sA,tyS,simprocAttr,List.length_map,h3_29];(repeat refine AI ?_);refine hK' _ _ ?_;clear hK' K')
 iterate 4
  (refine aC (g:=some (50,true)) rfl rfl fun K' hK'=>?_;simp only[sH,↓sP,sA,tyS,simprocAttr,List.length_map,h3_29];(repeat refine AI ?_);refine hK' _ _ ?_;clear hK' K')
 refine aC (g:=some (46,false)) rfl rfl fun K' hK'=>?_;simp (maxSteps:=4000000) only[sH,↓sP,sA,tyS,simprocAttr,List.length_map,h3_29];repeat refine AI ?_
 refine hK' _ _ ?_;clear hK' K';refine aC (g:=none) rfl rfl fun K' hK'=>?_;simp (maxSteps:=4000000) only[sH,↓sP,sA,tyS,simprocAttr,List.length_map,h3_29];repeat refine AI ?_
 refine hK' _ _ ?_;clear hK' K';simp only[sE,↓reduceIte,simprocAttr];exact key true _ _ _ (by first|(simp only[kL,h3_29,Bool.not_true,Bool.not_false,Bool.true_or,Bool.false_or,Bool.true_and,Bool.false_and];done)|(exfalso;first|exact kk1 (by assumption) (by assumption)|exact kk2 (by assumption) (by assumption))) (aI (by omega) (by simp[aY,fin_at,finA_at,upd_at,HV.men,HV.menL,HV.norm,HV.toC,HV.toCL]) (by simp[bA,fob_at,upd_at,none0_at,bO,HO.men,HV.men,HV.menL,HV.norm,HV.toC,HV.toCL]))
set_option maxHeartbeats 4000000
section
variable (x:Dv)
theorem oQ :CV.getAt 0 1 false x.cv=some (.str x.q.n):=by simp[Dv.cv,Qs.cv,Og.cv,CV.getAt,CV.getAtL,CV.cells,CV.cellsL,dg_cells,dg_getAt]
theorem oR :CV.getAt 1 1 false x.cv=some (.str x.q.i):=by simp[Dv.cv,Qs.cv,Og.cv,CV.getAt,CV.getAtL,CV.cells,CV.cellsL,dg_cells,dg_getAt]
theorem oS :CV.getAt 2 32 true x.cv=some (dg x.q.a):=by simp[Dv.cv,Qs.cv,Og.cv,CV.getAt,CV.getAtL,CV.cells,CV.cellsL,dg_cells,dg_getAt]
theorem oT :CV.getAt 68 32 true x.cv=some (dg x.o.v):=by simp[Dv.cv,Qs.cv,Og.cv,CV.getAt,CV.getAtL,CV.cells,CV.cellsL,dg_cells,dg_getAt]
theorem oU :CV.getAt 100 1 false x.cv=some (.str x.o.l):=by simp[Dv.cv,Qs.cv,Og.cv,CV.getAt,CV.getAtL,CV.cells,CV.cellsL,dg_cells,dg_getAt]
theorem oV :CV.getAt 101 1 false x.cv=some (.str x.o.r):=by simp[Dv.cv,Qs.cv,Og.cv,CV.getAt,CV.getAtL,CV.cells,CV.cellsL,dg_cells,dg_getAt]
end
structure DvW (d:Dv):Prop where
 t:I64 d.t
 r:I64 d.r
 l: ∀x∈d.l,LnW x
 len:(iU d).length<2^38
 ll:d.l.length<2^38
variable {d:Dv}
theorem cI4 (h:DvW d): ∀l∈iU d,l.length<2^40:=fun l hl=>by
 rcases List.mem_append.1 hl with hl|hl
 · simp only[mF,List.mem_cons,List.not_mem_nil,or_false]at hl;rcases hl with rfl|rfl<;>simp
 obtain⟨x,hx,hl⟩:=List.mem_flatMap.1 hl;have:=(h.l x hx).fl;rcases List.mem_cons.1 hl with rfl|hl
 · simp only[firstL,List.length_cons,List.length_map];omega
 obtain⟨a,_,rfl⟩:=List.mem_map.1 hl;simp[mI]
def rJ (d:Dv):Bool:=(!iM d.r||decide (d.t<0))||decide (d.t>1099511627776)
theorem pQ :nG d=(!rJ d&&d.l.all fP):=by
 have e:iM d.t=(!decide (d.t<0)&&!decide (d.t>1099511627776)):=by
  simp only[iM,inB,←decide_not];rw[Bool.eq_iff_iff];simp
 unfold nG rJ;rw[e];cases iM d.r<;>cases decide (d.t<0)<;>cases decide (d.t>1099511627776)<;>simp
def dvT (d:Dv)(i:Nat):List (List aH):=mF d++(d.l.take i).flatMap fC
theorem cA9 (d:Dv):dvT d d.l.length=iU d:=by rw[dvT,List.take_length];rfl
theorem xH (h:i<d.l.length):dvT d (i+1)=dvT d i++fC d.l[i]:=by
 rw[dvT,List.take_succ_eq_append_getElem h,List.flatMap_append,dvT,List.append_assoc];simp
theorem cI5 (d:Dv)(i:Nat):(dvT d i).length≤(iU d).length:=by
 have h1:iU d=dvT d i++(d.l.drop i).flatMap fC:=by
  rw[dvT,List.append_assoc,←List.flatMap_append,List.take_append_drop];rfl
 rw[h1,List.length_append];omega
theorem bI1 {l:List Ln}(h:i<l.length)(h0:(l.take i).all fP=true)(h1:fP l[i]=true):(l.take (i+1)).all fP=true:=by
 rw[List.take_succ_eq_append_getElem h,List.all_append,h0];simp[h1]
theorem aN0 (d:Dv)(hd:DvW d):qR Tryz.prog 21 tabs [d.cv] (fun u v=>u= .slc ((dvO d).map eG)∧v= .int .i64 (dvE d)):=by
 refine bB (args:=[.c d.cv]) Tryz.func21 rfl (by kernel_rfl) (fS tabs [d.cv]) (Nat.le_of_ble_eq_true rfl) ?_;unfold fN;have hno: ∀{ob:Ob} {r:HV},nG d=false→r= .tup [.c .nils,.c (.int .i64 1)]→ob 0=some (.tab tabs)→iO 1 r ob (fun r ob'=> ∃u v,r= .tup [.c u,.c v]∧ob'=fob [(0,.tab tabs)]∧(u= .slc ((dvO d).map eG)∧v= .int .i64 (dvE d))):=fun {ob r} hf hr h0=>by
  subst hr;exact eP [] (.slc []) (.int .i64 1) (by simp[HV.close,HV.closeL,CV.denil,CV.denilL,HV.norm,HV.toC,HV.toCL]) h0 (by simp) ⟨by rw[dvO,hf];rfl,by rw[dvE,hf];rfl⟩
 refine aE fun K hK=>aD (by kernel_rfl) ?_;simp (maxSteps:=4000000) only[↓sP,sA,tyS,simprocAttr];repeat refine AI ?_
 refine hK _ _ _ ?_;clear hK K;refine aE fun K hK=>aD (by kernel_rfl) ?_;simp only[sR,simprocAttr];iterate 2
  (refine aC (g:=none) rfl rfl fun K' hK'=>?_;simp only[sH,↓sP,sA,tyS,simprocAttr];(repeat refine AI ?_);refine hK' _ _ ?_;clear hK' K')
 refine aC (g:=none) rfl rfl fun K' hK'=>?_;simp (maxSteps:=4000000) only[sH,↓sP,sA,tyS,simprocAttr];refine fO (args:=[_]) 0 (aE7 d.r hd.r) rfl (by simp) ⟨rfl,rfl,rfl,rfl⟩ ?_;rintro u v ⟨rfl,rfl⟩;repeat refine AI ?_
 refine hK' _ _ ?_;clear hK' K';iterate 5
  (refine aC (g:=none) rfl rfl fun K' hK'=>?_;simp only[sH,↓sP,sA,tyS,simprocAttr];(repeat refine AI ?_);refine hK' _ _ ?_;clear hK' K')
 simp only[sE,↓reduceIte,simprocAttr];repeat refine AI ?_
 refine hK _ _ _ ?_;clear hK K;refine aE fun K hK=>?_;refine aE fun K hK=>?_;have key: ∀(b:Bool) fr ob nx,b=rJ d→Fits 1 fr ob (fin [(1,.ptr 1 0),(4,.c (.str (fU d.r))),(28,.c (.bool b))]) (fob [(0,.tab tabs),(1,.box 50 (.c d.cv))]) 600→K fr ob nx:=by
  rintro b fr ob nx rfl hf;refine hK _ _ _ (bW hf ?_);clear hf hK K;refine aG (b:=rJ d) rfl (fun hb=>?_) (fun hb=>?_)
  ·
   refine aE fun K hK=>aD (by kernel_rfl) ?_;simp (maxSteps:=4000000) only[↓sP,sA,tyS,simprocAttr];repeat refine AI ?_
   refine hK _ _ _ ?_;clear hK K;refine aJ ?_;simp (maxSteps:=4000000) only[aV,Tryz.results21,aR,aT,aQ,↓sP,sA,tyS,simprocAttr];exact hno (by rw[pQ,hb];rfl) rfl rfl
  have hbad:rJ d=false:=hb;clear hb;refine aK ?_;simp (maxSteps:=4000000) only[↓sP,sA,tyS,simprocAttr];repeat refine AI ?_
  refine hK _ _ _ ?_;clear hK K;refine aE fun K hK=>dR mixed [(0,[],[]),(1,[],[]),(2,[],[]),(3,[],[]),(4,[],[]),(5,[],[]),(6,[],[]),(7,[],[]),(8,[],[]),(10,[],[]),(11,[],[]),(13,[],[]),(14,[],[]),(16,[],[]),(18,[],[]),(19,[],[]),(20,[],[]),(22,[],[]),(23,[],[]),(24,[],[]),(25,[],[]),(26,[],[]),(27,[],[]),(9,[],[0,1,2,3,4,5,10,11,13,14,16,18,19,20,22,23,24,25,26,27]),(12,[],[0,1,2,3,4,5,13,14,16,18,19,20,22,23,24,25,26,27]),(15,[],[0,1,2,3,4,5,16,18,19,20,22,23,24,25,26,27]),(17,[],[]),(21,[17],[0,1,2,3,4,5,16,22,23,24,25,26,27,17]),(28,[17],[]),(29,[],[]),(30,[],[])] [0,1,3,0,8,24,0,64,192,448,0,1024,4032,0,8192,32704,0,131071,0,262144,786432,1900480,0,4194304,12582912,0,33554432,100663296,268238784,536870911,1073741823] (by kernel_rfl) (by kernel_rfl) (by kernel_rfl) (by kernel_rfl) rfl (by kernel_rfl) ?_;iterate 23
   (refine cA (g:=none) rfl rfl fun K' hK'=>?_;simp only[sH,↓sP,sA,tyS,simprocAttr,oQ,oR,oS,oT,oU,oV];(repeat refine AI ?_);refine hK' _ _ ?_;clear hK' K')
  refine cA (g:=none) rfl rfl fun K' hK'=>?_;simp (maxSteps:=4000000) only[sH,↓sP,sA,tyS,simprocAttr,oQ,oR,oS,oT,oU,oV];refine bD (args:=[_]) (uT d.q.a) ⟨rfl,rfl,rfl,rfl⟩ ?_;rintro u rfl;repeat refine AI ?_
  refine hK' _ _ ?_;clear hK' K';refine cA (g:=none) rfl rfl fun K' hK'=>?_;simp (maxSteps:=4000000) only[sH,↓sP,sA,tyS,simprocAttr,oQ,oR,oS,oT,oU,oV];refine jQ (args:=[_]) 0 (bR7 d.t hd.t) rfl (by simp) ⟨rfl,rfl,rfl,rfl⟩ ?_;rintro u rfl;repeat refine AI ?_
  refine hK' _ _ ?_;clear hK' K';refine cA (g:=none) rfl rfl fun K' hK'=>?_;simp (maxSteps:=4000000) only[sH,↓sP,sA,tyS,simprocAttr,oQ,oR,oS,oT,oU,oV];refine bD (args:=[_]) (uT d.p) ⟨rfl,rfl,rfl,rfl⟩ ?_;rintro u rfl;repeat refine AI ?_
  refine hK' _ _ ?_;clear hK' K';refine kT (g:=none) 668 rfl rfl fun K' hK'=>?_;simp (maxSteps:=4000000) only[jM,mG,sH,↓sP,sA,tyS,simprocAttr,oQ,oR,oS,oT,oU,oV];repeat refine AI ?_
  refine eI (by first|rfl|simp) ?_;try simp (maxSteps:=4000000) only[sH,↓sP,sA,tyS,simprocAttr,oQ,oR,oS,oT,oU,oV]
  repeat refine AI ?_
  refine hK' _ _ ?_;clear hK' K';refine cA (g:=none) rfl rfl fun K' hK'=>?_;simp (maxSteps:=4000000) only[sH,↓sP,sA,tyS,simprocAttr,oQ,oR,oS,oT,oU,oV];refine bD (args:=[_]) (uT d.o.v) ⟨rfl,rfl,rfl,rfl⟩ ?_;rintro u rfl;repeat refine AI ?_
  refine hK' _ _ ?_;clear hK' K';refine kT (g:=none) 712 rfl rfl fun K' hK'=>?_;simp (maxSteps:=4000000) only[jM,mG,sH,↓sP,sA,tyS,simprocAttr,oQ,oR,oS,oT,oU,oV];repeat refine AI ?_
  refine eI (by first|rfl|simp) ?_;try simp (maxSteps:=4000000) only[sH,↓sP,sA,tyS,simprocAttr,oQ,oR,oS,oT,oU,oV]
  repeat refine AI ?_
  refine hK' _ _ ?_;clear hK' K';iterate 2
   (refine cA (g:=none) rfl rfl fun K' hK'=>?_;simp only[sH,↓sP,sA,tyS,simprocAttr,oQ,oR,oS,oT,oU,oV];(repeat refine AI ?_);refine hK' _ _ ?_;clear hK' K')
  simp only[sE,↓reduceIte,simprocAttr];repeat refine AI ?_
  refine hK _ _ _ ?_;clear hK K;refine aE fun K hK=>?_;refine aE fun K hK=>aD (by kernel_rfl) ?_;simp only[sR,simprocAttr];iterate 4
   (refine aC (g:=none) rfl rfl fun K' hK'=>?_;simp only[sH,↓sP,sA,tyS,simprocAttr];(repeat refine AI ?_);refine hK' _ _ ?_;clear hK' K')
  simp only[sE,↓reduceIte,simprocAttr];repeat refine AI ?_
  refine hK _ _ _ ?_;clear hK K;refine aP ?_;refine bT (α:={i:Nat//i≤d.l.length∧(d.l.take i).all fP=true}) (fun i=>(fin [(6,.own 716 (dvT d i.1).length),(60,.c (.slc (d.l.map Ln.cv))),(61,.c (.int .i64 d.l.length)),(62,.c (.int .i64 i.1))],fob [(0,.tab tabs),(716,.row 71 1 ((dvT d i.1).map lsC))])) 2000 (fun i=>d.l.length-i.1) ⟨0,by omega,by simp⟩ (aI (by omega) (by simp[aY,fin_at,finA_at,upd_at,HV.men,HV.menL,HV.norm,HV.toC,HV.toCL,dvT,mF,lsC,wDer,wOrg]) (by simp[bA,fob_at,upd_at,none0_at,bO,HO.men,HV.men,HV.menL,HV.norm,HV.toC,HV.toCL,dvT,mF,lsC,wDer,wOrg])) ?_;rintro⟨i,hi,hall⟩;refine aE fun K hK=>aD (by kernel_rfl) ?_;simp (maxSteps:=4000000) only[↓sP,sA,tyS,simprocAttr];repeat refine AI ?_
  refine hK _ _ _ ?_;clear hK K;refine aE fun K hK=>?_;refine aG (b:=decide ((i:Int)<d.l.length)) rfl (fun hb=>?_) (fun hb=>?_)
  ·
   have hlt:i<d.l.length:=by have:=of_decide_eq_true hb;omega
   have hll:=hd.ll;have hle:=cI5 d (i+1);have hlen:=hd.len;rw[xH hlt,List.length_append]at hle;clear hb;refine aK ?_;simp (maxSteps:=4000000) only[↓sP,sA,tyS,simprocAttr];repeat refine AI ?_
   refine hK _ _ _ ?_;clear hK K;refine aE fun K hK=>?_;refine aP ?_;refine aE fun K hK=>aD (by kernel_rfl) ?_;simp only[sR,simprocAttr];iterate 4
    (refine aC (g:=none) rfl rfl fun K' hK'=>?_;simp only[sH,↓sP,sA,tyS,simprocAttr,Int.natCast_nonneg,Int.ofNat_lt,hlt,aZ hlt];(repeat refine AI ?_);refine hK' _ _ ?_;clear hK' K')
   simp only[sE,↓reduceIte,simprocAttr];repeat refine AI ?_
   refine hK _ _ _ ?_;clear hK K;refine aE fun K hK=>aD (by kernel_rfl) ?_;simp only[sR,simprocAttr];refine aC (g:=none) rfl rfl fun K' hK'=>?_;simp (maxSteps:=4000000) only[sH,↓sP,sA,tyS,simprocAttr];repeat refine AI ?_
   refine hK' _ _ ?_;clear hK' K';refine aC (g:=none) rfl rfl fun K' hK'=>?_;simp (maxSteps:=4000000) only[sH,↓sP,sA,tyS,simprocAttr];refine fO (args:=[_]) 0 (lines_ok d.l[i] (hd.l _ (List.getElem_mem hlt))) rfl (by simp) ⟨rfl,rfl,rfl,rfl⟩ ?_;rintro u v ⟨rfl,rfl⟩;repeat refine AI ?_
   refine hK' _ _ ?_;clear hK' K';iterate 5
    (refine aC (g:=none) rfl rfl fun K' hK'=>?_;simp only[sH,↓sP,sA,tyS,simprocAttr];(repeat refine AI ?_);refine hK' _ _ ?_;clear hK' K')
   simp only[sE,↓reduceIte,simprocAttr];repeat refine AI ?_
   refine hK _ _ _ ?_;clear hK K;refine aE fun K hK=>?_;refine aE fun K hK=>aD (by kernel_rfl) ?_;simp (maxSteps:=4000000) only[↓sP,sA,tyS,simprocAttr];repeat refine AI ?_
   refine hK _ _ _ ?_;clear hK K;refine aG (b:=!fP d.l[i]) rfl (fun hb=>?_) (fun hb=>?_)
   ·
    refine aE fun K hK=>aD (by kernel_rfl) ?_;simp (maxSteps:=4000000) only[↓sP,sA,tyS,simprocAttr];repeat refine AI ?_
    refine hK _ _ _ ?_;clear hK K;refine aJ ?_;simp (maxSteps:=4000000) only[aV,Tryz.results21,aR,aT,aQ,↓sP,sA,tyS,simprocAttr];exact hno (by rw[pQ,List.all_eq_false.2 ⟨_,List.getElem_mem hlt,by simpa using hb⟩,Bool.and_false]) rfl rfl
   have hfl:fP d.l[i]=true:=by simpa using hb
   clear hb;have hlv:xG d.l[i]=fC d.l[i]:=if_pos hfl;rw[hlv];have hcl:(∀v∈(fC d.l[i]).map lsC,v.cells=1)=True:=eq_true fun v hv=>by
    obtain⟨y,_,rfl⟩:=List.mem_map.1 hv;rfl
   refine aK ?_;simp (maxSteps:=4000000) only[↓sP,sA,tyS,simprocAttr];repeat refine AI ?_
   refine hK _ _ _ ?_;clear hK K;refine aD (by kernel_rfl) ?_;simp only[sR,simprocAttr];iterate 4
    (refine aC (g:=none) rfl rfl fun K' hK'=>?_;simp only[sH,↓sP,sA,tyS,simprocAttr,List.length_map,hcl];(repeat refine AI ?_);refine hK' _ _ ?_;clear hK' K')
   simp only[sE,↓reduceIte,simprocAttr];repeat refine AI ?_
   refine hK _ _ _ ?_;clear hK K;refine aD (by kernel_rfl) ?_;simp (maxSteps:=4000000) only[↓sP,sA,tyS,simprocAttr,IntWalk.i64_in _ (show-9223372036854775808≤(i:Int)+1∧(i:Int)+1≤9223372036854775807 by omega)];refine⟨⟨i+1,by omega,bI1 hlt hall hfl⟩,(aI (by omega) (by simp[aY,fin_at,finA_at,upd_at,HV.men,HV.menL,HV.norm,HV.toC,HV.toCL,xH hlt,List.map_append,List.length_append]) (by simp[bA,fob_at,upd_at,none0_at,bO,HO.men,HV.men,HV.menL,HV.norm,HV.toC,HV.toCL,xH hlt,List.map_append,List.length_append])),?_⟩;show d.l.length-(i+1)<d.l.length-i;omega
  have hie:i=d.l.length:=by have:=of_decide_eq_false hb;omega
  subst hie;rw[List.take_length]at hall;clear hb;rw[cA9];have hfine:nG d=true:=by rw[pQ,hbad,hall];rfl
  have hlen:=hd.len;refine bL ?_;simp (maxSteps:=4000000) only[↓sP,sA,tyS,simprocAttr];clear hK K;repeat refine AI ?_
  refine hK _ _ _ ?_;clear hK K;refine fM [716] (bW (fr2:=fin [(6,.c (.slc ((iU d).map lsC)))]) (ob2:=fob [(0,.tab tabs)]) (nx2:=3000) (aI (by omega) (by simp[aY,fL,fin_at,finA_at,upd_at,fob_at,HV.close,HV.closeL,CV.denil,CV.denilL,fQ,HV.men,HV.menL,HV.norm,HV.toC,HV.toCL]) (by simp[bA,iF,fob_at,upd_at,none0_at,bO,HO.close,HV.close,HV.closeL,HO.men,HV.men,HV.menL,HV.norm,HV.toC,HV.toCL])) ?_);refine aE fun K hK=>aD (by kernel_rfl) ?_;simp only[sR,simprocAttr];refine aC (g:=none) rfl rfl fun K' hK'=>?_;simp (maxSteps:=4000000) only[sH,↓sP,sA,tyS,simprocAttr,fQ];repeat refine AI ?_
  refine hK' _ _ ?_;clear hK' K';refine aC (g:=none) rfl rfl fun K' hK'=>?_;simp (maxSteps:=4000000) only[sH,↓sP,sA,tyS,simprocAttr,fQ];refine cR (args:=[_]) (cH8 (iU d) (by omega) (cI4 hd)) ⟨rfl,rfl,rfl,rfl⟩ ?_;rintro u v ⟨rfl,rfl⟩;repeat refine AI ?_
  refine hK' _ _ ?_;clear hK' K';iterate 4
   (refine aC (g:=none) rfl rfl fun K' hK'=>?_;simp only[sH,↓sP,sA,tyS,simprocAttr,fQ];(repeat refine AI ?_);refine hK' _ _ ?_;clear hK' K')
  simp only[sE,↓reduceIte,simprocAttr];repeat refine AI ?_
  refine hK _ _ _ ?_;clear hK K;refine aJ ?_;simp (maxSteps:=4000000) only[aV,Tryz.results21,aR,aT,aQ,↓sP,sA,tyS,simprocAttr];exact eP [] (.slc ((uN (iU d)).map eG)) (.int .i64 (pH (iU d))) (by simp[HV.close,HV.closeL,CV.denil,CV.denilL,cL,HV.norm,HV.toC,HV.toCL]) rfl (by simp) ⟨by rw[dvO,if_pos hfine],by rw[dvE,if_pos hfine]⟩
 refine aD (by kernel_rfl) ?_;simp only[sR,simprocAttr];iterate 3
  (refine aC (g:=none) rfl rfl fun K' hK'=>?_;simp only[sH,↓sP,sA,tyS,simprocAttr];(repeat refine AI ?_);refine hK' _ _ ?_;clear hK' K')
 refine aL 17 rfl (fun h2_17=>?_) (fun h2_17=>?_)
 ·
  iterate 3
   (refine aC (g:=some (19,false)) rfl rfl fun K' hK'=>?_;simp only[sH,↓sP,sA,tyS,simprocAttr,h2_17];(repeat refine AI ?_);refine hK' _ _ ?_;clear hK' K')
  iterate 2
   (refine aC (g:=none) rfl rfl fun K' hK'=>?_;simp only[sH,↓sP,sA,tyS,simprocAttr,h2_17];(repeat refine AI ?_);refine hK' _ _ ?_;clear hK' K')
  refine aL 22 rfl (fun h2_22=>?_) (fun h2_22=>?_)
  ·
   iterate 3
    (refine aC (g:=some (24,false)) rfl rfl fun K' hK'=>?_;simp only[sH,↓sP,sA,tyS,simprocAttr,h2_17,h2_22];(repeat refine AI ?_);refine hK' _ _ ?_;clear hK' K')
   refine aC (g:=none) rfl rfl fun K' hK'=>?_;simp (maxSteps:=4000000) only[sH,↓sP,sA,tyS,simprocAttr,h2_17,h2_22];repeat refine AI ?_
   refine hK' _ _ ?_;clear hK' K';simp only[sE,↓reduceIte,simprocAttr];exact key true _ _ _ (by simp only[rJ,h2_17,h2_22,Bool.not_true,Bool.not_false,Bool.true_or,Bool.false_or]) (aI (by omega) (by simp[aY,fin_at,finA_at,upd_at,HV.men,HV.menL,HV.norm,HV.toC,HV.toCL]) (by simp[bA,fob_at,upd_at,none0_at,bO,HO.men,HV.men,HV.menL,HV.norm,HV.toC,HV.toCL]))
  iterate 3
   (refine aC (g:=some (24,false)) rfl rfl fun K' hK'=>?_;simp only[sH,↓sP,sA,tyS,simprocAttr,h2_17,h2_22];(repeat refine AI ?_);refine hK' _ _ ?_;clear hK' K')
  refine aC (g:=none) rfl rfl fun K' hK'=>?_;simp (maxSteps:=4000000) only[sH,↓sP,sA,tyS,simprocAttr,h2_17,h2_22];repeat refine AI ?_
  refine hK' _ _ ?_;clear hK' K';refine aL 27 rfl (fun h2_27=>?_) (fun h2_27=>?_)
  · simp only[h2_27];simp only[sE,↓reduceIte,simprocAttr];exact key true _ _ _ (by simp only[rJ,h2_17,h2_22,h2_27,Bool.not_true,Bool.not_false,Bool.true_or,Bool.false_or]) (aI (by omega) (by simp[aY,fin_at,finA_at,upd_at,HV.men,HV.menL,HV.norm,HV.toC,HV.toCL]) (by simp[bA,fob_at,upd_at,none0_at,bO,HO.men,HV.men,HV.menL,HV.norm,HV.toC,HV.toCL]))
  simp only[h2_27];simp only[sE,↓reduceIte,simprocAttr];exact key false _ _ _ (by simp only[rJ,h2_17,h2_22,h2_27,Bool.not_true,Bool.not_false,Bool.true_or,Bool.false_or]) (aI (by omega) (by simp[aY,fin_at,finA_at,upd_at,HV.men,HV.menL,HV.norm,HV.toC,HV.toCL]) (by simp[bA,fob_at,upd_at,none0_at,bO,HO.men,HV.men,HV.menL,HV.norm,HV.toC,HV.toCL]))
 iterate 3
  (refine aC (g:=some (19,false)) rfl rfl fun K' hK'=>?_;simp only[sH,↓sP,sA,tyS,simprocAttr,h2_17];(repeat refine AI ?_);refine hK' _ _ ?_;clear hK' K')
 iterate 2
  (refine aC (g:=none) rfl rfl fun K' hK'=>?_;simp only[sH,↓sP,sA,tyS,simprocAttr,h2_17];(repeat refine AI ?_);refine hK' _ _ ?_;clear hK' K')
 iterate 3
  (refine aC (g:=some (24,false)) rfl rfl fun K' hK'=>?_;simp only[sH,↓sP,sA,tyS,simprocAttr,h2_17];(repeat refine AI ?_);refine hK' _ _ ?_;clear hK' K')
 refine aC (g:=none) rfl rfl fun K' hK'=>?_;simp (maxSteps:=4000000) only[sH,↓sP,sA,tyS,simprocAttr,h2_17];repeat refine AI ?_
 refine hK' _ _ ?_;clear hK' K';simp only[sE,↓reduceIte,simprocAttr];exact key true _ _ _ (by simp only[rJ,h2_17,Bool.not_true,Bool.not_false,Bool.true_or,Bool.false_or]) (aI (by omega) (by simp[aY,fin_at,finA_at,upd_at,HV.men,HV.menL,HV.norm,HV.toC,HV.toCL]) (by simp[bA,fob_at,upd_at,none0_at,bO,HO.men,HV.men,HV.menL,HV.norm,HV.toC,HV.toCL]))
end Go.Proofs.YthedbjfipmkpiaaGreatDoor
namespace Go.Pl
open Go Go.Hl
def gM (L:List Ln):List Int:=L.flatMap Ln.f
theorem eR (a b:List Ln):gM (a++b)=gM a++gM b:=by simp[gM]
structure Blk (o:Nat)(L:List Ln)(F:List Int)(a b:Nat):Prop where
 node: ∀x∈L,(a:Int)≤x.n∧x.n<b
 dist:(L.map Ln.n).Nodup
 kind: ∀x∈L,x.k≠5
 back: ∀p (h:p<L.length),∀n∈L[p].f,(o:Int)≤n∧n<o+p
 free: ∀n∈F,(o:Int)≤n∧n<o+L.length
 size:(gM L).length+F.length=L.length
 once: ∀n:Int,(gM L++F).count n=if(o:Int)≤n∧n<o+L.length then 1 else 0
theorem Blk.nil (o a:Nat):Blk o [] [] a a:=⟨by simp,by simp,by simp,by simp,by simp,by simp[gM],fun n=>by simp[gM]⟩
variable {F:List Int}{L:List Ln}{o:Nat}
theorem Blk.wide {a b c:Nat}(h:Blk o L F a b)(hc:b≤c):Blk o L F a c:=
 ⟨fun x hx=>by have:=h.node x hx;omega,h.dist,h.kind,h.back,h.free,h.size,h.once⟩
theorem Blk.join {M:List Ln}{G:List Int}{a b c:Nat}(h:Blk o L F a b)(g:Blk (o+L.length) M G b c)(hab:a≤b)(hbc:b≤c):Blk o (L++M) (F++G) a c:=by
 refine⟨fun x hx=>?_,?_,fun x hx=>?_,fun p hp n hn=>?_,fun n hn=>?_,?_,fun n=>?_⟩
 ·
  rcases List.mem_append.1 hx with hx|hx
  · have:=h.node x hx;omega
  · have:=g.node x hx;omega
 · rw[List.map_append,List.nodup_append];refine⟨h.dist,g.dist,fun x hx y hy=>?_⟩;obtain⟨x',h1,rfl⟩:=List.mem_map.1 hx;obtain⟨y',h2,rfl⟩:=List.mem_map.1 hy;have:=h.node x' h1;have:=g.node y' h2;omega
 ·
  rcases List.mem_append.1 hx with hx|hx
  · exact h.kind x hx
  · exact g.kind x hx
 ·
  rw[List.getElem_append]at hn;split at hn
  · exact h.back p _ n hn
  · have h1:=g.back _ _ n hn;simp only[List.length_append]at hp;omega
 ·
  rw[List.length_append];rcases List.mem_append.1 hn with hn|hn
  · have:=h.free n hn;omega
  · have:=g.free n hn;omega
 · have h1:=h.size;have h2:=g.size;rw[eR];simp only[List.length_append];omega
 · have h1:=h.once n;have h2:=g.once n;rw[eR];simp only[List.count_append,List.length_append]at h1 h2⊢;grind
theorem Blk.line {o:Nat}{L:List Ln}{a b:Nat}(h:Blk o L F (a+1) b)(x:Ln)(hn:x.n=a)(hf:x.f=F)(hk:x.k≠5)(hb:a<b):Blk o (L++[x]) [((o+L.length:Nat):Int)] a b:=by
 refine⟨fun y hy=>?_,?_,fun y hy=>?_,fun p hp n hn'=>?_,fun n hn'=>?_,?_,fun n=>?_⟩
 ·
  rcases List.mem_append.1 hy with hy|hy
  · have:=h.node y hy;omega
  · rw[List.mem_singleton]at hy;subst hy;omega
 · rw[List.map_append,List.nodup_append];refine⟨h.dist,by simp,fun u hu v hv=>?_⟩;obtain⟨u',h1,rfl⟩:=List.mem_map.1 hu;simp only[List.map_cons,List.map_nil,List.mem_singleton]at hv;have:=h.node u' h1;omega
 ·
  rcases List.mem_append.1 hy with hy|hy
  · exact h.kind y hy
  · rw[List.mem_singleton]at hy;subst hy;exact hk
 ·
  rw[List.getElem_append]at hn';split at hn'
  · exact h.back p _ n hn'
  ·
   rename_i hp2;simp only[List.length_append,List.length_cons,List.length_nil]at hp;have hpe:p=L.length:=by omega
   subst hpe;simp only[Nat.sub_self,List.getElem_cons_zero]at hn';rw[hf]at hn';exact h.free n hn'
 · rw[List.mem_singleton]at hn';subst hn';simp only[List.length_append,List.length_cons,List.length_nil];omega
 ·
  have h1:=h.size;rw[eR];have e:gM [x]=F:=by simp[gM,hf]
  rw[e];simp only[List.length_append,List.length_cons,List.length_nil];omega
 ·
  have h1:=h.once n;rw[eR];have e:gM [x]=F:=by simp[gM,hf]
  rw[e];simp only[List.count_append,List.length_append,List.length_cons,List.length_nil,List.count_cons,List.count_nil]at h1⊢;grind
theorem bT3 (n:Nd):gP n≠5∧gP n≠1:=by unfold gP;grind
theorem aZ8 {l:List Nd}(ht:IsTree l)(S:List Sp): ∀(f i:Nat) (out:List Ln),i<l.length→l.length-i≤f→ ∃L,prv l S f i out=out++L∧Blk out.length L [((prv l S f i out).length:Int)-1] i (aft l i)
 |0,i,out,hi,hf=>by omega
 |f+1,i,out,hi,hf=>by
  have ha:=gL ht hi;rcases Decidable.em ((l.getD i nd0).k=1)with h|h
  ·
   refine⟨[tT l S i],qN h,?_⟩;have h0:=((Blk.nil out.length (i+1)).line (a:=i) (tT l S i) rfl rfl (by simp[tT]) (by omega)).wide (c:=aft l i) (by omega);rw[qN h];simp only[List.nil_append,List.length_nil,Nat.add_zero,List.length_append,List.length_cons]at h0⊢
   rwa [show((out.length+(0+1):Nat):Int)-1=(out.length:Int)from by omega]
  ·
   have key: ∀j,j≤l[i].c.toNat→ ∃M,(iH l S f i j out).1=out++M∧Blk out.length M (iH l S f i j out).2 (i+1) (cY l j (i+1)):=by
    intro j;induction j with
    |zero=>intro _;exact⟨[],by simp[iH,eD],Blk.nil _ _⟩
    |succ j ih=>
     intro hj;obtain⟨M,h1,h2⟩:=ih (by omega);have h3:=lD ht hi (k:=j) (by omega);have h4:=gL ht h3;have h6:=(jN ht hi j (by omega)).2.2;rw[gQ,dS,qM];split
     ·
      obtain⟨N,g1,g2⟩:=aZ8 ht S f _ (iH l S f i j out).1 h3 (by omega);refine⟨M++N,?_,?_⟩
      · show prv l S f _ _=_;rw[g1,h1,List.append_assoc]
      ·
       have hlen:(iH l S f i j out).1.length=out.length+M.length:=by rw[h1,List.length_append]
       rw[hlen]at g2;exact h2.join g2 h6 (by omega)
     · exact⟨M,h1,h2.wide (by omega)⟩
   obtain⟨M,h1,h2⟩:=key l[i].c.toNat (Nat.le_refl _);rw[lE ht hi]at h2;have e:prv l S (f+1) i out=out++(M++[⟨gP (l.getD i nd0),i,[],(iH l S f i l[i].c.toNat out).2⟩]):=by
    rw[sM h,aD8 hi,h1,List.append_assoc]
   refine⟨_,e,?_⟩;have h0:=h2.line ⟨gP (l.getD i nd0),i,[],(iH l S f i l[i].c.toNat out).2⟩ rfl rfl (bT3 _).1 (by omega);rw[e];simp only[List.length_append,List.length_cons,List.length_nil]at h0⊢
   rwa [show((out.length+(M.length+(0+1)):Nat):Int)-1=((out.length+M.length:Nat):Int)from by omega]
structure NeedsV (X:List Ln):Prop where
 pos:0<X.length
 last:(X.getLast?.map Ln.k)=some 5
 back: ∀p (h:p<X.length),∀n∈X[p].f,0≤n∧n<p
 dist: ∀p (h:p<X.length),X[p].k≠5→ ∀q (h':q<p),X[q].n≠X[p].n
 size:(gM X).length<X.length
 once: ∀p:Nat,p+1<X.length→(gM X).count (p:Int)=1
theorem aF1 {l:List Nd}{S:List Sp}(h:fX l (cU S)=true):NeedsV (gW l S):=by
 have ht:IsTree l:=gD (by unfold fX at h;simp only[Bool.and_eq_true]at h;exact h.1);obtain⟨L,h1,h2⟩:=aZ8 ht S l.length 0 [] ht.ne (by omega);have e:tU l S=L:=by unfold tU;rw[h1];rfl
 rw[h1]at h2;simp only[List.nil_append,List.length_nil]at h2;unfold gW;rw[if_pos h,e];have hL:0<L.length:=by
  rcases Nat.eq_zero_or_pos L.length with h0|h0
  · have:=h2.free _ (List.mem_singleton.2 rfl);omega
  · exact h0
 refine⟨by simp,?_,fun p hp n hn=>?_,fun p hp hk q hq=>?_,?_,fun p hp=>?_⟩
 · simp
 ·
  rw[List.getElem_append]at hn;split at hn
  · have:=h2.back p _ n hn;omega
  ·
   simp only[List.length_append,List.length_cons,List.length_nil]at hp;have hpe:p=L.length:=by omega
   subst hpe;simp only[Nat.sub_self,List.getElem_cons_zero,List.mem_singleton]at hn;omega
 ·
  simp only[List.length_append,List.length_cons,List.length_nil]at hp;rcases Nat.lt_or_ge p L.length with hp2|hp2
  · rw[List.getElem_append_left hp2,List.getElem_append_left (by omega)];have hd:=List.pairwise_iff_getElem.1 h2.dist q p (by simp;omega) (by simpa using hp2) hq;simpa using hd
  ·
   have hpe:p=L.length:=by omega
   subst hpe;simp at hk
 · have h3:=h2.size;rw[eR];simp only[gM,List.flatMap_cons,List.flatMap_nil,List.length_append,List.length_cons,List.length_nil]at h3⊢;omega
 ·
  have h3:=h2.once p;rw[eR];simp only[List.length_append,List.length_cons,List.length_nil]at hp;have e2:gM [(⟨5,0,[],[(L.length:Int)-1]⟩:Ln)]=[(L.length:Int)-1]:=by simp[gM]
  rw[e2,h3,if_pos (by omega)]
variable {j:Nat}
theorem aN1 {l:List Nd}(hj:j<l.length)(hk:l[j].k=1):(dT 0 l)[lv (l.take j)]? =some j:=by
 have e:dT 0 l=dT 0 (l.take j)++dT j (l.drop j):=by
  conv=>lhs;rw[←List.take_append_drop j l,lU]
  rw[Nat.zero_add,List.length_take,Nat.min_eq_left (by omega)]
 rw[e,List.getElem?_append_right (by rw[fR];exact Nat.le_refl _),fR,Nat.sub_self,List.drop_eq_getElem_cons hj,dT,if_pos hk];rfl
theorem aN2 : ∀(l:List Nd) (o:Nat),(dT o l).Pairwise (· <·)∧ ∀x∈dT o l,o≤x
 |[],o=>by simp[dT]
 |n::l,o=>by
  have h:=aN2 l (o+1);rw[dT];split
  ·
   refine⟨List.pairwise_cons.2 ⟨fun x hx=>?_,h.1⟩,fun x hx=>?_⟩
   · have:=h.2 x hx;omega
   ·
    rcases List.mem_cons.1 hx with rfl|hx
    · omega
    · have:=h.2 x hx;omega
  · exact⟨h.1,fun x hx=>by have:=h.2 x hx;omega⟩
variable {k:Nat}
theorem bI2 {l:List Nd}(hj:j<l.length)(hk:l[j].k=1)(h:(dT 0 l)[k]? =some j):k=lv (l.take j):=by
 have h1:=aN1 hj hk;obtain⟨a1,a2⟩:=List.getElem?_eq_some_iff.1 h;obtain⟨b1,b2⟩:=List.getElem?_eq_some_iff.1 h1;have hp:=List.pairwise_iff_getElem.1 (aN2 l 0).1;rcases Nat.lt_trichotomy k (lv (l.take j))with h2|h2|h2
 · have:=hp _ _ a1 b1 h2;omega
 · exact h2
 · have:=hp _ _ b1 a1 h2;omega
theorem xI {P:Nat→List Ln→List Ln}{v:Nat→Bool}{w:Nat}(hP: ∀j out,∃L,P j out=out++L): ∀(ks:List Nat) (st:List Ln×List Int),∃L,(ks.foldl (qM P v w) st).1=st.1++L
 |[],st=>⟨[],by simp⟩
 |k::ks,st=>by
  obtain⟨L,h⟩:=xI (v:=v) (w:=w) hP ks (qM P v w st k);obtain⟨M,g⟩:=hP k st.1;rw[List.foldl_cons,h,qM];split
  · exact⟨M++L,by simp only;rw[g,List.append_assoc]⟩
  · exact⟨L,rfl⟩
theorem aZ9 (l:List Nd)(S:List Sp): ∀(f i:Nat) (out:List Ln),∃L,prv l S f i out=out++L
 |0,_,out=>⟨[],by simp[prv]⟩
 |f+1,i,out=>by
  rw[prv];split
  · exact⟨_,rfl⟩
  · obtain⟨L,h⟩:=xI (v:=eO l (cU S)) (w:=wantN (l.getD i nd0)) (fun j o=>aZ9 l S f j o) (aD6 l i) (out,[]);simp only at h⊢;rw[h];exact⟨L++_,by rw[List.append_assoc]⟩
theorem bT4 (l:List Nd)(S:List Sp)(f i j:Nat)(out:List Ln): ∃L,(iH l S f i j out).1=out++L:=
 xI (fun j o=>aZ9 l S f j o) _ _
def dws (l:List Dig):List aH:=l.map Subtype.val
theorem fH (l:List Dig):(dws l).length=l.length:=List.length_map _
theorem rK (l:List Dig)(i:Nat)(h:i<(dws l).length):(dws l)[i]=(l[i]'(by rwa [fH]at h)).1:=by simp[dws]
theorem jW (l:List Dig)(i:Nat):dws (l.take i)=(dws l).take i:=List.map_take
theorem pR (a b:List Dig):dws (a++b)=dws a++dws b:=List.map_append
theorem mC (l:List Dig)(d:Dig):l.contains d=(dws l).contains d.1:=by
 rw[Bool.eq_iff_iff,List.contains_iff_mem,List.contains_iff_mem];exact⟨fun h=>List.mem_map.2 ⟨d,h,rfl⟩,fun h=>by obtain⟨x,h1,h2⟩:=List.mem_map.1 h;rwa [←Subtype.ext h2]⟩
variable {l:List Dig}
theorem aF2 (h:k<l.length):((dws l)[k]'(by rwa [fH])==(dws l)[k-1]'(by rw[fH];omega))=(l[k]==l[k-1]):=by
 rw[rK,rK,Bool.eq_iff_iff,beq_iff_eq,beq_iff_eq,Subtype.ext_iff]
theorem cB0 (h0:1≤k)(h:k<l.length)(hne:(l[k]==l[k-1])=false)(hd:cG (dws (l.take k))=dws (l.take k)):cG (dws (l.take (k+1)))=dws (l.take (k+1)):=by
 rw[jW]at hd⊢;exact aT2 h0 (by rwa [fH]) (by rw[aF2 h];exact hne) hd
theorem bA0 (h0:1≤k)(h:k<l.length)(he:(l[k]==l[k-1])=true):cG (dws (l.take (k+1)))=cG (dws (l.take k)):=by
 rw[jW,jW];exact aT3 h0 (by rwa [fH]) (by rw[aF2 h];exact he)
theorem cI6 {r:List Dig}{i:Nat}(h0:1≤k)(h:k<l.length)(hne:(l[k]==l[k-1])=false)(hi:i<r.length)(hr:dws (r.take i)=cG (dws (l.take k))):dws ((r.set i l[k]).take (i+1))=cG (dws (l.take (k+1))):=by
 rw[jW l,bF9 h0 (by rwa [fH]) (by rw[aF2 h];exact hne),←jW,←hr,rK];rw[List.take_succ_eq_append_getElem (by simpa using hi),List.take_set_of_le (Nat.le_refl _),pR];simp[dws]
def fI (X:List Ln):List Dig:=X.flatMap Ln.d
def bT5 (X:List Ln):List aH:=bD1 (dws (fI X))
theorem bI3 {s:List Dig}(hp:s.Perm l)(hs:s.Pairwise fun a b=>slt b.1 a.1=false):cG (dws s)=bD1 (dws l):=by
 refine aT0 ?_ fun w=>?_
 · unfold dws;rw[List.pairwise_map];refine hs.imp fun {a b} h=>?_;rw[←List.not_lt,←uS];simpa using h
 · unfold dws;exact(hp.map _).mem_iff
theorem cB1 {x:Ln}(h:fP x=true):(wordK x.k).length≤7∧(∀n∈x.n::x.f,0≤n∧n≤1099511627776):=by
 simp only[fP,Bool.and_eq_true,inB,decide_eq_true_eq]at h;obtain⟨⟨⟨h1,h2⟩,h3⟩,h4⟩:=h;refine⟨?_,fun n hn=>?_⟩
 ·
  obtain h|h|h|h|h:x.k=1∨x.k=2∨x.k=3∨x.k=4∨x.k=5:=by omega
  all_goals rw[h];decide
 ·
  rcases List.mem_cons.1 hn with rfl|hn
  · exact(jS _).1 h3
  ·
   split at h4
   · rw[beq_iff_eq]at h4;rw[h4]at hn;cases hn
   · simp only[Bool.and_eq_true]at h4;exact(jS _).1 (List.all_eq_true.1 h4.1 n hn)
theorem aF3 {n:Int}(h:0≤n∧n≤1099511627776):(fU n).length≤21∧sizeW (fU n)≤64:=by
 have h1:=bP7 (n:=n) (by omega);have:=eJ (fU n);omega
theorem bI4 (w:aH)(l:List aH):fZ (w::l)=sizeW w+1+fZ l:=by simp[fZ]
theorem cB2 :fZ []=0:=rfl
theorem bI5 (l:List aH)(ls:List (List aH)):sumD (l::ls)=fZ l+sumD ls:=by simp[sumD]
theorem bI6 (l:List Ln):(l.flatMap fC).length=l.length+(fI l).length:=by
 induction l with
 |nil=>rfl
 |cons x l ih=>
  rw[List.flatMap_cons,List.length_append,ih];simp only[fC,fI,List.length_cons,List.length_map,List.flatMap_cons,List.length_append];omega
theorem lines_ok {l:List Ln}(h:l.all fP=true)(hr: ∀x∈l,x.f.length≤100): ∀w∈l.flatMap fC,okL w=true:=by
 intro w hw;obtain⟨x,hx,hw⟩:=List.mem_flatMap.1 hw;have hf:=List.all_eq_true.1 h x hx;obtain⟨h1,h2⟩:=cB1 hf;have h3:=hr x hx;rw[kJ];rcases List.mem_cons.1 hw with rfl|hw
 ·
  refine⟨by simp[firstL],by simp only[firstL,List.length_cons,List.length_map];omega,fun u hu=>?_⟩;rcases List.mem_cons.1 hu with rfl|hu
  · omega
  · obtain⟨n,hn,rfl⟩:=List.mem_map.1 (show u∈(x.n::x.f).map fU from hu);have:=(aF3 (h2 n hn)).1;omega
 ·
  obtain⟨d,_,rfl⟩:=List.mem_map.1 hw;refine⟨by simp[mI],by simp[mI],fun u hu=>?_⟩;simp only[mI,List.mem_cons,List.not_mem_nil,or_false]at hu;rcases hu with rfl|rfl
  · decide
  · rw[qW];decide
structure SmallD (d:Dv):Prop where
 fine:nG d=true
 n:d.q.n.length≤100
 i:d.q.i.length≤100
 l:d.o.l.length≤100
 r:d.o.r.length≤100
 lines:d.l.length≤100
 gM:(gM d.l).length≤100
 docs:(fI d.l).length≤200
theorem bA1 {l:List Ln}{x:Ln}(h:x∈l):x.f.length≤(gM l).length:=by
 induction l with
 |nil=>cases h
 |cons y l ih=>
  have e:gM (y::l)=y.f++gM l:=by simp[gM]
  rw[e,List.length_append];rcases List.mem_cons.1 h with rfl|h
  · omega
  · have:=ih h;omega
theorem head_ok {d:Dv}(h:SmallD d):(∀w∈mF d,okL w=true)∧sumD (mF d)≤3400:=by
 have hf:=h.fine;simp only[nG,Bool.and_eq_true]at hf;have h1:=aF3 ((jS _).1 hf.1.1);have h2:=aF3 ((jS _).1 hf.1.2);have a1:=h.n;have a2:=h.i;have a3:=h.l;have a4:=h.r;have b1:wDer.length=10:=rfl;have b2:wOrg.length=6:=rfl;constructor
 ·
  intro w hw;rw[kJ];simp only[mF,List.mem_cons,List.not_mem_nil,or_false]at hw;rcases hw with rfl|rfl
  · refine⟨by simp,by simp,fun u hu=>?_⟩;simp only[List.mem_cons,List.not_mem_nil,or_false]at hu;rcases hu with rfl|rfl|rfl|rfl|rfl|rfl|rfl<;>first|omega|(rw[qW];omega)
  · refine⟨by simp,by simp,fun u hu=>?_⟩;simp only[List.mem_cons,List.not_mem_nil,or_false]at hu;rcases hu with rfl|rfl|rfl|rfl<;>first|omega|(rw[qW];omega)
 · have c1:=eJ wDer;have c2:=eJ wOrg;have c3:=eJ d.q.n;have c4:=eJ d.q.i;have c5:=eJ (iT d.q.a);have c6:=eJ (iT d.p);have c7:=eJ (iT d.o.v);have c8:=eJ d.o.l;have c9:=eJ d.o.r;rw[qW]at c5 c6 c7;simp only[mF,bI5,bI4,cB2,show sumD []=0 from rfl];omega
end Go.Pl
