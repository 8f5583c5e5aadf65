/- Plain Lean: more true values, the parts of a tree (28.6, 28.9). By an AI agent. -/
import Derived.Test.YthedbjfipmkpiaaGreatDoorHdV1
import Derived.Test.YthedbjfipmkpiaaGreatDoorHdSb
import Derived.Test.YthedbjfipmkpiaaGreatDoorHdV9
import Derived.Test.YthedbjfipmkpiaaGreatDoorPl31
import Derived.Test.YthedbjfipmkpiaaGreatDoorHdU5
set_option linter.unusedSimpArgs false
set_option linter.unusedVariables false
set_option linter.defProp false
namespace Go.Proofs.YthedbjfipmkpiaaGreatDoor
open Go Go.Hl Go.Pl
set_option maxRecDepth 10000
set_option maxHeartbeats 8000000
abbrev I64 (n:Int):Prop:= -9223372036854775808≤n∧n≤9223372036854775807
structure LnW (x:Ln):Prop where
 k:I64 x.k
 n:I64 x.n
 f: ∀n∈x.f,I64 n
 fl:x.f.length<2^38
 dl:x.d.length<2^38
variable {k:Int}
theorem kk1 (h:(k==1)=true)(h2:(k !=1)=true):False:=bne_iff_ne.1 h2 (eq_of_beq h)
theorem kk2 (h:(k==1)=false)(h2:(k !=1)=false):False:=by
 rw[bne,h]at h2;cases h2
def kJ (x:Ln):Bool:=((!inB x.k 1 5||!iE x.n)||(x.k==1&&decide ((x.f.length:Int)>0)))||(!(x.k==1)&&decide ((x.d.length:Int)>0))
variable {x:Ln}
theorem pP :fN x=(!kJ x&&x.f.all iE):=by
 have e1:(x.f==[])=!decide ((x.f.length:Int)>0):=by
  cases x.f with
  |nil=>rfl
  |cons a l=>
   have:decide (((a::l).length:Int)>0)=true:=decide_eq_true (by simp only[List.length_cons];omega);rw[this];rfl
 have e2:(x.d==[])=!decide ((x.d.length:Int)>0):=by
  cases x.d with
  |nil=>rfl
  |cons a l=>
   have:decide (((a::l).length:Int)>0)=true:=decide_eq_true (by simp only[List.length_cons];omega);rw[this];rfl
 unfold fN kJ;by_cases hk:x.k=1
 ·
  rw[if_pos hk,e1,hk];cases hf:decide ((x.f.length:Int)>0)with
  |true=>simp
  |false=>
   have:x.f=[]:=List.eq_nil_of_length_eq_zero (by have:=of_decide_eq_false hf;omega);rw[this];simp
 rw[if_neg hk,e2,show(x.k==1)=false from beq_eq_false_iff_ne.2 hk];cases inB x.k 1 5<;>cases iE x.n<;>cases x.f.all iE<;>cases decide ((x.d.length:Int)>0)<;>rfl
variable {i:Nat}
theorem tX (h:i<x.f.length):(x.f.take (i+1)).map fT=(x.f.take i).map fT++[fT x.f[i]]:=by
 rw[List.take_succ_eq_append_getElem h,List.map_append];rfl
variable {l:List Int}
theorem all_take (h:i<l.length)(h0:(l.take i).all iE=true)(h1:iE l[i]=true):(l.take (i+1)).all iE=true:=by
 rw[List.take_succ_eq_append_getElem h,List.all_append,h0];simp[h1]
theorem cB9 (h:i<l.length)(h1:iE l[i]=false):l.all iE=false:=by
 rw[List.all_eq_false];exact⟨_,List.getElem_mem h,by simp[h1]⟩
theorem aB3 {l:List Dig}(h:i<l.length):(l.take (i+1)).map mF=(l.take i).map mF++[mF l[i]]:=by
 rw[List.take_succ_eq_append_getElem h,List.map_append];rfl
def xF (x:Ln):List (List aH):=if fN x then fD x else []
theorem lines_ok (x:Ln)(hx:LnW x):qP Tryz.prog 47 tabs [x.cv] (fun u v=>u= .slc ((xF x).map lsC)∧v= .bool (fN x)):=by
 refine bD (args:=[.c x.cv]) Tryz.func47 rfl (by kernel_rfl) (fR tabs [x.cv]) (Nat.le_of_ble_eq_true rfl) ?_;unfold fL;obtain⟨w1,w2⟩:=cA7 x.k;have hno: ∀{ob:Ob} {r:HV},fN x=false→r= .tup [.c .nils,.c (.bool false)]→ob 0=some (.tab tabs)→iH 1 r ob (fun r ob'=> ∃u v,r= .tup [.c u,.c v]∧ob'=fob [(0,.tab tabs)]∧(u= .slc ((xF x).map lsC)∧v= .bool (fN x))):=fun {ob r} hf hr h0=>by
  subst hr;exact eP [] (.slc []) (.bool false) (by simp[HV.close,HV.closeL,CV.denil,CV.denilL,HV.norm,HV.toC,HV.toCL]) h0 (by simp) ⟨by rw[xF,hf];rfl,by rw[hf]⟩
 refine aE fun K hK=>aD (by kernel_rfl) ?_;simp (maxSteps:=4000000) only[↓sP,sA,tyS,simprocAttr];repeat refine AI ?_
 refine hK _ _ _ ?_;clear hK K;refine aE fun K hK=>dT mixed [(1,[],[]),(2,[],[]),(0,[],[1,2]),(3,[],[]),(4,[],[]),(5,[],[]),(6,[],[]),(7,[],[]),(8,[],[])] [0,0,2,7,15,31,31,63,255] (by kernel_rfl) (by kernel_rfl) (by kernel_rfl) (by kernel_rfl) rfl (by kernel_rfl) ?_;iterate 2
  (refine cA (g:=none) rfl rfl fun K' hK'=>?_;simp only[sH,↓sP,sA,tyS,simprocAttr];(repeat refine AI ?_);refine hK' _ _ ?_;clear hK' K')
 refine cA (g:=none) rfl rfl fun K' hK'=>?_;simp (maxSteps:=4000000) only[sH,↓sP,sA,tyS,simprocAttr];refine fG [] aN6 rfl trivial (by simp) (by simp) ⟨rfl,rfl,rfl,rfl⟩ (by simp[dU]) (by simp[HV.menL]) ?_;rintro r os' ⟨rfl,rfl⟩;rw[bT3,aZ9];repeat refine AI ?_
 refine hK' _ _ ?_;clear hK' K';refine cG (g:=none) rfl rfl fun K' hK'=>?_;simp (maxSteps:=4000000) only[sN,↓hopH.eq_def,sH,↓sP,sA,tyS,simprocAttr];refine⟨wlK,rfl,cA8,?_⟩;rw[w1,w2];repeat refine AI ?_
 refine hK' _ _ ?_;clear hK' K';iterate 5
  (refine cA (g:=none) rfl rfl fun K' hK'=>?_;simp only[sH,↓sP,sA,tyS,simprocAttr];(repeat refine AI ?_);refine hK' _ _ ?_;clear hK' K')
 simp only[sE,↓reduceIte,simprocAttr];repeat refine AI ?_
 refine hK _ _ _ ?_;clear hK K;refine aE fun K hK=>aD (by kernel_rfl) ?_;simp only[sR,simprocAttr];iterate 2
  (refine aC (g:=none) rfl rfl fun K' hK'=>?_;simp only[sH,↓sP,sA,tyS,simprocAttr];(repeat refine AI ?_);refine hK' _ _ ?_;clear hK' K')
 refine aC (g:=none) rfl rfl fun K' hK'=>?_;simp (maxSteps:=4000000) only[sH,↓sP,sA,tyS,simprocAttr];refine fM (args:=[_]) 0 (aF5 x.n hx.n) rfl (by simp) ⟨rfl,rfl,rfl,rfl⟩ ?_;rintro u v ⟨rfl,rfl⟩;repeat refine AI ?_
 refine hK' _ _ ?_;clear hK' K';iterate 5
  (refine aC (g:=none) rfl rfl fun K' hK'=>?_;simp only[sH,↓sP,sA,tyS,simprocAttr];(repeat refine AI ?_);refine hK' _ _ ?_;clear hK' K')
 simp only[sE,↓reduceIte,simprocAttr];repeat refine AI ?_
 refine hK _ _ _ ?_;clear hK K;refine aE fun K hK=>?_;refine aE fun K hK=>?_;have key: ∀(b:Bool) fr ob nx,b=kJ x→Fits 1 fr ob (fin [(1,.ptr 1 0),(4,.c (.str (wordK x.k))),(6,.c (.str (fT x.n))),(56,.c (.bool b))]) (fob [(0,.tab tabs),(1,.box 41 (.c x.cv))]) 600→K fr ob nx:=by
  rintro b fr ob nx rfl hf;refine hK _ _ _ (bX hf ?_);clear hf hK K;refine aG (b:=kJ x) rfl (fun hb=>?_) (fun hb=>?_)
  ·
   refine aE fun K hK=>aD (by kernel_rfl) ?_;simp (maxSteps:=4000000) only[↓sP,sA,tyS,simprocAttr];repeat refine AI ?_
   refine hK _ _ _ ?_;clear hK K;refine aJ ?_;simp (maxSteps:=4000000) only[aT,Tryz.results47,aR,aS,aQ,↓sP,sA,tyS,simprocAttr];exact hno (by rw[pP,hb];rfl) rfl rfl
  have hbad:kJ x=false:=hb;clear hb;refine aK ?_;simp (maxSteps:=4000000) only[↓sP,sA,tyS,simprocAttr];repeat refine AI ?_
  refine hK _ _ _ ?_;clear hK K;refine aE fun K hK=>aD (by kernel_rfl) ?_;simp only[sR,simprocAttr];iterate 4
   (refine aC (g:=none) rfl rfl fun K' hK'=>?_;simp only[sH,↓sP,sA,tyS,simprocAttr];(repeat refine AI ?_);refine hK' _ _ ?_;clear hK' K')
  simp only[sE,↓reduceIte,simprocAttr];repeat refine AI ?_
  refine hK _ _ _ ?_;clear hK K;refine aE fun K hK=>?_;refine aE fun K hK=>aD (by kernel_rfl) ?_;simp only[sR,simprocAttr];iterate 4
   (refine aC (g:=none) rfl rfl fun K' hK'=>?_;simp only[sH,↓sP,sA,tyS,simprocAttr];(repeat refine AI ?_);refine hK' _ _ ?_;clear hK' K')
  simp only[sE,↓reduceIte,simprocAttr];repeat refine AI ?_
  refine hK _ _ _ ?_;clear hK K;refine aP ?_;refine bR (α:={i:Nat//i≤x.f.length∧(x.f.take i).all iE=true}) (fun i=>(fin [(1,.ptr 1 0),(8,.own 608 (2+i.1)),(61,.c (.slc (x.f.map (CV.int .i64)))),(62,.c (.int .i64 x.f.length)),(63,.c (.int .i64 i.1))],fob [(0,.tab tabs),(1,.box 41 (.c x.cv)),(608,.row 9 1 ((wordK x.k::fT x.n::(x.f.take i.1).map fT).map .str))])) 2000 (fun i=>x.f.length-i.1) ⟨0,by omega,by simp⟩ (aI (by omega) (by simp[aY,fin_at,finA_at,upd_at,HV.men,HV.menL,HV.norm,HV.toC,HV.toCL]) (by simp[bB,fob_at,upd_at,none0_at,bN,HO.men,HV.men,HV.menL,HV.norm,HV.toC,HV.toCL])) ?_;rintro⟨i,hi,hall⟩;refine aE fun K hK=>aD (by kernel_rfl) ?_;simp (maxSteps:=4000000) only[↓sP,sA,tyS,simprocAttr];repeat refine AI ?_
  refine hK _ _ _ ?_;clear hK K;refine aE fun K hK=>?_;refine aG (b:=decide ((i:Int)<x.f.length)) rfl (fun hb=>?_) (fun hb=>?_)
  ·
   have hlt:i<x.f.length:=by have:=of_decide_eq_true hb;omega
   have hfl:=hx.fl;have hti:(x.f.take i).length=i:=by simp;omega
   clear hb;refine aK ?_;simp (maxSteps:=4000000) only[↓sP,sA,tyS,simprocAttr];repeat refine AI ?_
   refine hK _ _ _ ?_;clear hK K;refine aE fun K hK=>?_;refine aP ?_;refine aE fun K hK=>aD (by kernel_rfl) ?_;simp (maxSteps:=4000000) only[↓sP,sA,tyS,simprocAttr,Int.natCast_nonneg,Int.ofNat_lt,hlt,bA hlt];repeat refine AI ?_
   refine hK _ _ _ ?_;clear hK K;refine aE fun K hK=>aD (by kernel_rfl) ?_;simp only[sR,simprocAttr];refine aC (g:=none) rfl rfl fun K' hK'=>?_;simp (maxSteps:=4000000) only[sH,↓sP,sA,tyS,simprocAttr];repeat refine AI ?_
   refine hK' _ _ ?_;clear hK' K';refine aC (g:=none) rfl rfl fun K' hK'=>?_;simp (maxSteps:=4000000) only[sH,↓sP,sA,tyS,simprocAttr];refine fM (args:=[_]) 0 (aF5 x.f[i] (hx.f _ (List.getElem_mem hlt))) rfl (by simp) ⟨rfl,rfl,rfl,rfl⟩ ?_;rintro u v ⟨rfl,rfl⟩;repeat refine AI ?_
   refine hK' _ _ ?_;clear hK' K';iterate 5
    (refine aC (g:=none) rfl rfl fun K' hK'=>?_;simp only[sH,↓sP,sA,tyS,simprocAttr];(repeat refine AI ?_);refine hK' _ _ ?_;clear hK' K')
   simp only[sE,↓reduceIte,simprocAttr];repeat refine AI ?_
   refine hK _ _ _ ?_;clear hK K;refine aE fun K hK=>?_;refine aE fun K hK=>aD (by kernel_rfl) ?_;simp (maxSteps:=4000000) only[↓sP,sA,tyS,simprocAttr];repeat refine AI ?_
   refine hK _ _ _ ?_;clear hK K;refine aG (b:=!iE x.f[i]) rfl (fun hb=>?_) (fun hb=>?_)
   ·
    refine aE fun K hK=>aD (by kernel_rfl) ?_;simp (maxSteps:=4000000) only[↓sP,sA,tyS,simprocAttr];repeat refine AI ?_
    refine hK _ _ _ ?_;clear hK K;refine aJ ?_;simp (maxSteps:=4000000) only[aT,Tryz.results47,aR,aS,aQ,↓sP,sA,tyS,simprocAttr];exact hno (by rw[pP,cB9 hlt (by simpa using hb),Bool.and_false]) rfl rfl
   have h40:iE x.f[i]=true:=by simpa using hb
   clear hb;refine aK ?_;simp (maxSteps:=4000000) only[↓sP,sA,tyS,simprocAttr];repeat refine AI ?_
   refine hK _ _ _ ?_;clear hK K;refine aD (by kernel_rfl) ?_;simp only[sR,simprocAttr];iterate 5
    (refine aC (g:=none) rfl rfl fun K' hK'=>?_;simp only[sH,↓sP,sA,tyS,simprocAttr,List.length_cons,List.length_map,hti];(repeat refine AI ?_);refine hK' _ _ ?_;clear hK' K')
   simp only[sE,↓reduceIte,simprocAttr];repeat refine AI ?_
   refine hK _ _ _ ?_;clear hK K;refine aD (by kernel_rfl) ?_;simp (maxSteps:=4000000) only[↓sP,sA,tyS,simprocAttr,IntWalk.i64_in _ (show-9223372036854775808≤(i:Int)+1∧(i:Int)+1≤9223372036854775807 by omega)];have hmn:min i x.f.length+1+1+1=2+(i+1):=by omega
   refine⟨⟨i+1,by omega,all_take hlt hall h40⟩,(aI (by omega) (by simp[aY,fin_at,finA_at,upd_at,HV.men,HV.menL,HV.norm,HV.toC,HV.toCL,tX hlt,List.map_append,hti,hmn]) (by simp[bB,fob_at,upd_at,none0_at,bN,HO.men,HV.men,HV.menL,HV.norm,HV.toC,HV.toCL,tX hlt,List.map_append,hti,hmn])),?_⟩;show x.f.length-(i+1)<x.f.length-i;omega
  have hie:i=x.f.length:=by have:=of_decide_eq_false hb;omega
  subst hie;rw[List.take_length]at hall;clear hb;have hfine:fN x=true:=by rw[pP,hbad,hall];rfl
  refine bK ?_;simp (maxSteps:=4000000) only[↓sP,sA,tyS,simprocAttr];clear hK K;repeat refine AI ?_
  refine hK _ _ _ ?_;clear hK K;have hfl2:2+x.f.length=x.f.length+1+1:=by omega
  refine eJ [608] (bX (fr2:=fin [(1,.ptr 1 0),(8,.c (lsC (firstL x)))]) (ob2:=fob [(0,.tab tabs),(1,.box 41 (.c x.cv))]) (nx2:=3000) (aI (by omega) (by simp[aY,eF,fin_at,finA_at,upd_at,fob_at,HV.close,HV.closeL,CV.denil,CV.denilL,denilL_str,hfl2,lsC,firstL,HV.men,HV.menL,HV.norm,HV.toC,HV.toCL]) (by simp[bB,fK,fob_at,upd_at,none0_at,bN,HO.close,HV.close,HV.closeL,Ln.denil,HO.men,HV.men,HV.menL,HV.norm,HV.toC,HV.toCL])) ?_);refine aE fun K hK=>aD (by kernel_rfl) ?_;simp (maxSteps:=4000000) only[↓sP,sA,tyS,simprocAttr];repeat refine AI ?_
  refine hK _ _ _ ?_;clear hK K;refine aE fun K hK=>?_;refine aE fun K hK=>aD (by kernel_rfl) ?_;simp only[sR,simprocAttr];iterate 4
   (refine aC (g:=none) rfl rfl fun K' hK'=>?_;simp only[sH,↓sP,sA,tyS,simprocAttr];(repeat refine AI ?_);refine hK' _ _ ?_;clear hK' K')
  simp only[sE,↓reduceIte,simprocAttr];repeat refine AI ?_
  refine hK _ _ _ ?_;clear hK K;refine aP ?_;refine bR (α:={i:Nat//i≤x.d.length}) (fun i=>(fin [(13,.own 3004 (1+i.1)),(82,.c (.slc (x.d.map dg))),(83,.c (.int .i64 x.d.length)),(84,.c (.int .i64 i.1))],fob [(0,.tab tabs),(3004,.row 71 1 ((firstL x::(x.d.take i.1).map mF).map lsC))])) 5000 (fun i=>x.d.length-i.1) ⟨0,by omega⟩ (aI (by omega) (by simp[aY,fin_at,finA_at,upd_at,HV.men,HV.menL,HV.norm,HV.toC,HV.toCL,sZ]) (by simp[bB,fob_at,upd_at,none0_at,bN,HO.men,HV.men,HV.menL,HV.norm,HV.toC,HV.toCL,sZ])) ?_;rintro⟨i,hi⟩;refine aE fun K hK=>aD (by kernel_rfl) ?_;simp (maxSteps:=4000000) only[↓sP,sA,tyS,simprocAttr];repeat refine AI ?_
  refine hK _ _ _ ?_;clear hK K;refine aE fun K hK=>?_;refine aG (b:=decide ((i:Int)<x.d.length)) rfl (fun hb=>?_) (fun hb=>?_)
  ·
   have hlt:i<x.d.length:=by have:=of_decide_eq_true hb;omega
   have hdl:=hx.dl;have hti:(x.d.take i).length=i:=by simp;omega
   clear hb;refine aK ?_;simp (maxSteps:=4000000) only[↓sP,sA,tyS,simprocAttr];repeat refine AI ?_
   refine hK _ _ _ ?_;clear hK K;refine aE fun K hK=>?_;refine aP ?_;refine aE fun K hK=>aD (by kernel_rfl) ?_;simp only[sR,simprocAttr];iterate 4
    (refine aC (g:=none) rfl rfl fun K' hK'=>?_;simp only[sH,↓sP,sA,tyS,simprocAttr,Int.natCast_nonneg,Int.ofNat_lt,hlt,bA hlt];(repeat refine AI ?_);refine hK' _ _ ?_;clear hK' K')
   simp only[sE,↓reduceIte,simprocAttr];repeat refine AI ?_
   refine hK _ _ _ ?_;clear hK K;refine cK (by kernel_rfl) ?_;simp only[sR,simprocAttr];iterate 2
    (refine bF (g:=none) rfl rfl fun K' hK'=>?_;simp only[sH,↓sP,sA,tyS,simprocAttr,List.length_cons,List.length_map,hti];(repeat refine AI ?_);refine hK' _ _ ?_;clear hK' K')
   refine bF (g:=none) rfl rfl fun K' hK'=>?_;simp (maxSteps:=4000000) only[sH,↓sP,sA,tyS,simprocAttr,List.length_cons,List.length_map,hti];refine aX (args:=[_]) (uQ x.d[i]) ⟨rfl,rfl,rfl,rfl⟩ ?_;rintro u rfl;repeat refine AI ?_
   refine hK' _ _ ?_;clear hK' K';refine eO (g:=none) 5032 rfl rfl fun K' hK'=>?_;simp (maxSteps:=4000000) only[jK,mC,sH,↓sP,sA,tyS,simprocAttr,List.length_cons,List.length_map,hti];repeat refine AI ?_
   refine eK (by first|rfl|simp) ?_;try simp (maxSteps:=4000000) only[sH,↓sP,sA,tyS,simprocAttr,List.length_cons,List.length_map,hti]
   repeat refine AI ?_
   refine hK' _ _ ?_;clear hK' K';iterate 3
    (refine bF (g:=none) rfl rfl fun K' hK'=>?_;simp only[sH,↓sP,sA,tyS,simprocAttr,List.length_cons,List.length_map,hti];(repeat refine AI ?_);refine hK' _ _ ?_;clear hK' K')
   simp only[sE,↓reduceIte,simprocAttr];repeat refine AI ?_
   refine hK _ _ _ ?_;clear hK K;refine aD (by kernel_rfl) ?_;simp (maxSteps:=4000000) only[↓sP,sA,tyS,simprocAttr,IntWalk.i64_in _ (show-9223372036854775808≤(i:Int)+1∧(i:Int)+1≤9223372036854775807 by omega)];have hmn2:min i x.d.length+1+1=1+(i+1):=by omega
   refine⟨⟨i+1,by omega⟩,(aI (by omega) (by simp[aY,fin_at,finA_at,upd_at,HV.men,HV.menL,HV.norm,HV.toC,HV.toCL,aB3 hlt,List.map_append,hti,mF,lsC,oH,hmn2]) (by simp[bB,fob_at,upd_at,none0_at,bN,HO.men,HV.men,HV.menL,HV.norm,HV.toC,HV.toCL,aB3 hlt,List.map_append,hti,mF,lsC,oH,hmn2])),?_⟩;show x.d.length-(i+1)<x.d.length-i;omega
  have hie:i=x.d.length:=by have:=of_decide_eq_false hb;omega
  subst hie;clear hb;refine bK ?_;simp (maxSteps:=4000000) only[↓sP,sA,tyS,simprocAttr];clear hK K;repeat refine AI ?_
  refine hK _ _ _ ?_;clear hK K;refine aE fun K hK=>aD (by kernel_rfl) ?_;simp (maxSteps:=4000000) only[↓sP,sA,tyS,simprocAttr];repeat refine AI ?_
  refine hK _ _ _ ?_;clear hK K;refine aJ ?_;simp (maxSteps:=4000000) only[aT,Tryz.results47,aR,aS,aQ,↓sP,sA,tyS,simprocAttr];have hdl2:1+x.d.length=x.d.length+1:=by omega
  rw[List.take_length];refine eP [3004] (.slc ((fD x).map lsC)) (.bool true) ?_ rfl (by simp) ⟨by rw[xF,if_pos hfine],by rw[hfine]⟩;simp[HV.close,HV.closeL,fob_at,upd_at,CV.denil,HV.norm,HV.toC,HV.toCL,fD,hdl2]
 refine aD (by kernel_rfl) ?_;simp only[sR,simprocAttr];iterate 3
  (refine aC (g:=none) rfl rfl fun K' hK'=>?_;simp only[sH,↓sP,sA,tyS,simprocAttr,List.length_map];(repeat refine AI ?_);refine hK' _ _ ?_;clear hK' K')
 refine aL 29 rfl (fun h3_29=>?_) (fun h3_29=>?_)
 ·
  iterate 2
   (refine aC (g:=some (31,false)) rfl rfl fun K' hK'=>?_;simp only[sH,↓sP,sA,tyS,simprocAttr,List.length_map,h3_29];(repeat refine AI ?_);refine hK' _ _ ?_;clear hK' K')
  iterate 2
   (refine aC (g:=none) rfl rfl fun K' hK'=>?_;simp only[sH,↓sP,sA,tyS,simprocAttr,List.length_map,h3_29];(repeat refine AI ?_);refine hK' _ _ ?_;clear hK' K')
  refine aL 32 rfl (fun h3_32=>?_) (fun h3_32=>?_)
  ·
   iterate 4
    (refine aC (g:=some (35,false)) rfl rfl fun K' hK'=>?_;simp only[sH,↓sP,sA,tyS,simprocAttr,List.length_map,h3_29,h3_32];(repeat refine AI ?_);refine hK' _ _ ?_;clear hK' K')
   refine aL 38 rfl (fun h3_38=>?_) (fun h3_38=>?_)
   ·
    iterate 4
     (refine aC (g:=some (39,true)) rfl rfl fun K' hK'=>?_;simp only[sH,↓sP,sA,tyS,simprocAttr,List.length_map,h3_29,h3_32,h3_38];(repeat refine AI ?_);refine hK' _ _ ?_;clear hK' K')
    refine aC (g:=some (35,false)) rfl rfl fun K' hK'=>?_;simp (maxSteps:=4000000) only[sH,↓sP,sA,tyS,simprocAttr,List.length_map,h3_29,h3_32,h3_38];repeat refine AI ?_
    refine hK' _ _ ?_;clear hK' K';iterate 2
     (refine aC (g:=none) rfl rfl fun K' hK'=>?_;simp only[sH,↓sP,sA,tyS,simprocAttr,List.length_map,h3_29,h3_32,h3_38];(repeat refine AI ?_);refine hK' _ _ ?_;clear hK' K')
    refine aL 43 rfl (fun h3_43=>?_) (fun h3_43=>?_)
    ·
     iterate 4
      (refine aC (g:=some (46,false)) rfl rfl fun K' hK'=>?_;simp only[sH,↓sP,sA,tyS,simprocAttr,List.length_map,h3_29,h3_32,h3_38,h3_43];(repeat refine AI ?_);refine hK' _ _ ?_;clear hK' K')
     iterate 4
      (refine aC (g:=some (50,true)) rfl rfl fun K' hK'=>?_;simp only[sH,↓sP,sA,tyS,simprocAttr,List.length_map,h3_29,h3_32,h3_38,h3_43];(repeat refine AI ?_);refine hK' _ _ ?_;clear hK' K')
     refine aC (g:=some (46,false)) rfl rfl fun K' hK'=>?_;simp (maxSteps:=4000000) only[sH,↓sP,sA,tyS,simprocAttr,List.length_map,h3_29,h3_32,h3_38,h3_43];repeat refine AI ?_
     refine hK' _ _ ?_;clear hK' K';refine aC (g:=none) rfl rfl fun K' hK'=>?_;simp (maxSteps:=4000000) only[sH,↓sP,sA,tyS,simprocAttr,List.length_map,h3_29,h3_32,h3_38,h3_43];repeat refine AI ?_
     refine hK' _ _ ?_;clear hK' K';simp only[sE,↓reduceIte,simprocAttr];exact key true _ _ _ (by first|(simp only[kJ,h3_29,h3_32,h3_38,h3_43,Bool.not_true,Bool.not_false,Bool.true_or,Bool.false_or,Bool.true_and,Bool.false_and];done)|(exfalso;first|exact kk1 (by assumption) (by assumption)|exact kk2 (by assumption) (by assumption))) (aI (by omega) (by simp[aY,fin_at,finA_at,upd_at,HV.men,HV.menL,HV.norm,HV.toC,HV.toCL]) (by simp[bB,fob_at,upd_at,none0_at,bN,HO.men,HV.men,HV.menL,HV.norm,HV.toC,HV.toCL]))
    iterate 4
     (refine aC (g:=some (46,false)) rfl rfl fun K' hK'=>?_;simp only[sH,↓sP,sA,tyS,simprocAttr,List.length_map,h3_29,h3_32,h3_38,h3_43];(repeat refine AI ?_);refine hK' _ _ ?_;clear hK' K')
    refine aL 49 rfl (fun h3_49=>?_) (fun h3_49=>?_)
    ·
     iterate 4
      (refine aC (g:=some (50,true)) rfl rfl fun K' hK'=>?_;simp only[sH,↓sP,sA,tyS,simprocAttr,List.length_map,h3_29,h3_32,h3_38,h3_43,h3_49];(repeat refine AI ?_);refine hK' _ _ ?_;clear hK' K')
     refine aC (g:=some (46,false)) rfl rfl fun K' hK'=>?_;simp (maxSteps:=4000000) only[sH,↓sP,sA,tyS,simprocAttr,List.length_map,h3_29,h3_32,h3_38,h3_43,h3_49];repeat refine AI ?_
     refine hK' _ _ ?_;clear hK' K';refine aC (g:=none) rfl rfl fun K' hK'=>?_;simp (maxSteps:=4000000) only[sH,↓sP,sA,tyS,simprocAttr,List.length_map,h3_29,h3_32,h3_38,h3_43,h3_49];repeat refine AI ?_
     refine hK' _ _ ?_;clear hK' K';refine aL 54 rfl (fun h3_54=>?_) (fun h3_54=>?_)
     · simp only[h3_54];simp only[sE,↓reduceIte,simprocAttr];exact key true _ _ _ (by first|(simp only[kJ,h3_29,h3_32,h3_38,h3_43,h3_49,h3_54,Bool.not_true,Bool.not_false,Bool.true_or,Bool.false_or,Bool.true_and,Bool.false_and];done)|(exfalso;first|exact kk1 (by assumption) (by assumption)|exact kk2 (by assumption) (by assumption))) (aI (by omega) (by simp[aY,fin_at,finA_at,upd_at,HV.men,HV.menL,HV.norm,HV.toC,HV.toCL]) (by simp[bB,fob_at,upd_at,none0_at,bN,HO.men,HV.men,HV.menL,HV.norm,HV.toC,HV.toCL]))
     simp only[h3_54];simp only[sE,↓reduceIte,simprocAttr];exact key false _ _ _ (by first|(simp only[kJ,h3_29,h3_32,h3_38,h3_43,h3_49,h3_54,Bool.not_true,Bool.not_false,Bool.true_or,Bool.false_or,Bool.true_and,Bool.false_and];done)|(exfalso;first|exact kk1 (by assumption) (by assumption)|exact kk2 (by assumption) (by assumption))) (aI (by omega) (by simp[aY,fin_at,finA_at,upd_at,HV.men,HV.menL,HV.norm,HV.toC,HV.toCL]) (by simp[bB,fob_at,upd_at,none0_at,bN,HO.men,HV.men,HV.menL,HV.norm,HV.toC,HV.toCL]))
    iterate 4
     (refine aC (g:=some (50,true)) rfl rfl fun K' hK'=>?_;simp only[sH,↓sP,sA,tyS,simprocAttr,List.length_map,h3_29,h3_32,h3_38,h3_43,h3_49];(repeat refine AI ?_);refine hK' _ _ ?_;clear hK' K')
    refine aC (g:=some (46,false)) rfl rfl fun K' hK'=>?_;simp (maxSteps:=4000000) only[sH,↓sP,sA,tyS,simprocAttr,List.length_map,h3_29,h3_32,h3_38,h3_43,h3_49];repeat refine AI ?_
    refine hK' _ _ ?_;clear hK' K';refine aC (g:=none) rfl rfl fun K' hK'=>?_;simp (maxSteps:=4000000) only[sH,↓sP,sA,tyS,simprocAttr,List.length_map,h3_29,h3_32,h3_38,h3_43,h3_49];repeat refine AI ?_
    refine hK' _ _ ?_;clear hK' K';simp only[sE,↓reduceIte,simprocAttr];exact key false _ _ _ (by first|(simp only[kJ,h3_29,h3_32,h3_38,h3_43,h3_49,Bool.not_true,Bool.not_false,Bool.true_or,Bool.false_or,Bool.true_and,Bool.false_and];done)|(exfalso;first|exact kk1 (by assumption) (by assumption)|exact kk2 (by assumption) (by assumption))) (aI (by omega) (by simp[aY,fin_at,finA_at,upd_at,HV.men,HV.menL,HV.norm,HV.toC,HV.toCL]) (by simp[bB,fob_at,upd_at,none0_at,bN,HO.men,HV.men,HV.menL,HV.norm,HV.toC,HV.toCL]))
   iterate 4
    (refine aC (g:=some (39,true)) rfl rfl fun K' hK'=>?_;simp only[sH,↓sP,sA,tyS,simprocAttr,List.length_map,h3_29,h3_32,h3_38];(repeat refine AI ?_);refine hK' _ _ ?_;clear hK' K')
   refine aC (g:=some (35,false)) rfl rfl fun K' hK'=>?_;simp (maxSteps:=4000000) only[sH,↓sP,sA,tyS,simprocAttr,List.length_map,h3_29,h3_32,h3_38];repeat refine AI ?_
   refine hK' _ _ ?_;clear hK' K';iterate 2
    (refine aC (g:=none) rfl rfl fun K' hK'=>?_;simp only[sH,↓sP,sA,tyS,simprocAttr,List.length_map,h3_29,h3_32,h3_38];(repeat refine AI ?_);refine hK' _ _ ?_;clear hK' K')
   iterate 4
    (refine aC (g:=some (46,false)) rfl rfl fun K' hK'=>?_;simp only[sH,↓sP,sA,tyS,simprocAttr,List.length_map,h3_29,h3_32,h3_38];(repeat refine AI ?_);refine hK' _ _ ?_;clear hK' K')
   refine aL 49 rfl (fun h3_49=>?_) (fun h3_49=>?_)
   ·
    iterate 4
     (refine aC (g:=some (50,true)) rfl rfl fun K' hK'=>?_;simp only[sH,↓sP,sA,tyS,simprocAttr,List.length_map,h3_29,h3_32,h3_38,h3_49];(repeat refine AI ?_);refine hK' _ _ ?_;clear hK' K')
    refine aC (g:=some (46,false)) rfl rfl fun K' hK'=>?_;simp (maxSteps:=4000000) only[sH,↓sP,sA,tyS,simprocAttr,List.length_map,h3_29,h3_32,h3_38,h3_49];repeat refine AI ?_
    refine hK' _ _ ?_;clear hK' K';refine aC (g:=none) rfl rfl fun K' hK'=>?_;simp (maxSteps:=4000000) only[sH,↓sP,sA,tyS,simprocAttr,List.length_map,h3_29,h3_32,h3_38,h3_49];repeat refine AI ?_
    refine hK' _ _ ?_;clear hK' K';refine aL 54 rfl (fun h3_54=>?_) (fun h3_54=>?_)
    · simp only[h3_54];simp only[sE,↓reduceIte,simprocAttr];exact key true _ _ _ (by first|(simp only[kJ,h3_29,h3_32,h3_38,h3_49,h3_54,Bool.not_true,Bool.not_false,Bool.true_or,Bool.false_or,Bool.true_and,Bool.false_and];done)|(exfalso;first|exact kk1 (by assumption) (by assumption)|exact kk2 (by assumption) (by assumption))) (aI (by omega) (by simp[aY,fin_at,finA_at,upd_at,HV.men,HV.menL,HV.norm,HV.toC,HV.toCL]) (by simp[bB,fob_at,upd_at,none0_at,bN,HO.men,HV.men,HV.menL,HV.norm,HV.toC,HV.toCL]))
    simp only[h3_54];simp only[sE,↓reduceIte,simprocAttr];exact key false _ _ _ (by first|(simp only[kJ,h3_29,h3_32,h3_38,h3_49,h3_54,Bool.not_true,Bool.not_false,Bool.true_or,Bool.false_or,Bool.true_and,Bool.false_and];done)|(exfalso;first|exact kk1 (by assumption) (by assumption)|exact kk2 (by assumption) (by assumption))) (aI (by omega) (by simp[aY,fin_at,finA_at,upd_at,HV.men,HV.menL,HV.norm,HV.toC,HV.toCL]) (by simp[bB,fob_at,upd_at,none0_at,bN,HO.men,HV.men,HV.menL,HV.norm,HV.toC,HV.toCL]))
   iterate 4
    (refine aC (g:=some (50,true)) rfl rfl fun K' hK'=>?_;simp only[sH,↓sP,sA,tyS,simprocAttr,List.length_map,h3_29,h3_32,h3_38,h3_49];(repeat refine AI ?_);refine hK' _ _ ?_;clear hK' K')
   refine aC (g:=some (46,false)) rfl rfl fun K' hK'=>?_;simp (maxSteps:=4000000) only[sH,↓sP,sA,tyS,simprocAttr,List.length_map,h3_29,h3_32,h3_38,h3_49];repeat refine AI ?_
   refine hK' _ _ ?_;clear hK' K';refine aC (g:=none) rfl rfl fun K' hK'=>?_;simp (maxSteps:=4000000) only[sH,↓sP,sA,tyS,simprocAttr,List.length_map,h3_29,h3_32,h3_38,h3_49];repeat refine AI ?_
   refine hK' _ _ ?_;clear hK' K';simp only[sE,↓reduceIte,simprocAttr];exact key false _ _ _ (by first|(simp only[kJ,h3_29,h3_32,h3_38,h3_49,Bool.not_true,Bool.not_false,Bool.true_or,Bool.false_or,Bool.true_and,Bool.false_and];done)|(exfalso;first|exact kk1 (by assumption) (by assumption)|exact kk2 (by assumption) (by assumption))) (aI (by omega) (by simp[aY,fin_at,finA_at,upd_at,HV.men,HV.menL,HV.norm,HV.toC,HV.toCL]) (by simp[bB,fob_at,upd_at,none0_at,bN,HO.men,HV.men,HV.menL,HV.norm,HV.toC,HV.toCL]))
  iterate 4
   (refine aC (g:=some (35,false)) rfl rfl fun K' hK'=>?_;simp only[sH,↓sP,sA,tyS,simprocAttr,List.length_map,h3_29,h3_32];(repeat refine AI ?_);refine hK' _ _ ?_;clear hK' K')
  iterate 4
   (refine aC (g:=some (39,true)) rfl rfl fun K' hK'=>?_;simp only[sH,↓sP,sA,tyS,simprocAttr,List.length_map,h3_29,h3_32];(repeat refine AI ?_);refine hK' _ _ ?_;clear hK' K')
  refine aC (g:=some (35,false)) rfl rfl fun K' hK'=>?_;simp (maxSteps:=4000000) only[sH,↓sP,sA,tyS,simprocAttr,List.length_map,h3_29,h3_32];repeat refine AI ?_
  refine hK' _ _ ?_;clear hK' K';iterate 2
   (refine aC (g:=none) rfl rfl fun K' hK'=>?_;simp only[sH,↓sP,sA,tyS,simprocAttr,List.length_map,h3_29,h3_32];(repeat refine AI ?_);refine hK' _ _ ?_;clear hK' K')
  iterate 4
   (refine aC (g:=some (46,false)) rfl rfl fun K' hK'=>?_;simp only[sH,↓sP,sA,tyS,simprocAttr,List.length_map,h3_29,h3_32];(repeat refine AI ?_);refine hK' _ _ ?_;clear hK' K')
  iterate 4
   (refine aC (g:=some (50,true)) rfl rfl fun K' hK'=>?_;simp only[sH,↓sP,sA,tyS,simprocAttr,List.length_map,h3_29,h3_32];(repeat refine AI ?_);refine hK' _ _ ?_;clear hK' K')
  refine aC (g:=some (46,false)) rfl rfl fun K' hK'=>?_;simp (maxSteps:=4000000) only[sH,↓sP,sA,tyS,simprocAttr,List.length_map,h3_29,h3_32];repeat refine AI ?_
  refine hK' _ _ ?_;clear hK' K';refine aC (g:=none) rfl rfl fun K' hK'=>?_;simp (maxSteps:=4000000) only[sH,↓sP,sA,tyS,simprocAttr,List.length_map,h3_29,h3_32];repeat refine AI ?_
  refine hK' _ _ ?_;clear hK' K';simp only[sE,↓reduceIte,simprocAttr];exact key true _ _ _ (by first|(simp only[kJ,h3_29,h3_32,Bool.not_true,Bool.not_false,Bool.true_or,Bool.false_or,Bool.true_and,Bool.false_and];done)|(exfalso;first|exact kk1 (by assumption) (by assumption)|exact kk2 (by assumption) (by assumption))) (aI (by omega) (by simp[aY,fin_at,finA_at,upd_at,HV.men,HV.menL,HV.norm,HV.toC,HV.toCL]) (by simp[bB,fob_at,upd_at,none0_at,bN,HO.men,HV.men,HV.menL,HV.norm,HV.toC,HV.toCL]))
 iterate 2
  (refine aC (g:=some (31,false)) rfl rfl fun K' hK'=>?_;simp only[sH,↓sP,sA,tyS,simprocAttr,List.length_map,h3_29];(repeat refine AI ?_);refine hK' _ _ ?_;clear hK' K')
 iterate 2
  (refine aC (g:=none) rfl rfl fun K' hK'=>?_;simp only[sH,↓sP,sA,tyS,simprocAttr,List.length_map,h3_29];(repeat refine AI ?_);refine hK' _ _ ?_;clear hK' K')
 iterate 4
  (refine aC (g:=some (35,false)) rfl rfl fun K' hK'=>?_;simp only[sH,↓sP,sA,tyS,simprocAttr,List.length_map,h3_29];(repeat refine AI ?_);refine hK' _ _ ?_;clear hK' K')
 iterate 4
  (refine aC (g:=some (39,true)) rfl rfl fun K' hK'=>?_;simp only[sH,↓sP,sA,tyS,simprocAttr,List.length_map,h3_29];(repeat refine AI ?_);refine hK' _ _ ?_;clear hK' K')
 refine aC (g:=some (35,false)) rfl rfl fun K' hK'=>?_;simp (maxSteps:=4000000) only[sH,↓sP,sA,tyS,simprocAttr,List.length_map,h3_29];repeat refine AI ?_
 refine hK' _ _ ?_;clear hK' K';iterate 2
  (refine aC (g:=none) rfl rfl fun K' hK'=>?_;simp only[sH,↓sP,sA,tyS,simprocAttr,List.length_map,h3_29];(repeat refine AI ?_);refine hK' _ _ ?_;clear hK' K')
 iterate 4
  (refine aC (g:=some (46,false)) rfl rfl fun K' hK'=>?_;simp only[sH,↓sP,sA,tyS,simprocAttr,List.length_map,h3_29];(repeat refine AI ?_);refine hK' _ _ ?_;clear hK' K')
 iterate 4
  (refine aC (g:=some (50,true)) rfl rfl fun K' hK'=>?_;simp only[sH,↓sP,sA,tyS,simprocAttr,List.length_map,h3_29];(repeat refine AI ?_);refine hK' _ _ ?_;clear hK' K')
 refine aC (g:=some (46,false)) rfl rfl fun K' hK'=>?_;simp (maxSteps:=4000000) only[sH,↓sP,sA,tyS,simprocAttr,List.length_map,h3_29];repeat refine AI ?_
 refine hK' _ _ ?_;clear hK' K';refine aC (g:=none) rfl rfl fun K' hK'=>?_;simp (maxSteps:=4000000) only[sH,↓sP,sA,tyS,simprocAttr,List.length_map,h3_29];repeat refine AI ?_
 refine hK' _ _ ?_;clear hK' K';simp only[sE,↓reduceIte,simprocAttr];exact key true _ _ _ (by first|(simp only[kJ,h3_29,Bool.not_true,Bool.not_false,Bool.true_or,Bool.false_or,Bool.true_and,Bool.false_and];done)|(exfalso;first|exact kk1 (by assumption) (by assumption)|exact kk2 (by assumption) (by assumption))) (aI (by omega) (by simp[aY,fin_at,finA_at,upd_at,HV.men,HV.menL,HV.norm,HV.toC,HV.toCL]) (by simp[bB,fob_at,upd_at,none0_at,bN,HO.men,HV.men,HV.menL,HV.norm,HV.toC,HV.toCL]))
set_option maxHeartbeats 4000000
section
variable (x:Dv)
theorem oP :CV.getAt 0 1 false x.cv=some (.str x.q.n):=by simp[Dv.cv,Qs.cv,Og.cv,CV.getAt,CV.getAtL,CV.cells,CV.cellsL,dg_cells,dg_getAt]
theorem oQ :CV.getAt 1 1 false x.cv=some (.str x.q.i):=by simp[Dv.cv,Qs.cv,Og.cv,CV.getAt,CV.getAtL,CV.cells,CV.cellsL,dg_cells,dg_getAt]
theorem oR :CV.getAt 2 32 true x.cv=some (dg x.q.a):=by simp[Dv.cv,Qs.cv,Og.cv,CV.getAt,CV.getAtL,CV.cells,CV.cellsL,dg_cells,dg_getAt]
theorem oS :CV.getAt 68 32 true x.cv=some (dg x.o.v):=by simp[Dv.cv,Qs.cv,Og.cv,CV.getAt,CV.getAtL,CV.cells,CV.cellsL,dg_cells,dg_getAt]
theorem oT :CV.getAt 100 1 false x.cv=some (.str x.o.l):=by simp[Dv.cv,Qs.cv,Og.cv,CV.getAt,CV.getAtL,CV.cells,CV.cellsL,dg_cells,dg_getAt]
theorem oU :CV.getAt 101 1 false x.cv=some (.str x.o.r):=by simp[Dv.cv,Qs.cv,Og.cv,CV.getAt,CV.getAtL,CV.cells,CV.cellsL,dg_cells,dg_getAt]
end
structure DvW (d:Dv):Prop where
 t:I64 d.t
 r:I64 d.r
 l: ∀x∈d.l,LnW x
 len:(iO d).length<2^38
 ll:d.l.length<2^38
variable {d:Dv}
theorem cJ3 (h:DvW d): ∀l∈iO d,l.length<2^40:=fun l hl=>by
 rcases List.mem_append.1 hl with hl|hl
 · simp only[mB,List.mem_cons,List.not_mem_nil,or_false]at hl;rcases hl with rfl|rfl<;>simp
 obtain⟨x,hx,hl⟩:=List.mem_flatMap.1 hl;have:=(h.l x hx).fl;rcases List.mem_cons.1 hl with rfl|hl
 · simp only[firstL,List.length_cons,List.length_map];omega
 obtain⟨a,_,rfl⟩:=List.mem_map.1 hl;simp[mF]
def rG (d:Dv):Bool:=(!iE d.r||decide (d.t<0))||decide (d.t>1099511627776)
theorem pQ :nD d=(!rG d&&d.l.all fN):=by
 have e:iE d.t=(!decide (d.t<0)&&!decide (d.t>1099511627776)):=by
  simp only[iE,inB,←decide_not];rw[Bool.eq_iff_iff];simp
 unfold nD rG;rw[e];cases iE d.r<;>cases decide (d.t<0)<;>cases decide (d.t>1099511627776)<;>simp
def dvT (d:Dv)(i:Nat):List (List aH):=mB d++(d.l.take i).flatMap fD
theorem cC0 (d:Dv):dvT d d.l.length=iO d:=by rw[dvT,List.take_length];rfl
theorem xG (h:i<d.l.length):dvT d (i+1)=dvT d i++fD d.l[i]:=by
 rw[dvT,List.take_succ_eq_append_getElem h,List.flatMap_append,dvT,List.append_assoc];simp
theorem cJ4 (d:Dv)(i:Nat):(dvT d i).length≤(iO d).length:=by
 have h1:iO d=dvT d i++(d.l.drop i).flatMap fD:=by
  rw[dvT,List.append_assoc,←List.flatMap_append,List.take_append_drop];rfl
 rw[h1,List.length_append];omega
theorem bI9 {l:List Ln}(h:i<l.length)(h0:(l.take i).all fN=true)(h1:fN l[i]=true):(l.take (i+1)).all fN=true:=by
 rw[List.take_succ_eq_append_getElem h,List.all_append,h0];simp[h1]
theorem aO0 (d:Dv)(hd:DvW d):qP Tryz.prog 21 tabs [d.cv] (fun u v=>u= .slc ((dvO d).map eI)∧v= .int .i64 (dvE d)):=by
 refine bD (args:=[.c d.cv]) Tryz.func21 rfl (by kernel_rfl) (fR tabs [d.cv]) (Nat.le_of_ble_eq_true rfl) ?_;unfold fL;have hno: ∀{ob:Ob} {r:HV},nD d=false→r= .tup [.c .nils,.c (.int .i64 1)]→ob 0=some (.tab tabs)→iH 1 r ob (fun r ob'=> ∃u v,r= .tup [.c u,.c v]∧ob'=fob [(0,.tab tabs)]∧(u= .slc ((dvO d).map eI)∧v= .int .i64 (dvE d))):=fun {ob r} hf hr h0=>by
  subst hr;exact eP [] (.slc []) (.int .i64 1) (by simp[HV.close,HV.closeL,CV.denil,CV.denilL,HV.norm,HV.toC,HV.toCL]) h0 (by simp) ⟨by rw[dvO,hf];rfl,by rw[dvE,hf];rfl⟩
 refine aE fun K hK=>aD (by kernel_rfl) ?_;simp (maxSteps:=4000000) only[↓sP,sA,tyS,simprocAttr];repeat refine AI ?_
 refine hK _ _ _ ?_;clear hK K;refine aE fun K hK=>aD (by kernel_rfl) ?_;simp only[sR,simprocAttr];iterate 2
  (refine aC (g:=none) rfl rfl fun K' hK'=>?_;simp only[sH,↓sP,sA,tyS,simprocAttr];(repeat refine AI ?_);refine hK' _ _ ?_;clear hK' K')
 refine aC (g:=none) rfl rfl fun K' hK'=>?_;simp (maxSteps:=4000000) only[sH,↓sP,sA,tyS,simprocAttr];refine fM (args:=[_]) 0 (aF5 d.r hd.r) rfl (by simp) ⟨rfl,rfl,rfl,rfl⟩ ?_;rintro u v ⟨rfl,rfl⟩;repeat refine AI ?_
 refine hK' _ _ ?_;clear hK' K';iterate 5
  (refine aC (g:=none) rfl rfl fun K' hK'=>?_;simp only[sH,↓sP,sA,tyS,simprocAttr];(repeat refine AI ?_);refine hK' _ _ ?_;clear hK' K')
 simp only[sE,↓reduceIte,simprocAttr];repeat refine AI ?_
 refine hK _ _ _ ?_;clear hK K;refine aE fun K hK=>?_;refine aE fun K hK=>?_;have key: ∀(b:Bool) fr ob nx,b=rG d→Fits 1 fr ob (fin [(1,.ptr 1 0),(4,.c (.str (fT d.r))),(28,.c (.bool b))]) (fob [(0,.tab tabs),(1,.box 50 (.c d.cv))]) 600→K fr ob nx:=by
  rintro b fr ob nx rfl hf;refine hK _ _ _ (bX hf ?_);clear hf hK K;refine aG (b:=rG d) rfl (fun hb=>?_) (fun hb=>?_)
  ·
   refine aE fun K hK=>aD (by kernel_rfl) ?_;simp (maxSteps:=4000000) only[↓sP,sA,tyS,simprocAttr];repeat refine AI ?_
   refine hK _ _ _ ?_;clear hK K;refine aJ ?_;simp (maxSteps:=4000000) only[aT,Tryz.results21,aR,aS,aQ,↓sP,sA,tyS,simprocAttr];exact hno (by rw[pQ,hb];rfl) rfl rfl
  have hbad:rG d=false:=hb;clear hb;refine aK ?_;simp (maxSteps:=4000000) only[↓sP,sA,tyS,simprocAttr];repeat refine AI ?_
  refine hK _ _ _ ?_;clear hK K;refine aE fun K hK=>dT mixed [(0,[],[]),(1,[],[]),(2,[],[]),(3,[],[]),(4,[],[]),(5,[],[]),(6,[],[]),(7,[],[]),(8,[],[]),(10,[],[]),(11,[],[]),(13,[],[]),(14,[],[]),(16,[],[]),(18,[],[]),(19,[],[]),(20,[],[]),(22,[],[]),(23,[],[]),(24,[],[]),(25,[],[]),(26,[],[]),(27,[],[]),(9,[],[0,1,2,3,4,5,10,11,13,14,16,18,19,20,22,23,24,25,26,27]),(12,[],[0,1,2,3,4,5,13,14,16,18,19,20,22,23,24,25,26,27]),(15,[],[0,1,2,3,4,5,16,18,19,20,22,23,24,25,26,27]),(17,[],[]),(21,[17],[0,1,2,3,4,5,16,22,23,24,25,26,27,17]),(28,[17],[]),(29,[],[]),(30,[],[])] [0,1,3,0,8,24,0,64,192,448,0,1024,4032,0,8192,32704,0,131071,0,262144,786432,1900480,0,4194304,12582912,0,33554432,100663296,268238784,536870911,1073741823] (by kernel_rfl) (by kernel_rfl) (by kernel_rfl) (by kernel_rfl) rfl (by kernel_rfl) ?_;iterate 23
   (refine cA (g:=none) rfl rfl fun K' hK'=>?_;simp only[sH,↓sP,sA,tyS,simprocAttr,oP,oQ,oR,oS,oT,oU];(repeat refine AI ?_);refine hK' _ _ ?_;clear hK' K')
  refine cA (g:=none) rfl rfl fun K' hK'=>?_;simp (maxSteps:=4000000) only[sH,↓sP,sA,tyS,simprocAttr,oP,oQ,oR,oS,oT,oU];refine aX (args:=[_]) (uQ d.q.a) ⟨rfl,rfl,rfl,rfl⟩ ?_;rintro u rfl;repeat refine AI ?_
  refine hK' _ _ ?_;clear hK' K';refine cA (g:=none) rfl rfl fun K' hK'=>?_;simp (maxSteps:=4000000) only[sH,↓sP,sA,tyS,simprocAttr,oP,oQ,oR,oS,oT,oU];refine jO (args:=[_]) 0 (bS4 d.t hd.t) rfl (by simp) ⟨rfl,rfl,rfl,rfl⟩ ?_;rintro u rfl;repeat refine AI ?_
  refine hK' _ _ ?_;clear hK' K';refine cA (g:=none) rfl rfl fun K' hK'=>?_;simp (maxSteps:=4000000) only[sH,↓sP,sA,tyS,simprocAttr,oP,oQ,oR,oS,oT,oU];refine aX (args:=[_]) (uQ d.p) ⟨rfl,rfl,rfl,rfl⟩ ?_;rintro u rfl;repeat refine AI ?_
  refine hK' _ _ ?_;clear hK' K';refine kQ (g:=none) 668 rfl rfl fun K' hK'=>?_;simp (maxSteps:=4000000) only[jK,mC,sH,↓sP,sA,tyS,simprocAttr,oP,oQ,oR,oS,oT,oU];repeat refine AI ?_
  refine eK (by first|rfl|simp) ?_;try simp (maxSteps:=4000000) only[sH,↓sP,sA,tyS,simprocAttr,oP,oQ,oR,oS,oT,oU]
  repeat refine AI ?_
  refine hK' _ _ ?_;clear hK' K';refine cA (g:=none) rfl rfl fun K' hK'=>?_;simp (maxSteps:=4000000) only[sH,↓sP,sA,tyS,simprocAttr,oP,oQ,oR,oS,oT,oU];refine aX (args:=[_]) (uQ d.o.v) ⟨rfl,rfl,rfl,rfl⟩ ?_;rintro u rfl;repeat refine AI ?_
  refine hK' _ _ ?_;clear hK' K';refine kQ (g:=none) 712 rfl rfl fun K' hK'=>?_;simp (maxSteps:=4000000) only[jK,mC,sH,↓sP,sA,tyS,simprocAttr,oP,oQ,oR,oS,oT,oU];repeat refine AI ?_
  refine eK (by first|rfl|simp) ?_;try simp (maxSteps:=4000000) only[sH,↓sP,sA,tyS,simprocAttr,oP,oQ,oR,oS,oT,oU]
  repeat refine AI ?_
  refine hK' _ _ ?_;clear hK' K';iterate 2
   (refine cA (g:=none) rfl rfl fun K' hK'=>?_;simp only[sH,↓sP,sA,tyS,simprocAttr,oP,oQ,oR,oS,oT,oU];(repeat refine AI ?_);refine hK' _ _ ?_;clear hK' K')
  simp only[sE,↓reduceIte,simprocAttr];repeat refine AI ?_
  refine hK _ _ _ ?_;clear hK K;refine aE fun K hK=>?_;refine aE fun K hK=>aD (by kernel_rfl) ?_;simp only[sR,simprocAttr];iterate 4
   (refine aC (g:=none) rfl rfl fun K' hK'=>?_;simp only[sH,↓sP,sA,tyS,simprocAttr];(repeat refine AI ?_);refine hK' _ _ ?_;clear hK' K')
  simp only[sE,↓reduceIte,simprocAttr];repeat refine AI ?_
  refine hK _ _ _ ?_;clear hK K;refine aP ?_;refine bR (α:={i:Nat//i≤d.l.length∧(d.l.take i).all fN=true}) (fun i=>(fin [(6,.own 716 (dvT d i.1).length),(60,.c (.slc (d.l.map Ln.cv))),(61,.c (.int .i64 d.l.length)),(62,.c (.int .i64 i.1))],fob [(0,.tab tabs),(716,.row 71 1 ((dvT d i.1).map lsC))])) 2000 (fun i=>d.l.length-i.1) ⟨0,by omega,by simp⟩ (aI (by omega) (by simp[aY,fin_at,finA_at,upd_at,HV.men,HV.menL,HV.norm,HV.toC,HV.toCL,dvT,mB,lsC,wDer,wOrg]) (by simp[bB,fob_at,upd_at,none0_at,bN,HO.men,HV.men,HV.menL,HV.norm,HV.toC,HV.toCL,dvT,mB,lsC,wDer,wOrg])) ?_;rintro⟨i,hi,hall⟩;refine aE fun K hK=>aD (by kernel_rfl) ?_;simp (maxSteps:=4000000) only[↓sP,sA,tyS,simprocAttr];repeat refine AI ?_
  refine hK _ _ _ ?_;clear hK K;refine aE fun K hK=>?_;refine aG (b:=decide ((i:Int)<d.l.length)) rfl (fun hb=>?_) (fun hb=>?_)
  ·
   have hlt:i<d.l.length:=by have:=of_decide_eq_true hb;omega
   have hll:=hd.ll;have hle:=cJ4 d (i+1);have hlen:=hd.len;rw[xG hlt,List.length_append]at hle;clear hb;refine aK ?_;simp (maxSteps:=4000000) only[↓sP,sA,tyS,simprocAttr];repeat refine AI ?_
   refine hK _ _ _ ?_;clear hK K;refine aE fun K hK=>?_;refine aP ?_;refine aE fun K hK=>aD (by kernel_rfl) ?_;simp only[sR,simprocAttr];iterate 4
    (refine aC (g:=none) rfl rfl fun K' hK'=>?_;simp only[sH,↓sP,sA,tyS,simprocAttr,Int.natCast_nonneg,Int.ofNat_lt,hlt,bA hlt];(repeat refine AI ?_);refine hK' _ _ ?_;clear hK' K')
   simp only[sE,↓reduceIte,simprocAttr];repeat refine AI ?_
   refine hK _ _ _ ?_;clear hK K;refine aE fun K hK=>aD (by kernel_rfl) ?_;simp only[sR,simprocAttr];refine aC (g:=none) rfl rfl fun K' hK'=>?_;simp (maxSteps:=4000000) only[sH,↓sP,sA,tyS,simprocAttr];repeat refine AI ?_
   refine hK' _ _ ?_;clear hK' K';refine aC (g:=none) rfl rfl fun K' hK'=>?_;simp (maxSteps:=4000000) only[sH,↓sP,sA,tyS,simprocAttr];refine fM (args:=[_]) 0 (lines_ok d.l[i] (hd.l _ (List.getElem_mem hlt))) rfl (by simp) ⟨rfl,rfl,rfl,rfl⟩ ?_;rintro u v ⟨rfl,rfl⟩;repeat refine AI ?_
   refine hK' _ _ ?_;clear hK' K';iterate 5
    (refine aC (g:=none) rfl rfl fun K' hK'=>?_;simp only[sH,↓sP,sA,tyS,simprocAttr];(repeat refine AI ?_);refine hK' _ _ ?_;clear hK' K')
   simp only[sE,↓reduceIte,simprocAttr];repeat refine AI ?_
   refine hK _ _ _ ?_;clear hK K;refine aE fun K hK=>?_;refine aE fun K hK=>aD (by kernel_rfl) ?_;simp (maxSteps:=4000000) only[↓sP,sA,tyS,simprocAttr];repeat refine AI ?_
   refine hK _ _ _ ?_;clear hK K;refine aG (b:=!fN d.l[i]) rfl (fun hb=>?_) (fun hb=>?_)
   ·
    refine aE fun K hK=>aD (by kernel_rfl) ?_;simp (maxSteps:=4000000) only[↓sP,sA,tyS,simprocAttr];repeat refine AI ?_
    refine hK _ _ _ ?_;clear hK K;refine aJ ?_;simp (maxSteps:=4000000) only[aT,Tryz.results21,aR,aS,aQ,↓sP,sA,tyS,simprocAttr];exact hno (by rw[pQ,List.all_eq_false.2 ⟨_,List.getElem_mem hlt,by simpa using hb⟩,Bool.and_false]) rfl rfl
   have hfl:fN d.l[i]=true:=by simpa using hb
   clear hb;have hlv:xF d.l[i]=fD d.l[i]:=if_pos hfl;rw[hlv];have hcl:(∀v∈(fD d.l[i]).map lsC,v.cells=1)=True:=eq_true fun v hv=>by
    obtain⟨y,_,rfl⟩:=List.mem_map.1 hv;rfl
   refine aK ?_;simp (maxSteps:=4000000) only[↓sP,sA,tyS,simprocAttr];repeat refine AI ?_
   refine hK _ _ _ ?_;clear hK K;refine aD (by kernel_rfl) ?_;simp only[sR,simprocAttr];iterate 4
    (refine aC (g:=none) rfl rfl fun K' hK'=>?_;simp only[sH,↓sP,sA,tyS,simprocAttr,List.length_map,hcl];(repeat refine AI ?_);refine hK' _ _ ?_;clear hK' K')
   simp only[sE,↓reduceIte,simprocAttr];repeat refine AI ?_
   refine hK _ _ _ ?_;clear hK K;refine aD (by kernel_rfl) ?_;simp (maxSteps:=4000000) only[↓sP,sA,tyS,simprocAttr,IntWalk.i64_in _ (show-9223372036854775808≤(i:Int)+1∧(i:Int)+1≤9223372036854775807 by omega)];refine⟨⟨i+1,by omega,bI9 hlt hall hfl⟩,(aI (by omega) (by simp[aY,fin_at,finA_at,upd_at,HV.men,HV.menL,HV.norm,HV.toC,HV.toCL,xG hlt,List.map_append,List.length_append]) (by simp[bB,fob_at,upd_at,none0_at,bN,HO.men,HV.men,HV.menL,HV.norm,HV.toC,HV.toCL,xG hlt,List.map_append,List.length_append])),?_⟩;show d.l.length-(i+1)<d.l.length-i;omega
  have hie:i=d.l.length:=by have:=of_decide_eq_false hb;omega
  subst hie;rw[List.take_length]at hall;clear hb;rw[cC0];have hfine:nD d=true:=by rw[pQ,hbad,hall];rfl
  have hlen:=hd.len;refine bK ?_;simp (maxSteps:=4000000) only[↓sP,sA,tyS,simprocAttr];clear hK K;repeat refine AI ?_
  refine hK _ _ _ ?_;clear hK K;refine eJ [716] (bX (fr2:=fin [(6,.c (.slc ((iO d).map lsC)))]) (ob2:=fob [(0,.tab tabs)]) (nx2:=3000) (aI (by omega) (by simp[aY,eF,fin_at,finA_at,upd_at,fob_at,HV.close,HV.closeL,CV.denil,CV.denilL,fO,HV.men,HV.menL,HV.norm,HV.toC,HV.toCL]) (by simp[bB,fK,fob_at,upd_at,none0_at,bN,HO.close,HV.close,HV.closeL,HO.men,HV.men,HV.menL,HV.norm,HV.toC,HV.toCL])) ?_);refine aE fun K hK=>aD (by kernel_rfl) ?_;simp only[sR,simprocAttr];refine aC (g:=none) rfl rfl fun K' hK'=>?_;simp (maxSteps:=4000000) only[sH,↓sP,sA,tyS,simprocAttr,fO];repeat refine AI ?_
  refine hK' _ _ ?_;clear hK' K';refine aC (g:=none) rfl rfl fun K' hK'=>?_;simp (maxSteps:=4000000) only[sH,↓sP,sA,tyS,simprocAttr,fO];refine cS (args:=[_]) (cI7 (iO d) (by omega) (cJ3 hd)) ⟨rfl,rfl,rfl,rfl⟩ ?_;rintro u v ⟨rfl,rfl⟩;repeat refine AI ?_
  refine hK' _ _ ?_;clear hK' K';iterate 4
   (refine aC (g:=none) rfl rfl fun K' hK'=>?_;simp only[sH,↓sP,sA,tyS,simprocAttr,fO];(repeat refine AI ?_);refine hK' _ _ ?_;clear hK' K')
  simp only[sE,↓reduceIte,simprocAttr];repeat refine AI ?_
  refine hK _ _ _ ?_;clear hK K;refine aJ ?_;simp (maxSteps:=4000000) only[aT,Tryz.results21,aR,aS,aQ,↓sP,sA,tyS,simprocAttr];exact eP [] (.slc ((uJ (iO d)).map eI)) (.int .i64 (pH (iO d))) (by simp[HV.close,HV.closeL,CV.denil,CV.denilL,cM,HV.norm,HV.toC,HV.toCL]) rfl (by simp) ⟨by rw[dvO,if_pos hfine],by rw[dvE,if_pos hfine]⟩
 refine aD (by kernel_rfl) ?_;simp only[sR,simprocAttr];iterate 3
  (refine aC (g:=none) rfl rfl fun K' hK'=>?_;simp only[sH,↓sP,sA,tyS,simprocAttr];(repeat refine AI ?_);refine hK' _ _ ?_;clear hK' K')
 refine aL 17 rfl (fun h2_17=>?_) (fun h2_17=>?_)
 ·
  iterate 3
   (refine aC (g:=some (19,false)) rfl rfl fun K' hK'=>?_;simp only[sH,↓sP,sA,tyS,simprocAttr,h2_17];(repeat refine AI ?_);refine hK' _ _ ?_;clear hK' K')
  iterate 2
   (refine aC (g:=none) rfl rfl fun K' hK'=>?_;simp only[sH,↓sP,sA,tyS,simprocAttr,h2_17];(repeat refine AI ?_);refine hK' _ _ ?_;clear hK' K')
  refine aL 22 rfl (fun h2_22=>?_) (fun h2_22=>?_)
  ·
   iterate 3
    (refine aC (g:=some (24,false)) rfl rfl fun K' hK'=>?_;simp only[sH,↓sP,sA,tyS,simprocAttr,h2_17,h2_22];(repeat refine AI ?_);refine hK' _ _ ?_;clear hK' K')
   refine aC (g:=none) rfl rfl fun K' hK'=>?_;simp (maxSteps:=4000000) only[sH,↓sP,sA,tyS,simprocAttr,h2_17,h2_22];repeat refine AI ?_
   refine hK' _ _ ?_;clear hK' K';simp only[sE,↓reduceIte,simprocAttr];exact key true _ _ _ (by simp only[rG,h2_17,h2_22,Bool.not_true,Bool.not_false,Bool.true_or,Bool.false_or]) (aI (by omega) (by simp[aY,fin_at,finA_at,upd_at,HV.men,HV.menL,HV.norm,HV.toC,HV.toCL]) (by simp[bB,fob_at,upd_at,none0_at,bN,HO.men,HV.men,HV.menL,HV.norm,HV.toC,HV.toCL]))
  iterate 3
   (refine aC (g:=some (24,false)) rfl rfl fun K' hK'=>?_;simp only[sH,↓sP,sA,tyS,simprocAttr,h2_17,h2_22];(repeat refine AI ?_);refine hK' _ _ ?_;clear hK' K')
  refine aC (g:=none) rfl rfl fun K' hK'=>?_;simp (maxSteps:=4000000) only[sH,↓sP,sA,tyS,simprocAttr,h2_17,h2_22];repeat refine AI ?_
  refine hK' _ _ ?_;clear hK' K';refine aL 27 rfl (fun h2_27=>?_) (fun h2_27=>?_)
  · simp only[h2_27];simp only[sE,↓reduceIte,simprocAttr];exact key true _ _ _ (by simp only[rG,h2_17,h2_22,h2_27,Bool.not_true,Bool.not_false,Bool.true_or,Bool.false_or]) (aI (by omega) (by simp[aY,fin_at,finA_at,upd_at,HV.men,HV.menL,HV.norm,HV.toC,HV.toCL]) (by simp[bB,fob_at,upd_at,none0_at,bN,HO.men,HV.men,HV.menL,HV.norm,HV.toC,HV.toCL]))
  simp only[h2_27];simp only[sE,↓reduceIte,simprocAttr];exact key false _ _ _ (by simp only[rG,h2_17,h2_22,h2_27,Bool.not_true,Bool.not_false,Bool.true_or,Bool.false_or]) (aI (by omega) (by simp[aY,fin_at,finA_at,upd_at,HV.men,HV.menL,HV.norm,HV.toC,HV.toCL]) (by simp[bB,fob_at,upd_at,none0_at,bN,HO.men,HV.men,HV.menL,HV.norm,HV.toC,HV.toCL]))
 iterate 3
  (refine aC (g:=some (19,false)) rfl rfl fun K' hK'=>?_;simp only[sH,↓sP,sA,tyS,simprocAttr,h2_17];(repeat refine AI ?_);refine hK' _ _ ?_;clear hK' K')
 iterate 2
  (refine aC (g:=none) rfl rfl fun K' hK'=>?_;simp only[sH,↓sP,sA,tyS,simprocAttr,h2_17];(repeat refine AI ?_);refine hK' _ _ ?_;clear hK' K')
 iterate 3
  (refine aC (g:=some (24,false)) rfl rfl fun K' hK'=>?_;simp only[sH,↓sP,sA,tyS,simprocAttr,h2_17];(repeat refine AI ?_);refine hK' _ _ ?_;clear hK' K')
 refine aC (g:=none) rfl rfl fun K' hK'=>?_;simp (maxSteps:=4000000) only[sH,↓sP,sA,tyS,simprocAttr,h2_17];repeat refine AI ?_
 refine hK' _ _ ?_;clear hK' K';simp only[sE,↓reduceIte,simprocAttr];exact key true _ _ _ (by simp only[rG,h2_17,Bool.not_true,Bool.not_false,Bool.true_or,Bool.false_or]) (aI (by omega) (by simp[aY,fin_at,finA_at,upd_at,HV.men,HV.menL,HV.norm,HV.toC,HV.toCL]) (by simp[bB,fob_at,upd_at,none0_at,bN,HO.men,HV.men,HV.menL,HV.norm,HV.toC,HV.toCL]))
end Go.Proofs.YthedbjfipmkpiaaGreatDoor
namespace Go.Pl
open Go Go.Hl
def aO1 (L:List Ln):List Int:=L.flatMap Ln.f
structure Blk (o:Nat)(L:List Ln)(F:List Int)(a b:Nat):Prop where
 node: ∀x∈L,(a:Int)≤x.n∧x.n<b
 dist:(L.map Ln.n).Nodup
 kind: ∀x∈L,x.k≠5
 back: ∀p (h:p<L.length),∀n∈L[p].f,(o:Int)≤n∧n<o+p
 free: ∀n∈F,(o:Int)≤n∧n<o+L.length
 size:(aO1 L).length+F.length=L.length
 once: ∀n:Int,(aO1 L++F).count n=if(o:Int)≤n∧n<o+L.length then 1 else 0
theorem Blk.nil (o a:Nat):Blk o [] [] a a:=⟨by simp,by simp,by simp,by simp,by simp,by simp[aO1],fun n=>by simp[aO1]⟩
theorem Blk.wide {o:Nat}{L:List Ln}{F:List Int}{a b c:Nat}(h:Blk o L F a b)(hc:b≤c):Blk o L F a c:=
 ⟨fun x hx=>by have:=h.node x hx;omega,h.dist,h.kind,h.back,h.free,h.size,h.once⟩
theorem bU2 (n:Nd):fW n≠5∧fW n≠1:=by unfold fW;grind
structure NeedsV (X:List Ln):Prop where
 pos:0<X.length
 last:(X.getLast?.map Ln.k)=some 5
 back: ∀p (h:p<X.length),∀n∈X[p].f,0≤n∧n<p
 dist: ∀p (h:p<X.length),X[p].k≠5→ ∀q (h':q<p),X[q].n≠X[p].n
 size:(aO1 X).length<X.length
 once: ∀p:Nat,p+1<X.length→(aO1 X).count (p:Int)=1
theorem aO2 {l:List Nd}(ht:IsTree l)(S:List Sp): ∀(f i:Nat) (out:List Ln),i<l.length→l.length-i≤f→dR l (truL S) i=true→
  (∀x∈out,x.k=1→ ∃j,∃h:j<l.length,l[j].k=1∧x=kG l S j∧dR l (truL S) j=true)→ ∀x∈prv l S f i out,x.k=1→ ∃j,∃h:j<l.length,l[j].k=1∧x=kG l S j∧dR l (truL S) j=true
 |0,i,out,hi,hf,_,_=>by omega
 |f+1,i,out,hi,hf,hv,ho=>by
  have ha:=gQ ht hi;intro x hx hk;rcases Decidable.em ((l.getD i nd0).k=1)with h|h
  ·
   rw[qK h]at hx;rcases List.mem_append.1 hx with hx|hx
   · exact ho x hx hk
   · rw[List.mem_singleton]at hx;rw[qL hi]at h;exact⟨i,hi,h,hx,hv⟩
  ·
   have key: ∀j,j≤l[i].c.toNat→ ∀x∈(iW l S f i j out).1,x.k=1→ ∃j,∃h:j<l.length,l[j].k=1∧x=kG l S j∧dR l (truL S) j=true:=by
    intro j;induction j with
    |zero=>intro _;exact ho
    |succ j ih=>
     intro hj;have h3:=jL ht hi (k:=j) (by omega);have h6:=(gZ ht hi j (by omega)).2.2;rw[fQ,pF];split
     · rename_i hc;exact aO2 ht S f _ _ h3 (by omega) hc.2 (ih (by omega))
     · exact ih (by omega)
   rw[nS h,qL hi]at hx;rcases List.mem_append.1 hx with hx|hx
   · exact key _ (Nat.le_refl _) x hx hk
   · rw[List.mem_singleton]at hx;subst hx;exact absurd hk (bU2 _).2
theorem tY {l:List Nd}{S:List Sp}(h:evalV l (truL S)=true): ∀x∈proveV l S,x.k=1→ ∃j,∃h:j<l.length,l[j].k=1∧x=kG l S j∧(S.getD (lv (l.take j)) sp0).h=true:=by
 have ht:IsTree l:=gC (by unfold evalV at h;simp only[Bool.and_eq_true]at h;exact h.1);have hv:dR l (truL S) 0=true:=by
  unfold evalV at h;simp only[Bool.and_eq_true]at h;unfold dR;rw[List.drop_zero];exact h.2
 intro x hx hk;unfold proveV at hx;rw[if_pos h]at hx;rcases List.mem_append.1 hx with hx|hx
 · obtain⟨j,h1,h2,h3,h4⟩:=aO2 ht S l.length 0 [] ht.ne (by omega) hv (by simp) x hx hk;rw[vU h1 h2,aK8]at h4;exact⟨j,h1,h2,h3,h4⟩
 · rw[List.mem_singleton]at hx;subst hx;simp at hk
variable {j:Nat}
theorem xH {l:List Nd}(hj:j<l.length)(hk:l[j].k=1):(dC 0 l)[lv (l.take j)]? =some j:=by
 have e:dC 0 l=dC 0 (l.take j)++dC j (l.drop j):=by
  conv=>lhs;rw[←List.take_append_drop j l,lO]
  rw[Nat.zero_add,List.length_take,Nat.min_eq_left (by omega)]
 rw[e,List.getElem?_append_right (by rw[fP];exact Nat.le_refl _),fP,Nat.sub_self,List.drop_eq_getElem_cons hj,dC,if_pos hk];rfl
theorem xI : ∀(l:List Nd) (o:Nat),(dC o l).Pairwise (· <·)∧ ∀x∈dC o l,o≤x
 |[],o=>by simp[dC]
 |n::l,o=>by
  have h:=xI l (o+1);rw[dC];split
  ·
   refine⟨List.pairwise_cons.2 ⟨fun x hx=>?_,h.1⟩,fun x hx=>?_⟩
   · have:=h.2 x hx;omega
   ·
    rcases List.mem_cons.1 hx with rfl|hx
    · omega
    · have:=h.2 x hx;omega
  · exact⟨h.1,fun x hx=>by have:=h.2 x hx;omega⟩
variable {k:Nat}
theorem aB4 {l:List Nd}(hj:j<l.length)(hk:l[j].k=1)(h:(dC 0 l)[k]? =some j):k=lv (l.take j):=by
 have h1:=xH hj hk;obtain⟨a1,a2⟩:=List.getElem?_eq_some_iff.1 h;obtain⟨b1,b2⟩:=List.getElem?_eq_some_iff.1 h1;have hp:=List.pairwise_iff_getElem.1 (xI l 0).1;rcases Nat.lt_trichotomy k (lv (l.take j))with h2|h2|h2
 · have:=hp _ _ a1 b1 h2;omega
 · exact h2
 · have:=hp _ _ b1 a1 h2;omega
theorem xJ {P:Nat→List Ln→List Ln}{v:Nat→Bool}{w:Nat}(hP: ∀j out,∃L,P j out=out++L): ∀(ks:List Nat) (st:List Ln×List Int),∃L,(ks.foldl (pF P v w) st).1=st.1++L
 |[],st=>⟨[],by simp⟩
 |k::ks,st=>by
  obtain⟨L,h⟩:=xJ (v:=v) (w:=w) hP ks (pF P v w st k);obtain⟨M,g⟩:=hP k st.1;rw[List.foldl_cons,h,pF];split
  · exact⟨M++L,by simp only;rw[g,List.append_assoc]⟩
  · exact⟨L,rfl⟩
theorem bA5 (l:List Nd)(S:List Sp): ∀(f i:Nat) (out:List Ln),∃L,prv l S f i out=out++L
 |0,_,out=>⟨[],by simp[prv]⟩
 |f+1,i,out=>by
  rw[prv];split
  · exact⟨_,rfl⟩
  · obtain⟨L,h⟩:=xJ (v:=dR l (truL S)) (w:=wantN (l.getD i nd0)) (fun j o=>bA5 l S f j o) (aE5 l i) (out,[]);simp only at h⊢;rw[h];exact⟨L++_,by rw[List.append_assoc]⟩
theorem bU3 (l:List Nd)(S:List Sp)(f i j:Nat)(out:List Ln): ∃L,(iW l S f i j out).1=out++L:=
 xJ (fun j o=>bA5 l S f j o) _ _
def dws (l:List Dig):List aH:=l.map Subtype.val
theorem aF9 : ∀{a b:List Dig},dws a=dws b→a=b
 |[],[],_=>rfl
 |[],_::_,h=>by cases h
 |_::_,[],h=>by cases h
 |x::a,y::b,h=>by
  simp only[dws,List.map_cons,List.cons.injEq]at h;rw[Subtype.ext h.1,aF9 h.2]
theorem eU (l:List Dig):(dws l).length=l.length:=List.length_map _
theorem rH (l:List Dig)(i:Nat)(h:i<(dws l).length):(dws l)[i]=(l[i]'(by rwa [eU]at h)).1:=by simp[dws]
theorem jU (l:List Dig)(i:Nat):dws (l.take i)=(dws l).take i:=List.map_take
theorem lW (a b:List Dig):dws (a++b)=dws a++dws b:=List.map_append
theorem lX (l:List Dig)(d:Dig):l.contains d=(dws l).contains d.1:=by
 rw[Bool.eq_iff_iff,List.contains_iff_mem,List.contains_iff_mem];exact⟨fun h=>List.mem_map.2 ⟨d,h,rfl⟩,fun h=>by obtain⟨x,h1,h2⟩:=List.mem_map.1 h;rwa [←Subtype.ext h2]⟩
variable {l:List Dig}
theorem aG0 (h:k<l.length):((dws l)[k]'(by rwa [eU])==(dws l)[k-1]'(by rw[eU];omega))=(l[k]==l[k-1]):=by
 rw[rH,rH,Bool.eq_iff_iff,beq_iff_eq,beq_iff_eq,Subtype.ext_iff]
theorem cC1 (h0:1≤k)(h:k<l.length)(hne:(l[k]==l[k-1])=false)(hd:cH (dws (l.take k))=dws (l.take k)):cH (dws (l.take (k+1)))=dws (l.take (k+1)):=by
 rw[jU]at hd⊢;exact aU2 h0 (by rwa [eU]) (by rw[aG0 h];exact hne) hd
theorem bA6 (h0:1≤k)(h:k<l.length)(he:(l[k]==l[k-1])=true):cH (dws (l.take (k+1)))=cH (dws (l.take k)):=by
 rw[jU,jU];exact aU3 h0 (by rwa [eU]) (by rw[aG0 h];exact he)
theorem cJ5 {r:List Dig}{i:Nat}(h0:1≤k)(h:k<l.length)(hne:(l[k]==l[k-1])=false)(hi:i<r.length)(hr:dws (r.take i)=cH (dws (l.take k))):dws ((r.set i l[k]).take (i+1))=cH (dws (l.take (k+1))):=by
 rw[jU l,bG7 h0 (by rwa [eU]) (by rw[aG0 h];exact hne),←jU,←hr,rH];rw[List.take_succ_eq_append_getElem (by simpa using hi),List.take_set_of_le (Nat.le_refl _),lW];simp[dws]
def dD (X:List Ln):List Dig:=X.flatMap Ln.d
def bU4 (X:List Ln):List aH:=iV (dws (dD X))
theorem bJ0 {s:List Dig}(hp:s.Perm l)(hs:s.Pairwise fun a b=>slt b.1 a.1=false):cH (dws s)=iV (dws l):=by
 refine aU0 ?_ fun w=>?_
 · unfold dws;rw[List.pairwise_map];refine hs.imp fun {a b} h=>?_;rw[←List.not_lt,←uP];simpa using h
 · unfold dws;exact(hp.map _).mem_iff
theorem cC2 {x:Ln}(h:fN x=true):(wordK x.k).length≤7∧(∀n∈x.n::x.f,0≤n∧n≤1099511627776):=by
 simp only[fN,Bool.and_eq_true,inB,decide_eq_true_eq]at h;obtain⟨⟨⟨h1,h2⟩,h3⟩,h4⟩:=h;refine⟨?_,fun n hn=>?_⟩
 ·
  obtain h|h|h|h|h:x.k=1∨x.k=2∨x.k=3∨x.k=4∨x.k=5:=by omega
  all_goals rw[h];decide
 ·
  rcases List.mem_cons.1 hn with rfl|hn
  · exact(jQ _).1 h3
  ·
   split at h4
   · rw[beq_iff_eq]at h4;rw[h4]at hn;cases hn
   · simp only[Bool.and_eq_true]at h4;exact(jQ _).1 (List.all_eq_true.1 h4.1 n hn)
theorem aG1 {n:Int}(h:0≤n∧n≤1099511627776):(fT n).length≤21∧sizeW (fT n)≤64:=by
 have h1:=bQ4 (n:=n) (by omega);have:=eL (fT n);omega
theorem bJ1 (w:aH)(l:List aH):fY (w::l)=sizeW w+1+fY l:=by simp[fY]
theorem cC3 :fY []=0:=rfl
theorem bJ2 (l:List aH)(ls:List (List aH)):sumD (l::ls)=fY l+sumD ls:=by simp[sumD]
theorem bJ3 (l:List Ln):(l.flatMap fD).length=l.length+(dD l).length:=by
 induction l with
 |nil=>rfl
 |cons x l ih=>
  rw[List.flatMap_cons,List.length_append,ih];simp only[fD,dD,List.length_cons,List.length_map,List.flatMap_cons,List.length_append];omega
theorem lines_ok {l:List Ln}(h:l.all fN=true)(hr: ∀x∈l,x.f.length≤100): ∀w∈l.flatMap fD,okL w=true:=by
 intro w hw;obtain⟨x,hx,hw⟩:=List.mem_flatMap.1 hw;have hf:=List.all_eq_true.1 h x hx;obtain⟨h1,h2⟩:=cC2 hf;have h3:=hr x hx;rw[kH];rcases List.mem_cons.1 hw with rfl|hw
 ·
  refine⟨by simp[firstL],by simp only[firstL,List.length_cons,List.length_map];omega,fun u hu=>?_⟩;rcases List.mem_cons.1 hu with rfl|hu
  · omega
  · obtain⟨n,hn,rfl⟩:=List.mem_map.1 (show u∈(x.n::x.f).map fT from hu);have:=(aG1 (h2 n hn)).1;omega
 ·
  obtain⟨d,_,rfl⟩:=List.mem_map.1 hw;refine⟨by simp[mF],by simp[mF],fun u hu=>?_⟩;simp only[mF,List.mem_cons,List.not_mem_nil,or_false]at hu;rcases hu with rfl|rfl
  · decide
  · rw[qU];decide
structure SmallD (d:Dv):Prop where
 fine:nD d=true
 n:d.q.n.length≤100
 i:d.q.i.length≤100
 l:d.o.l.length≤100
 r:d.o.r.length≤100
 lines:d.l.length≤100
 aO1:(aO1 d.l).length≤100
 docs:(dD d.l).length≤200
theorem head_ok {d:Dv}(h:SmallD d):(∀w∈mB d,okL w=true)∧sumD (mB d)≤3400:=by
 have hf:=h.fine;simp only[nD,Bool.and_eq_true]at hf;have h1:=aG1 ((jQ _).1 hf.1.1);have h2:=aG1 ((jQ _).1 hf.1.2);have a1:=h.n;have a2:=h.i;have a3:=h.l;have a4:=h.r;have b1:wDer.length=10:=rfl;have b2:wOrg.length=6:=rfl;constructor
 ·
  intro w hw;rw[kH];simp only[mB,List.mem_cons,List.not_mem_nil,or_false]at hw;rcases hw with rfl|rfl
  · refine⟨by simp,by simp,fun u hu=>?_⟩;simp only[List.mem_cons,List.not_mem_nil,or_false]at hu;rcases hu with rfl|rfl|rfl|rfl|rfl|rfl|rfl<;>first|omega|(rw[qU];omega)
  · refine⟨by simp,by simp,fun u hu=>?_⟩;simp only[List.mem_cons,List.not_mem_nil,or_false]at hu;rcases hu with rfl|rfl|rfl|rfl<;>first|omega|(rw[qU];omega)
 · have c1:=eL wDer;have c2:=eL wOrg;have c3:=eL d.q.n;have c4:=eL d.q.i;have c5:=eL (iN d.q.a);have c6:=eL (iN d.p);have c7:=eL (iN d.o.v);have c8:=eL d.o.l;have c9:=eL d.o.r;rw[qU]at c5 c6 c7;simp only[mB,bJ2,bJ1,cC3,show sumD []=0 from rfl];omega
theorem aG2 {n a b:Int}:inB n a b=true↔a≤n∧n≤b:=by unfold inB;simp
theorem aO3 {r:Pr}(h:qX r=true):(0≤r.g∧r.g≤1099511627776)∧IsTree r.t∧fV r.a=true∧(aT7 r.b).isSome=true∧(aT7 r.c).isSome=true:=by
 unfold qX at h;simp only[Bool.and_eq_true,aG2]at h;obtain⟨h1,h2,h3,⟨h4,h5⟩,h6⟩:=h;rw[qV]at h5;exact⟨⟨h4,h5⟩,gC h6,h1,h2,h3⟩
theorem cC4 {p:Po}(h:bR3 p=true):(1≤p.v∧p.v≤1099511627776)∧p.r.length≤16∧fV p.n=true∧ ∀r∈p.r,qX r=true:=by
 unfold bR3 at h;simp only[Bool.and_eq_true,aG2,decide_eq_true_eq,List.all_eq_true]at h;obtain⟨h1,⟨h2,h3⟩,h4,h5,-⟩:=h;rw[qV]at h3;exact⟨⟨h2,h3⟩,h4,h1,h5⟩
theorem bA7 : ∀(l:List Nd) (m:Nat) (v:Int),skip m l=some []→(∀n∈l,dE n=true)→qI l m v=some (0,v+lv l)
 |[],0,v,_,_=>by simp[qI,lv]
 |[],m+1,v,h,_=>by cases h
 |n::l,0,v,h,_=>by grind[fA]
 |n::l,m+1,v,h,hn=>by
  have h':skip (m+n.c.toNat) l=some []:=h;have hnn:=hn n List.mem_cons_self;obtain⟨c1,c2,c3,c4⟩:=gF hnn;have e:((m+1:Nat):Int)+(n.c-1)=((m+n.c.toNat:Nat):Int):=by omega
  rw[qI,if_neg (by omega),if_pos hnn,e,bA7 l _ _ h' (fun x hx=>hn x (List.mem_cons_of_mem _ hx)),lv];grind
theorem xK {l:List Nd}(h:IsTree l):dZ l=true:=by
 unfold dZ;have:=bA7 l 1 0 h.skip h.node;rw[show((1:Nat):Int)=1 from rfl]at this;rw[this];have:=h.lv;simp[h.ne,h.len];omega
end Go.Pl
