/- Plain Lean: lines of a policy as they are read, one by one (28.5). By an AI agent. -/
import Derived.Test.YthedbjfipmkpiaaGreatDoorHdV1
import Derived.Test.YthedbjfipmkpiaaGreatDoorHdSb
import Derived.Test.YthedbjfipmkpiaaGreatDoorHdV9
import Derived.Test.YthedbjfipmkpiaaGreatDoorPl31
import Derived.Test.YthedbjfipmkpiaaGreatDoorHdFm
set_option linter.unusedSimpArgs false
set_option linter.unusedVariables false
set_option linter.defProp false
namespace Go.Proofs.YthedbjfipmkpiaaGreatDoor
open Go Go.Hl Go.Pl
set_option maxRecDepth 10000
set_option maxHeartbeats 8000000
abbrev I64 (n:Int):Prop:= -9223372036854775808≤n∧n≤9223372036854775807
structure LnW (x:Ln):Prop where
 k:I64 x.k
 n:I64 x.n
 f: ∀n∈x.f,I64 n
 fl:x.f.length<2^38
 dl:x.d.length<2^38
variable {k:Int}
theorem kk1 (h:(k==1)=true)(h2:(k !=1)=true):False:=bne_iff_ne.1 h2 (eq_of_beq h)
theorem kk2 (h:(k==1)=false)(h2:(k !=1)=false):False:=by
 rw[bne,h]at h2;cases h2
def kN (x:Ln):Bool:=((!inB x.k 1 5||!eJ x.n)||(x.k==1&&decide ((x.f.length:Int)>0)))||(!(x.k==1)&&decide ((x.d.length:Int)>0))
variable {x:Ln}
theorem pR :cL x=(!kN x&&x.f.all eJ):=by
 have e1:(x.f==[])=!decide ((x.f.length:Int)>0):=by
  cases x.f with
  |nil=>rfl
  |cons a l=>
   have:decide (((a::l).length:Int)>0)=true:=decide_eq_true (by simp only[List.length_cons];omega);rw[this];rfl
 have e2:(x.d==[])=!decide ((x.d.length:Int)>0):=by
  cases x.d with
  |nil=>rfl
  |cons a l=>
   have:decide (((a::l).length:Int)>0)=true:=decide_eq_true (by simp only[List.length_cons];omega);rw[this];rfl
 unfold cL kN;by_cases hk:x.k=1
 ·
  rw[if_pos hk,e1,hk];cases hf:decide ((x.f.length:Int)>0)with
  |true=>simp
  |false=>
   have:x.f=[]:=List.eq_nil_of_length_eq_zero (by have:=of_decide_eq_false hf;omega);rw[this];simp
 rw[if_neg hk,e2,show(x.k==1)=false from beq_eq_false_iff_ne.2 hk];cases inB x.k 1 5<;>cases eJ x.n<;>cases x.f.all eJ<;>cases decide ((x.d.length:Int)>0)<;>rfl
variable {i:Nat}
theorem kO (h:i<x.f.length):(x.f.take (i+1)).map eM=(x.f.take i).map eM++[eM x.f[i]]:=by
 rw[List.take_succ_eq_append_getElem h,List.map_append];rfl
variable {l:List Int}
theorem all_take (h:i<l.length)(h0:(l.take i).all eJ=true)(h1:eJ l[i]=true):(l.take (i+1)).all eJ=true:=by
 rw[List.take_succ_eq_append_getElem h,List.all_append,h0];simp[h1]
theorem aZ9 (h:i<l.length)(h1:eJ l[i]=false):l.all eJ=false:=by
 rw[List.all_eq_false];exact⟨_,List.getElem_mem h,by simp[h1]⟩
theorem oM {l:List Dig}(h:i<l.length):(l.take (i+1)).map kZ=(l.take i).map kZ++[kZ l[i]]:=by
 rw[List.take_succ_eq_append_getElem h,List.map_append];rfl
def xH (x:Ln):List (List aH):=if cL x then dN x else []
theorem lines_ok (x:Ln)(hx:LnW x):qP Tryz.prog 47 tabs [x.cv] (fun u v=>u= .slc ((xH x).map lsC)∧v= .bool (cL x)):=by
 refine bA (args:=[.c x.cv]) Tryz.func47 rfl (by kernel_rfl) (fR tabs [x.cv]) (Nat.le_of_ble_eq_true rfl) ?_;unfold fN;obtain⟨w1,w2⟩:=cA0 x.k;have hno: ∀{ob:Ob} {r:HV},cL x=false→r= .tup [.c .nils,.c (.bool false)]→ob 0=some (.tab tabs)→jN 1 r ob (fun r ob'=> ∃u v,r= .tup [.c u,.c v]∧ob'=fob [(0,.tab tabs)]∧(u= .slc ((xH x).map lsC)∧v= .bool (cL x))):=fun {ob r} hf hr h0=>by
  subst hr;exact eQ [] (.slc []) (.bool false) (by simp[HV.close,HV.closeL,CV.denil,CV.denilL,HV.norm,HV.toC,HV.toCL]) h0 (by simp) ⟨by rw[xH,hf];rfl,by rw[hf]⟩
 refine aD fun K hK=>aC (by kernel_rfl) ?_;simp (maxSteps:=4000000) only[↓sP,sA,tyS,simprocAttr];repeat refine AI ?_
 refine hK _ _ _ ?_;clear hK K;refine aD fun K hK=>dI mixed [(1,[],[]),(2,[],[]),(0,[],[1,2]),(3,[],[]),(4,[],[]),(5,[],[]),(6,[],[]),(7,[],[]),(8,[],[])] [0,0,2,7,15,31,31,63,255] (by kernel_rfl) (by kernel_rfl) (by kernel_rfl) (by kernel_rfl) rfl (by kernel_rfl) ?_;iterate 2
  (refine bO (g:=none) rfl rfl fun K' hK'=>?_;simp only[sH,↓sP,sA,tyS,simprocAttr];(repeat refine AI ?_);refine hK' _ _ ?_;clear hK' K')
 refine bO (g:=none) rfl rfl fun K' hK'=>?_;simp (maxSteps:=4000000) only[sH,↓sP,sA,tyS,simprocAttr];refine iL [] aN2 rfl trivial (by simp) (by simp) ⟨rfl,rfl,rfl,rfl⟩ (by simp[fI]) (by simp[HV.menL]) ?_;rintro r os' ⟨rfl,rfl⟩;rw[bS1,aZ3];repeat refine AI ?_
 refine hK' _ _ ?_;clear hK' K';refine cF (g:=none) rfl rfl fun K' hK'=>?_;simp (maxSteps:=4000000) only[sN,↓hopH.eq_def,sH,↓sP,sA,tyS,simprocAttr];refine⟨wlK,rfl,cA1,?_⟩;rw[w1,w2];repeat refine AI ?_
 refine hK' _ _ ?_;clear hK' K';iterate 5
  (refine bO (g:=none) rfl rfl fun K' hK'=>?_;simp only[sH,↓sP,sA,tyS,simprocAttr];(repeat refine AI ?_);refine hK' _ _ ?_;clear hK' K')
 simp only[sE,↓reduceIte,simprocAttr];repeat refine AI ?_
 refine hK _ _ _ ?_;clear hK K;refine aD fun K hK=>aC (by kernel_rfl) ?_;simp only[sR,simprocAttr];iterate 2
  (refine aB (g:=none) rfl rfl fun K' hK'=>?_;simp only[sH,↓sP,sA,tyS,simprocAttr];(repeat refine AI ?_);refine hK' _ _ ?_;clear hK' K')
 refine aB (g:=none) rfl rfl fun K' hK'=>?_;simp (maxSteps:=4000000) only[sH,↓sP,sA,tyS,simprocAttr];refine eR (args:=[_]) 0 (aF5 x.n hx.n) rfl (by simp) ⟨rfl,rfl,rfl,rfl⟩ ?_;rintro u v ⟨rfl,rfl⟩;repeat refine AI ?_
 refine hK' _ _ ?_;clear hK' K';iterate 5
  (refine aB (g:=none) rfl rfl fun K' hK'=>?_;simp only[sH,↓sP,sA,tyS,simprocAttr];(repeat refine AI ?_);refine hK' _ _ ?_;clear hK' K')
 simp only[sE,↓reduceIte,simprocAttr];repeat refine AI ?_
 refine hK _ _ _ ?_;clear hK K;refine aD fun K hK=>?_;refine aD fun K hK=>?_;have key: ∀(b:Bool) fr ob nx,b=kN x→Fits 1 fr ob (fin [(1,.ptr 1 0),(4,.c (.str (wordK x.k))),(6,.c (.str (eM x.n))),(56,.c (.bool b))]) (fob [(0,.tab tabs),(1,.box 41 (.c x.cv))]) 600→K fr ob nx:=by
  rintro b fr ob nx rfl hf;refine hK _ _ _ (bV hf ?_);clear hf hK K;refine aF (b:=kN x) rfl (fun hb=>?_) (fun hb=>?_)
  ·
   refine aD fun K hK=>aC (by kernel_rfl) ?_;simp (maxSteps:=4000000) only[↓sP,sA,tyS,simprocAttr];repeat refine AI ?_
   refine hK _ _ _ ?_;clear hK K;refine aJ ?_;simp (maxSteps:=4000000) only[aR,Tryz.results47,aP,aQ,aN,↓sP,sA,tyS,simprocAttr];exact hno (by rw[pR,hb];rfl) rfl rfl
  have hbad:kN x=false:=hb;clear hb;refine aK ?_;simp (maxSteps:=4000000) only[↓sP,sA,tyS,simprocAttr];repeat refine AI ?_
  refine hK _ _ _ ?_;clear hK K;refine aD fun K hK=>aC (by kernel_rfl) ?_;simp only[sR,simprocAttr];iterate 4
   (refine aB (g:=none) rfl rfl fun K' hK'=>?_;simp only[sH,↓sP,sA,tyS,simprocAttr];(repeat refine AI ?_);refine hK' _ _ ?_;clear hK' K')
  simp only[sE,↓reduceIte,simprocAttr];repeat refine AI ?_
  refine hK _ _ _ ?_;clear hK K;refine aD fun K hK=>?_;refine aD fun K hK=>aC (by kernel_rfl) ?_;simp only[sR,simprocAttr];iterate 4
   (refine aB (g:=none) rfl rfl fun K' hK'=>?_;simp only[sH,↓sP,sA,tyS,simprocAttr];(repeat refine AI ?_);refine hK' _ _ ?_;clear hK' K')
  simp only[sE,↓reduceIte,simprocAttr];repeat refine AI ?_
  refine hK _ _ _ ?_;clear hK K;refine aL ?_;refine bR (α:={i:Nat//i≤x.f.length∧(x.f.take i).all eJ=true}) (fun i=>(fin [(1,.ptr 1 0),(8,.own 608 (2+i.1)),(61,.c (.slc (x.f.map (CV.int .i64)))),(62,.c (.int .i64 x.f.length)),(63,.c (.int .i64 i.1))],fob [(0,.tab tabs),(1,.box 41 (.c x.cv)),(608,.row 9 1 ((wordK x.k::eM x.n::(x.f.take i.1).map eM).map .str))])) 2000 (fun i=>x.f.length-i.1) ⟨0,by omega,by simp⟩ (aG (by omega) (by simp[aX,fin_at,finA_at,upd_at,HV.men,HV.menL,HV.norm,HV.toC,HV.toCL]) (by simp[aZ,fob_at,upd_at,none0_at,bL,HO.men,HV.men,HV.menL,HV.norm,HV.toC,HV.toCL])) ?_;rintro⟨i,hi,hall⟩;refine aD fun K hK=>aC (by kernel_rfl) ?_;simp (maxSteps:=4000000) only[↓sP,sA,tyS,simprocAttr];repeat refine AI ?_
  refine hK _ _ _ ?_;clear hK K;refine aD fun K hK=>?_;refine aF (b:=decide ((i:Int)<x.f.length)) rfl (fun hb=>?_) (fun hb=>?_)
  ·
   have hlt:i<x.f.length:=by have:=of_decide_eq_true hb;omega
   have hfl:=hx.fl;have hti:(x.f.take i).length=i:=by simp;omega
   clear hb;refine aK ?_;simp (maxSteps:=4000000) only[↓sP,sA,tyS,simprocAttr];repeat refine AI ?_
   refine hK _ _ _ ?_;clear hK K;refine aD fun K hK=>?_;refine aL ?_;refine aD fun K hK=>aC (by kernel_rfl) ?_;simp (maxSteps:=4000000) only[↓sP,sA,tyS,simprocAttr,Int.natCast_nonneg,Int.ofNat_lt,hlt,aY hlt];repeat refine AI ?_
   refine hK _ _ _ ?_;clear hK K;refine aD fun K hK=>aC (by kernel_rfl) ?_;simp only[sR,simprocAttr];refine aB (g:=none) rfl rfl fun K' hK'=>?_;simp (maxSteps:=4000000) only[sH,↓sP,sA,tyS,simprocAttr];repeat refine AI ?_
   refine hK' _ _ ?_;clear hK' K';refine aB (g:=none) rfl rfl fun K' hK'=>?_;simp (maxSteps:=4000000) only[sH,↓sP,sA,tyS,simprocAttr];refine eR (args:=[_]) 0 (aF5 x.f[i] (hx.f _ (List.getElem_mem hlt))) rfl (by simp) ⟨rfl,rfl,rfl,rfl⟩ ?_;rintro u v ⟨rfl,rfl⟩;repeat refine AI ?_
   refine hK' _ _ ?_;clear hK' K';iterate 5
    (refine aB (g:=none) rfl rfl fun K' hK'=>?_;simp only[sH,↓sP,sA,tyS,simprocAttr];(repeat refine AI ?_);refine hK' _ _ ?_;clear hK' K')
   simp only[sE,↓reduceIte,simprocAttr];repeat refine AI ?_
   refine hK _ _ _ ?_;clear hK K;refine aD fun K hK=>?_;refine aD fun K hK=>aC (by kernel_rfl) ?_;simp (maxSteps:=4000000) only[↓sP,sA,tyS,simprocAttr];repeat refine AI ?_
   refine hK _ _ _ ?_;clear hK K;refine aF (b:=!eJ x.f[i]) rfl (fun hb=>?_) (fun hb=>?_)
   ·
    refine aD fun K hK=>aC (by kernel_rfl) ?_;simp (maxSteps:=4000000) only[↓sP,sA,tyS,simprocAttr];repeat refine AI ?_
    refine hK _ _ _ ?_;clear hK K;refine aJ ?_;simp (maxSteps:=4000000) only[aR,Tryz.results47,aP,aQ,aN,↓sP,sA,tyS,simprocAttr];exact hno (by rw[pR,aZ9 hlt (by simpa using hb),Bool.and_false]) rfl rfl
   have h40:eJ x.f[i]=true:=by simpa using hb
   clear hb;refine aK ?_;simp (maxSteps:=4000000) only[↓sP,sA,tyS,simprocAttr];repeat refine AI ?_
   refine hK _ _ _ ?_;clear hK K;refine aC (by kernel_rfl) ?_;simp only[sR,simprocAttr];iterate 5
    (refine aB (g:=none) rfl rfl fun K' hK'=>?_;simp only[sH,↓sP,sA,tyS,simprocAttr,List.length_cons,List.length_map,hti];(repeat refine AI ?_);refine hK' _ _ ?_;clear hK' K')
   simp only[sE,↓reduceIte,simprocAttr];repeat refine AI ?_
   refine hK _ _ _ ?_;clear hK K;refine aC (by kernel_rfl) ?_;simp (maxSteps:=4000000) only[↓sP,sA,tyS,simprocAttr,IntWalk.i64_in _ (show-9223372036854775808≤(i:Int)+1∧(i:Int)+1≤9223372036854775807 by omega)];have hmn:min i x.f.length+1+1+1=2+(i+1):=by omega
   refine⟨⟨i+1,by omega,all_take hlt hall h40⟩,(aG (by omega) (by simp[aX,fin_at,finA_at,upd_at,HV.men,HV.menL,HV.norm,HV.toC,HV.toCL,kO hlt,List.map_append,hti,hmn]) (by simp[aZ,fob_at,upd_at,none0_at,bL,HO.men,HV.men,HV.menL,HV.norm,HV.toC,HV.toCL,kO hlt,List.map_append,hti,hmn])),?_⟩;show x.f.length-(i+1)<x.f.length-i;omega
  have hie:i=x.f.length:=by have:=of_decide_eq_false hb;omega
  subst hie;rw[List.take_length]at hall;clear hb;have hfine:cL x=true:=by rw[pR,hbad,hall];rfl
  refine bJ ?_;simp (maxSteps:=4000000) only[↓sP,sA,tyS,simprocAttr];clear hK K;repeat refine AI ?_
  refine hK _ _ _ ?_;clear hK K;have hfl2:2+x.f.length=x.f.length+1+1:=by omega
  refine dK [608] (bV (fr2:=fin [(1,.ptr 1 0),(8,.c (lsC (firstL x)))]) (ob2:=fob [(0,.tab tabs),(1,.box 41 (.c x.cv))]) (nx2:=3000) (aG (by omega) (by simp[aX,eI,fin_at,finA_at,upd_at,fob_at,HV.close,HV.closeL,CV.denil,CV.denilL,denilL_str,hfl2,lsC,firstL,HV.men,HV.menL,HV.norm,HV.toC,HV.toCL]) (by simp[aZ,fM,fob_at,upd_at,none0_at,bL,HO.close,HV.close,HV.closeL,Ln.denil,HO.men,HV.men,HV.menL,HV.norm,HV.toC,HV.toCL])) ?_);refine aD fun K hK=>aC (by kernel_rfl) ?_;simp (maxSteps:=4000000) only[↓sP,sA,tyS,simprocAttr];repeat refine AI ?_
  refine hK _ _ _ ?_;clear hK K;refine aD fun K hK=>?_;refine aD fun K hK=>aC (by kernel_rfl) ?_;simp only[sR,simprocAttr];iterate 4
   (refine aB (g:=none) rfl rfl fun K' hK'=>?_;simp only[sH,↓sP,sA,tyS,simprocAttr];(repeat refine AI ?_);refine hK' _ _ ?_;clear hK' K')
  simp only[sE,↓reduceIte,simprocAttr];repeat refine AI ?_
  refine hK _ _ _ ?_;clear hK K;refine aL ?_;refine bR (α:={i:Nat//i≤x.d.length}) (fun i=>(fin [(13,.own 3004 (1+i.1)),(82,.c (.slc (x.d.map dg))),(83,.c (.int .i64 x.d.length)),(84,.c (.int .i64 i.1))],fob [(0,.tab tabs),(3004,.row 71 1 ((firstL x::(x.d.take i.1).map kZ).map lsC))])) 5000 (fun i=>x.d.length-i.1) ⟨0,by omega⟩ (aG (by omega) (by simp[aX,fin_at,finA_at,upd_at,HV.men,HV.menL,HV.norm,HV.toC,HV.toCL,lL]) (by simp[aZ,fob_at,upd_at,none0_at,bL,HO.men,HV.men,HV.menL,HV.norm,HV.toC,HV.toCL,lL])) ?_;rintro⟨i,hi⟩;refine aD fun K hK=>aC (by kernel_rfl) ?_;simp (maxSteps:=4000000) only[↓sP,sA,tyS,simprocAttr];repeat refine AI ?_
  refine hK _ _ _ ?_;clear hK K;refine aD fun K hK=>?_;refine aF (b:=decide ((i:Int)<x.d.length)) rfl (fun hb=>?_) (fun hb=>?_)
  ·
   have hlt:i<x.d.length:=by have:=of_decide_eq_true hb;omega
   have hdl:=hx.dl;have hti:(x.d.take i).length=i:=by simp;omega
   clear hb;refine aK ?_;simp (maxSteps:=4000000) only[↓sP,sA,tyS,simprocAttr];repeat refine AI ?_
   refine hK _ _ _ ?_;clear hK K;refine aD fun K hK=>?_;refine aL ?_;refine aD fun K hK=>aC (by kernel_rfl) ?_;simp only[sR,simprocAttr];iterate 4
    (refine aB (g:=none) rfl rfl fun K' hK'=>?_;simp only[sH,↓sP,sA,tyS,simprocAttr,Int.natCast_nonneg,Int.ofNat_lt,hlt,aY hlt];(repeat refine AI ?_);refine hK' _ _ ?_;clear hK' K')
   simp only[sE,↓reduceIte,simprocAttr];repeat refine AI ?_
   refine hK _ _ _ ?_;clear hK K;refine cI (by kernel_rfl) ?_;simp only[sR,simprocAttr];iterate 2
    (refine bE (g:=none) rfl rfl fun K' hK'=>?_;simp only[sH,↓sP,sA,tyS,simprocAttr,List.length_cons,List.length_map,hti];(repeat refine AI ?_);refine hK' _ _ ?_;clear hK' K')
   refine bE (g:=none) rfl rfl fun K' hK'=>?_;simp (maxSteps:=4000000) only[sH,↓sP,sA,tyS,simprocAttr,List.length_cons,List.length_map,hti];refine aU (args:=[_]) (uT x.d[i]) ⟨rfl,rfl,rfl,rfl⟩ ?_;rintro u rfl;repeat refine AI ?_
   refine hK' _ _ ?_;clear hK' K';refine dT (g:=none) 5032 rfl rfl fun K' hK'=>?_;simp (maxSteps:=4000000) only[gT,kC,sH,↓sP,sA,tyS,simprocAttr,List.length_cons,List.length_map,hti];repeat refine AI ?_
   refine cZ (by first|rfl|simp) ?_;try simp (maxSteps:=4000000) only[sH,↓sP,sA,tyS,simprocAttr,List.length_cons,List.length_map,hti]
   repeat refine AI ?_
   refine hK' _ _ ?_;clear hK' K';iterate 3
    (refine bE (g:=none) rfl rfl fun K' hK'=>?_;simp only[sH,↓sP,sA,tyS,simprocAttr,List.length_cons,List.length_map,hti];(repeat refine AI ?_);refine hK' _ _ ?_;clear hK' K')
   simp only[sE,↓reduceIte,simprocAttr];repeat refine AI ?_
   refine hK _ _ _ ?_;clear hK K;refine aC (by kernel_rfl) ?_;simp (maxSteps:=4000000) only[↓sP,sA,tyS,simprocAttr,IntWalk.i64_in _ (show-9223372036854775808≤(i:Int)+1∧(i:Int)+1≤9223372036854775807 by omega)];have hmn2:min i x.d.length+1+1=1+(i+1):=by omega
   refine⟨⟨i+1,by omega⟩,(aG (by omega) (by simp[aX,fin_at,finA_at,upd_at,HV.men,HV.menL,HV.norm,HV.toC,HV.toCL,oM hlt,List.map_append,hti,kZ,lsC,mQ,hmn2]) (by simp[aZ,fob_at,upd_at,none0_at,bL,HO.men,HV.men,HV.menL,HV.norm,HV.toC,HV.toCL,oM hlt,List.map_append,hti,kZ,lsC,mQ,hmn2])),?_⟩;show x.d.length-(i+1)<x.d.length-i;omega
  have hie:i=x.d.length:=by have:=of_decide_eq_false hb;omega
  subst hie;clear hb;refine bJ ?_;simp (maxSteps:=4000000) only[↓sP,sA,tyS,simprocAttr];clear hK K;repeat refine AI ?_
  refine hK _ _ _ ?_;clear hK K;refine aD fun K hK=>aC (by kernel_rfl) ?_;simp (maxSteps:=4000000) only[↓sP,sA,tyS,simprocAttr];repeat refine AI ?_
  refine hK _ _ _ ?_;clear hK K;refine aJ ?_;simp (maxSteps:=4000000) only[aR,Tryz.results47,aP,aQ,aN,↓sP,sA,tyS,simprocAttr];have hdl2:1+x.d.length=x.d.length+1:=by omega
  rw[List.take_length];refine eQ [3004] (.slc ((dN x).map lsC)) (.bool true) ?_ rfl (by simp) ⟨by rw[xH,if_pos hfine],by rw[hfine]⟩;simp[HV.close,HV.closeL,fob_at,upd_at,CV.denil,HV.norm,HV.toC,HV.toCL,dN,hdl2]
 refine aC (by kernel_rfl) ?_;simp only[sR,simprocAttr];iterate 3
  (refine aB (g:=none) rfl rfl fun K' hK'=>?_;simp only[sH,↓sP,sA,tyS,simprocAttr,List.length_map];(repeat refine AI ?_);refine hK' _ _ ?_;clear hK' K')
 refine aO 29 rfl (fun h3_29=>?_) (fun h3_29=>?_)
 ·
  iterate 2
   (refine aB (g:=some (31,false)) rfl rfl fun K' hK'=>?_;simp only[sH,↓sP,sA,tyS,simprocAttr,List.length_map,h3_29];(repeat refine AI ?_);refine hK' _ _ ?_;clear hK' K')
  iterate 2
   (refine aB (g:=none) rfl rfl fun K' hK'=>?_;simp only[sH,↓sP,sA,tyS,simprocAttr,List.length_map,h3_29];(repeat refine AI ?_);refine hK' _ _ ?_;clear hK' K')
  refine aO 32 rfl (fun h3_32=>?_) (fun h3_32=>?_)
  ·
   iterate 4
    (refine aB (g:=some (35,false)) rfl rfl fun K' hK'=>?_;simp only[sH,↓sP,sA,tyS,simprocAttr,List.length_map,h3_29,h3_32];(repeat refine AI ?_);refine hK' _ _ ?_;clear hK' K')
   refine aO 38 rfl (fun h3_38=>?_) (fun h3_38=>?_)
   ·
    iterate 4
     (refine aB (g:=some (39,true)) rfl rfl fun K' hK'=>?_;simp only[sH,↓sP,sA,tyS,simprocAttr,List.length_map,h3_29,h3_32,h3_38];(repeat refine AI ?_);refine hK' _ _ ?_;clear hK' K')
    refine aB (g:=some (35,false)) rfl rfl fun K' hK'=>?_;simp (maxSteps:=4000000) only[sH,↓sP,sA,tyS,simprocAttr,List.length_map,h3_29,h3_32,h3_38];repeat refine AI ?_
    refine hK' _ _ ?_;clear hK' K';iterate 2
     (refine aB (g:=none) rfl rfl fun K' hK'=>?_;simp only[sH,↓sP,sA,tyS,simprocAttr,List.length_map,h3_29,h3_32,h3_38];(repeat refine AI ?_);refine hK' _ _ ?_;clear hK' K')
    refine aO 43 rfl (fun h3_43=>?_) (fun h3_43=>?_)
    ·
     iterate 4
      (refine aB (g:=some (46,false)) rfl rfl fun K' hK'=>?_;simp only[sH,↓sP,sA,tyS,simprocAttr,List.length_map,h3_29,h3_32,h3_38,h3_43];(repeat refine AI ?_);refine hK' _ _ ?_;clear hK' K')
     iterate 4
      (refine aB (g:=some (50,true)) rfl rfl fun K' hK'=>?_;simp only[sH,↓sP,sA,tyS,simprocAttr,List.length_map,h3_29,h3_32,h3_38,h3_43];(repeat refine AI ?_);refine hK' _ _ ?_;clear hK' K')
     refine aB (g:=some (46,false)) rfl rfl fun K' hK'=>?_;simp (maxSteps:=4000000) only[sH,↓sP,sA,tyS,simprocAttr,List.length_map,h3_29,h3_32,h3_38,h3_43];repeat refine AI ?_
     refine hK' _ _ ?_;clear hK' K';refine aB (g:=none) rfl rfl fun K' hK'=>?_;simp (maxSteps:=4000000) only[sH,↓sP,sA,tyS,simprocAttr,List.length_map,h3_29,h3_32,h3_38,h3_43];repeat refine AI ?_
     refine hK' _ _ ?_;clear hK' K';simp only[sE,↓reduceIte,simprocAttr];exact key true _ _ _ (by first|(simp only[kN,h3_29,h3_32,h3_38,h3_43,Bool.not_true,Bool.not_false,Bool.true_or,Bool.false_or,Bool.true_and,Bool.false_and];done)|(exfalso;first|exact kk1 (by assumption) (by assumption)|exact kk2 (by assumption) (by assumption))) (aG (by omega) (by simp[aX,fin_at,finA_at,upd_at,HV.men,HV.menL,HV.norm,HV.toC,HV.toCL]) (by simp[aZ,fob_at,upd_at,none0_at,bL,HO.men,HV.men,HV.menL,HV.norm,HV.toC,HV.toCL]))
    iterate 4
     (refine aB (g:=some (46,false)) rfl rfl fun K' hK'=>?_;simp only[sH,↓sP,sA,tyS,simprocAttr,List.length_map,h3_29,h3_32,h3_38,h3_43];(repeat refine AI ?_);refine hK' _ _ ?_;clear hK' K')
    refine aO 49 rfl (fun h3_49=>?_) (fun h3_49=>?_)
    ·
     iterate 4
      (refine aB (g:=some (50,true)) rfl rfl fun K' hK'=>?_;simp only[sH,↓sP,sA,tyS,simprocAttr,List.length_map,h3_29,h3_32,h3_38,h3_43,h3_49];(repeat refine AI ?_);refine hK' _ _ ?_;clear hK' K')
     refine aB (g:=some (46,false)) rfl rfl fun K' hK'=>?_;simp (maxSteps:=4000000) only[sH,↓sP,sA,tyS,simprocAttr,List.length_map,h3_29,h3_32,h3_38,h3_43,h3_49];repeat refine AI ?_
     refine hK' _ _ ?_;clear hK' K';refine aB (g:=none) rfl rfl fun K' hK'=>?_;simp (maxSteps:=4000000) only[sH,↓sP,sA,tyS,simprocAttr,List.length_map,h3_29,h3_32,h3_38,h3_43,h3_49];repeat refine AI ?_
     refine hK' _ _ ?_;clear hK' K';refine aO 54 rfl (fun h3_54=>?_) (fun h3_54=>?_)
     · simp only[h3_54];simp only[sE,↓reduceIte,simprocAttr];exact key true _ _ _ (by first|(simp only[kN,h3_29,h3_32,h3_38,h3_43,h3_49,h3_54,Bool.not_true,Bool.not_false,Bool.true_or,Bool.false_or,Bool.true_and,Bool.false_and];done)|(exfalso;first|exact kk1 (by assumption) (by assumption)|exact kk2 (by assumption) (by assumption))) (aG (by omega) (by simp[aX,fin_at,finA_at,upd_at,HV.men,HV.menL,HV.norm,HV.toC,HV.toCL]) (by simp[aZ,fob_at,upd_at,none0_at,bL,HO.men,HV.men,HV.menL,HV.norm,HV.toC,HV.toCL]))
     simp only[h3_54];simp only[sE,↓reduceIte,simprocAttr];exact key false _ _ _ (by first|(simp only[kN,h3_29,h3_32,h3_38,h3_43,h3_49,h3_54,Bool.not_true,Bool.not_false,Bool.true_or,Bool.false_or,Bool.true_and,Bool.false_and];done)|(exfalso;first|exact kk1 (by assumption) (by assumption)|exact kk2 (by assumption) (by assumption))) (aG (by omega) (by simp[aX,fin_at,finA_at,upd_at,HV.men,HV.menL,HV.norm,HV.toC,HV.toCL]) (by simp[aZ,fob_at,upd_at,none0_at,bL,HO.men,HV.men,HV.menL,HV.norm,HV.toC,HV.toCL]))
    iterate 4
     (refine aB (g:=some (50,true)) rfl rfl fun K' hK'=>?_;simp only[sH,↓sP,sA,tyS,simprocAttr,List.length_map,h3_29,h3_32,h3_38,h3_43,h3_49];(repeat refine AI ?_);refine hK' _ _ ?_;clear hK' K')
    refine aB (g:=some (46,false)) rfl rfl fun K' hK'=>?_;simp (maxSteps:=4000000) only[sH,↓sP,sA,tyS,simprocAttr,List.length_map,h3_29,h3_32,h3_38,h3_43,h3_49];repeat refine AI ?_
    refine hK' _ _ ?_;clear hK' K';refine aB (g:=none) rfl rfl fun K' hK'=>?_;simp (maxSteps:=4000000) only[sH,↓sP,sA,tyS,simprocAttr,List.length_map,h3_29,h3_32,h3_38,h3_43,h3_49];repeat refine AI ?_
    refine hK' _ _ ?_;clear hK' K';simp only[sE,↓reduceIte,simprocAttr];exact key false _ _ _ (by first|(simp only[kN,h3_29,h3_32,h3_38,h3_43,h3_49,Bool.not_true,Bool.not_false,Bool.true_or,Bool.false_or,Bool.true_and,Bool.false_and];done)|(exfalso;first|exact kk1 (by assumption) (by assumption)|exact kk2 (by assumption) (by assumption))) (aG (by omega) (by simp[aX,fin_at,finA_at,upd_at,HV.men,HV.menL,HV.norm,HV.toC,HV.toCL]) (by simp[aZ,fob_at,upd_at,none0_at,bL,HO.men,HV.men,HV.menL,HV.norm,HV.toC,HV.toCL]))
   iterate 4
    (refine aB (g:=some (39,true)) rfl rfl fun K' hK'=>?_;simp only[sH,↓sP,sA,tyS,simprocAttr,List.length_map,h3_29,h3_32,h3_38];(repeat refine AI ?_);refine hK' _ _ ?_;clear hK' K')
   refine aB (g:=some (35,false)) rfl rfl fun K' hK'=>?_;simp (maxSteps:=4000000) only[sH,↓sP,sA,tyS,simprocAttr,List.length_map,h3_29,h3_32,h3_38];repeat refine AI ?_
   refine hK' _ _ ?_;clear hK' K';iterate 2
    (refine aB (g:=none) rfl rfl fun K' hK'=>?_;simp only[sH,↓sP,sA,tyS,simprocAttr,List.length_map,h3_29,h3_32,h3_38];(repeat refine AI ?_);refine hK' _ _ ?_;clear hK' K')
   iterate 4
    (refine aB (g:=some (46,false)) rfl rfl fun K' hK'=>?_;simp only[sH,↓sP,sA,tyS,simprocAttr,List.length_map,h3_29,h3_32,h3_38];(repeat refine AI ?_);refine hK' _ _ ?_;clear hK' K')
   refine aO 49 rfl (fun h3_49=>?_) (fun h3_49=>?_)
   ·
    iterate 4
     (refine aB (g:=some (50,true)) rfl rfl fun K' hK'=>?_;simp only[sH,↓sP,sA,tyS,simprocAttr,List.length_map,h3_29,h3_32,h3_38,h3_49];(repeat refine AI ?_);refine hK' _ _ ?_;clear hK' K')
    refine aB (g:=some (46,false)) rfl rfl fun K' hK'=>?_;simp (maxSteps:=4000000) only[sH,↓sP,sA,tyS,simprocAttr,List.length_map,h3_29,h3_32,h3_38,h3_49];repeat refine AI ?_
    refine hK' _ _ ?_;clear hK' K';refine aB (g:=none) rfl rfl fun K' hK'=>?_;simp (maxSteps:=4000000) only[sH,↓sP,sA,tyS,simprocAttr,List.length_map,h3_29,h3_32,h3_38,h3_49];repeat refine AI ?_
    refine hK' _ _ ?_;clear hK' K';refine aO 54 rfl (fun h3_54=>?_) (fun h3_54=>?_)
    · simp only[h3_54];simp only[sE,↓reduceIte,simprocAttr];exact key true _ _ _ (by first|(simp only[kN,h3_29,h3_32,h3_38,h3_49,h3_54,Bool.not_true,Bool.not_false,Bool.true_or,Bool.false_or,Bool.true_and,Bool.false_and];done)|(exfalso;first|exact kk1 (by assumption) (by assumption)|exact kk2 (by assumption) (by assumption))) (aG (by omega) (by simp[aX,fin_at,finA_at,upd_at,HV.men,HV.menL,HV.norm,HV.toC,HV.toCL]) (by simp[aZ,fob_at,upd_at,none0_at,bL,HO.men,HV.men,HV.menL,HV.norm,HV.toC,HV.toCL]))
    simp only[h3_54];simp only[sE,↓reduceIte,simprocAttr];exact key false _ _ _ (by first|(simp only[kN,h3_29,h3_32,h3_38,h3_49,h3_54,Bool.not_true,Bool.not_false,Bool.true_or,Bool.false_or,Bool.true_and,Bool.false_and];done)|(exfalso;first|exact kk1 (by assumption) (by assumption)|exact kk2 (by assumption) (by assumption))) (aG (by omega) (by simp[aX,fin_at,finA_at,upd_at,HV.men,HV.menL,HV.norm,HV.toC,HV.toCL]) (by simp[aZ,fob_at,upd_at,none0_at,bL,HO.men,HV.men,HV.menL,HV.norm,HV.toC,HV.toCL]))
   iterate 4
    (refine aB (g:=some (50,true)) rfl rfl fun K' hK'=>?_;simp only[sH,↓sP,sA,tyS,simprocAttr,List.length_map,h3_29,h3_32,h3_38,h3_49];(repeat refine AI ?_);refine hK' _ _ ?_;clear hK' K')
   refine aB (g:=some (46,false)) rfl rfl fun K' hK'=>?_;simp (maxSteps:=4000000) only[sH,↓sP,sA,tyS,simprocAttr,List.length_map,h3_29,h3_32,h3_38,h3_49];repeat refine AI ?_
   refine hK' _ _ ?_;clear hK' K';refine aB (g:=none) rfl rfl fun K' hK'=>?_;simp (maxSteps:=4000000) only[sH,↓sP,sA,tyS,simprocAttr,List.length_map,h3_29,h3_32,h3_38,h3_49];repeat refine AI ?_
   refine hK' _ _ ?_;clear hK' K';simp only[sE,↓reduceIte,simprocAttr];exact key false _ _ _ (by first|(simp only[kN,h3_29,h3_32,h3_38,h3_49,Bool.not_true,Bool.not_false,Bool.true_or,Bool.false_or,Bool.true_and,Bool.false_and];done)|(exfalso;first|exact kk1 (by assumption) (by assumption)|exact kk2 (by assumption) (by assumption))) (aG (by omega) (by simp[aX,fin_at,finA_at,upd_at,HV.men,HV.menL,HV.norm,HV.toC,HV.toCL]) (by simp[aZ,fob_at,upd_at,none0_at,bL,HO.men,HV.men,HV.menL,HV.norm,HV.toC,HV.toCL]))
  iterate 4
   (refine aB (g:=some (35,false)) rfl rfl fun K' hK'=>?_;simp only[sH,↓sP,sA,tyS,simprocAttr,List.length_map,h3_29,h3_32];(repeat refine AI ?_);refine hK' _ _ ?_;clear hK' K')
  iterate 4
   (refine aB (g:=some (39,true)) rfl rfl fun K' hK'=>?_;simp only[sH,↓sP,sA,tyS,simprocAttr,List.length_map,h3_29,h3_32];(repeat refine AI ?_);refine hK' _ _ ?_;clear hK' K')
  refine aB (g:=some (35,false)) rfl rfl fun K' hK'=>?_;simp (maxSteps:=4000000) only[sH,↓sP,sA,tyS,simprocAttr,List.length_map,h3_29,h3_32];repeat refine AI ?_
  refine hK' _ _ ?_;clear hK' K';iterate 2
   (refine aB (g:=none) rfl rfl fun K' hK'=>?_;simp only[sH,↓sP,sA,tyS,simprocAttr,List.length_map,h3_29,h3_32];(repeat refine AI ?_);refine hK' _ _ ?_;clear hK' K')
  iterate 4
   (refine aB (g:=some (46,false)) rfl rfl fun K' hK'=>?_;simp only[sH,↓sP,sA,tyS,simprocAttr,List.length_map,h3_29,h3_32];(repeat refine AI ?_);refine hK' _ _ ?_;clear hK' K')
  iterate 4
   (refine aB (g:=some (50,true)) rfl rfl fun K' hK'=>?_;simp only[sH,↓sP,sA,tyS,simprocAttr,List.length_map,h3_29,h3_32];(repeat refine AI ?_);refine hK' _ _ ?_;clear hK' K')
  refine aB (g:=some (46,false)) rfl rfl fun K' hK'=>?_;simp (maxSteps:=4000000) only[sH,↓sP,sA,tyS,simprocAttr,List.length_map,h3_29,h3_32];repeat refine AI ?_
  refine hK' _ _ ?_;clear hK' K';refine aB (g:=none) rfl rfl fun K' hK'=>?_;simp (maxSteps:=4000000) only[sH,↓sP,sA,tyS,simprocAttr,List.length_map,h3_29,h3_32];repeat refine AI ?_
  refine hK' _ _ ?_;clear hK' K';simp only[sE,↓reduceIte,simprocAttr];exact key true _ _ _ (by first|(simp only[kN,h3_29,h3_32,Bool.not_true,Bool.not_false,Bool.true_or,Bool.false_or,Bool.true_and,Bool.false_and];done)|(exfalso;first|exact kk1 (by assumption) (by assumption)|exact kk2 (by assumption) (by assumption))) (aG (by omega) (by simp[aX,fin_at,finA_at,upd_at,HV.men,HV.menL,HV.norm,HV.toC,HV.toCL]) (by simp[aZ,fob_at,upd_at,none0_at,bL,HO.men,HV.men,HV.menL,HV.norm,HV.toC,HV.toCL]))
 iterate 2
  (refine aB (g:=some (31,false)) rfl rfl fun K' hK'=>?_;simp only[sH,↓sP,sA,tyS,simprocAttr,List.length_map,h3_29];(repeat refine AI ?_);refine hK' _ _ ?_;clear hK' K')
 iterate 2
  (refine aB (g:=none) rfl rfl fun K' hK'=>?_;simp only[sH,↓sP,sA,tyS,simprocAttr,List.length_map,h3_29];(repeat refine AI ?_);refine hK' _ _ ?_;clear hK' K')
 iterate 4
  (refine aB (g:=some (35,false)) rfl rfl fun K' hK'=>?_;simp only[sH,↓sP,sA,tyS,simprocAttr,List.length_map,h3_29];(repeat refine AI ?_);refine hK' _ _ ?_;clear hK' K')
 iterate 4
  (refine aB (g:=some (39,true)) rfl rfl fun K' hK'=>?_;simp only[sH,↓sP,sA,tyS,simprocAttr,List.length_map,h3_29];(repeat refine AI ?_);refine hK' _ _ ?_;clear hK' K')
 refine aB (g:=some (35,false)) rfl rfl fun K' hK'=>?_;simp (maxSteps:=4000000) only[sH,↓sP,sA,tyS,simprocAttr,List.length_map,h3_29];repeat refine AI ?_
 refine hK' _ _ ?_;clear hK' K';iterate 2
  (refine aB (g:=none) rfl rfl fun K' hK'=>?_;simp only[sH,↓sP,sA,tyS,simprocAttr,List.length_map,h3_29];(repeat refine AI ?_);refine hK' _ _ ?_;clear hK' K')
 iterate 4
  (refine aB (g:=some (46,false)) rfl rfl fun K' hK'=>?_;simp only[sH,↓sP,sA,tyS,simprocAttr,List.length_map,h3_29];(repeat refine AI ?_);refine hK' _ _ ?_;clear hK' K')
 iterate 4
  (refine aB (g:=some (50,true)) rfl rfl fun K' hK'=>?_;simp only[sH,↓sP,sA,tyS,simprocAttr,List.length_map,h3_29];(repeat refine AI ?_);refine hK' _ _ ?_;clear hK' K')
 refine aB (g:=some (46,false)) rfl rfl fun K' hK'=>?_;simp (maxSteps:=4000000) only[sH,↓sP,sA,tyS,simprocAttr,List.length_map,h3_29];repeat refine AI ?_
 refine hK' _ _ ?_;clear hK' K';refine aB (g:=none) rfl rfl fun K' hK'=>?_;simp (maxSteps:=4000000) only[sH,↓sP,sA,tyS,simprocAttr,List.length_map,h3_29];repeat refine AI ?_
 refine hK' _ _ ?_;clear hK' K';simp only[sE,↓reduceIte,simprocAttr];exact key true _ _ _ (by first|(simp only[kN,h3_29,Bool.not_true,Bool.not_false,Bool.true_or,Bool.false_or,Bool.true_and,Bool.false_and];done)|(exfalso;first|exact kk1 (by assumption) (by assumption)|exact kk2 (by assumption) (by assumption))) (aG (by omega) (by simp[aX,fin_at,finA_at,upd_at,HV.men,HV.menL,HV.norm,HV.toC,HV.toCL]) (by simp[aZ,fob_at,upd_at,none0_at,bL,HO.men,HV.men,HV.menL,HV.norm,HV.toC,HV.toCL]))
set_option maxHeartbeats 4000000
section
variable (x:Dv)
theorem eT :CV.getAt 0 1 false x.cv=some (.str x.q.n):=by simp[Dv.cv,Qs.cv,Og.cv,CV.getAt,CV.getAtL,CV.cells,CV.cellsL,dg_cells,dg_getAt]
theorem eU :CV.getAt 1 1 false x.cv=some (.str x.q.i):=by simp[Dv.cv,Qs.cv,Og.cv,CV.getAt,CV.getAtL,CV.cells,CV.cellsL,dg_cells,dg_getAt]
theorem gE :CV.getAt 2 32 true x.cv=some (dg x.q.a):=by simp[Dv.cv,Qs.cv,Og.cv,CV.getAt,CV.getAtL,CV.cells,CV.cellsL,dg_cells,dg_getAt]
theorem gF :CV.getAt 68 32 true x.cv=some (dg x.o.v):=by simp[Dv.cv,Qs.cv,Og.cv,CV.getAt,CV.getAtL,CV.cells,CV.cellsL,dg_cells,dg_getAt]
theorem eV :CV.getAt 100 1 false x.cv=some (.str x.o.l):=by simp[Dv.cv,Qs.cv,Og.cv,CV.getAt,CV.getAtL,CV.cells,CV.cellsL,dg_cells,dg_getAt]
theorem eW :CV.getAt 101 1 false x.cv=some (.str x.o.r):=by simp[Dv.cv,Qs.cv,Og.cv,CV.getAt,CV.getAtL,CV.cells,CV.cellsL,dg_cells,dg_getAt]
end
structure DvW (d:Dv):Prop where
 t:I64 d.t
 r:I64 d.r
 l: ∀x∈d.l,LnW x
 len:(gR d).length<2^38
 ll:d.l.length<2^38
variable {d:Dv}
theorem bT1 (h:DvW d): ∀l∈gR d,l.length<2^40:=fun l hl=>by
 rcases List.mem_append.1 hl with hl|hl
 · simp only[jS,List.mem_cons,List.not_mem_nil,or_false]at hl;rcases hl with rfl|rfl<;>simp
 obtain⟨x,hx,hl⟩:=List.mem_flatMap.1 hl;have:=(h.l x hx).fl;rcases List.mem_cons.1 hl with rfl|hl
 · simp only[firstL,List.length_cons,List.length_map];omega
 obtain⟨a,_,rfl⟩:=List.mem_map.1 hl;simp[kZ]
def rO (d:Dv):Bool:=(!eJ d.r||decide (d.t<0))||decide (d.t>1099511627776)
theorem pS :iZ d=(!rO d&&d.l.all cL):=by
 have e:eJ d.t=(!decide (d.t<0)&&!decide (d.t>1099511627776)):=by
  simp only[eJ,inB,←decide_not];rw[Bool.eq_iff_iff];simp
 unfold iZ rO;rw[e];cases eJ d.r<;>cases decide (d.t<0)<;>cases decide (d.t>1099511627776)<;>simp
def dvT (d:Dv)(i:Nat):List (List aH):=jS d++(d.l.take i).flatMap dN
theorem bA0 (d:Dv):dvT d d.l.length=gR d:=by rw[dvT,List.take_length];rfl
theorem lN (h:i<d.l.length):dvT d (i+1)=dvT d i++dN d.l[i]:=by
 rw[dvT,List.take_succ_eq_append_getElem h,List.flatMap_append,dvT,List.append_assoc];simp
theorem bT2 (d:Dv)(i:Nat):(dvT d i).length≤(gR d).length:=by
 have h1:gR d=dvT d i++(d.l.drop i).flatMap dN:=by
  rw[dvT,List.append_assoc,←List.flatMap_append,List.take_append_drop];rfl
 rw[h1,List.length_append];omega
theorem bH7 {l:List Ln}(h:i<l.length)(h0:(l.take i).all cL=true)(h1:cL l[i]=true):(l.take (i+1)).all cL=true:=by
 rw[List.take_succ_eq_append_getElem h,List.all_append,h0];simp[h1]
theorem xI (d:Dv)(hd:DvW d):qP Tryz.prog 21 tabs [d.cv] (fun u v=>u= .slc ((dvO d).map dD)∧v= .int .i64 (dvE d)):=by
 refine bA (args:=[.c d.cv]) Tryz.func21 rfl (by kernel_rfl) (fR tabs [d.cv]) (Nat.le_of_ble_eq_true rfl) ?_;unfold fN;have hno: ∀{ob:Ob} {r:HV},iZ d=false→r= .tup [.c .nils,.c (.int .i64 1)]→ob 0=some (.tab tabs)→jN 1 r ob (fun r ob'=> ∃u v,r= .tup [.c u,.c v]∧ob'=fob [(0,.tab tabs)]∧(u= .slc ((dvO d).map dD)∧v= .int .i64 (dvE d))):=fun {ob r} hf hr h0=>by
  subst hr;exact eQ [] (.slc []) (.int .i64 1) (by simp[HV.close,HV.closeL,CV.denil,CV.denilL,HV.norm,HV.toC,HV.toCL]) h0 (by simp) ⟨by rw[dvO,hf];rfl,by rw[dvE,hf];rfl⟩
 refine aD fun K hK=>aC (by kernel_rfl) ?_;simp (maxSteps:=4000000) only[↓sP,sA,tyS,simprocAttr];repeat refine AI ?_
 refine hK _ _ _ ?_;clear hK K;refine aD fun K hK=>aC (by kernel_rfl) ?_;simp only[sR,simprocAttr];iterate 2
  (refine aB (g:=none) rfl rfl fun K' hK'=>?_;simp only[sH,↓sP,sA,tyS,simprocAttr];(repeat refine AI ?_);refine hK' _ _ ?_;clear hK' K')
 refine aB (g:=none) rfl rfl fun K' hK'=>?_;simp (maxSteps:=4000000) only[sH,↓sP,sA,tyS,simprocAttr];refine eR (args:=[_]) 0 (aF5 d.r hd.r) rfl (by simp) ⟨rfl,rfl,rfl,rfl⟩ ?_;rintro u v ⟨rfl,rfl⟩;repeat refine AI ?_
 refine hK' _ _ ?_;clear hK' K';iterate 5
  (refine aB (g:=none) rfl rfl fun K' hK'=>?_;simp only[sH,↓sP,sA,tyS,simprocAttr];(repeat refine AI ?_);refine hK' _ _ ?_;clear hK' K')
 simp only[sE,↓reduceIte,simprocAttr];repeat refine AI ?_
 refine hK _ _ _ ?_;clear hK K;refine aD fun K hK=>?_;refine aD fun K hK=>?_;have key: ∀(b:Bool) fr ob nx,b=rO d→Fits 1 fr ob (fin [(1,.ptr 1 0),(4,.c (.str (eM d.r))),(28,.c (.bool b))]) (fob [(0,.tab tabs),(1,.box 50 (.c d.cv))]) 600→K fr ob nx:=by
  rintro b fr ob nx rfl hf;refine hK _ _ _ (bV hf ?_);clear hf hK K;refine aF (b:=rO d) rfl (fun hb=>?_) (fun hb=>?_)
  ·
   refine aD fun K hK=>aC (by kernel_rfl) ?_;simp (maxSteps:=4000000) only[↓sP,sA,tyS,simprocAttr];repeat refine AI ?_
   refine hK _ _ _ ?_;clear hK K;refine aJ ?_;simp (maxSteps:=4000000) only[aR,Tryz.results21,aP,aQ,aN,↓sP,sA,tyS,simprocAttr];exact hno (by rw[pS,hb];rfl) rfl rfl
  have hbad:rO d=false:=hb;clear hb;refine aK ?_;simp (maxSteps:=4000000) only[↓sP,sA,tyS,simprocAttr];repeat refine AI ?_
  refine hK _ _ _ ?_;clear hK K;refine aD fun K hK=>dI mixed [(0,[],[]),(1,[],[]),(2,[],[]),(3,[],[]),(4,[],[]),(5,[],[]),(6,[],[]),(7,[],[]),(8,[],[]),(10,[],[]),(11,[],[]),(13,[],[]),(14,[],[]),(16,[],[]),(18,[],[]),(19,[],[]),(20,[],[]),(22,[],[]),(23,[],[]),(24,[],[]),(25,[],[]),(26,[],[]),(27,[],[]),(9,[],[0,1,2,3,4,5,10,11,13,14,16,18,19,20,22,23,24,25,26,27]),(12,[],[0,1,2,3,4,5,13,14,16,18,19,20,22,23,24,25,26,27]),(15,[],[0,1,2,3,4,5,16,18,19,20,22,23,24,25,26,27]),(17,[],[]),(21,[17],[0,1,2,3,4,5,16,22,23,24,25,26,27,17]),(28,[17],[]),(29,[],[]),(30,[],[])] [0,1,3,0,8,24,0,64,192,448,0,1024,4032,0,8192,32704,0,131071,0,262144,786432,1900480,0,4194304,12582912,0,33554432,100663296,268238784,536870911,1073741823] (by kernel_rfl) (by kernel_rfl) (by kernel_rfl) (by kernel_rfl) rfl (by kernel_rfl) ?_;iterate 23
   (refine bO (g:=none) rfl rfl fun K' hK'=>?_;simp only[sH,↓sP,sA,tyS,simprocAttr,eT,eU,gE,gF,eV,eW];(repeat refine AI ?_);refine hK' _ _ ?_;clear hK' K')
  refine bO (g:=none) rfl rfl fun K' hK'=>?_;simp (maxSteps:=4000000) only[sH,↓sP,sA,tyS,simprocAttr,eT,eU,gE,gF,eV,eW];refine aU (args:=[_]) (uT d.q.a) ⟨rfl,rfl,rfl,rfl⟩ ?_;rintro u rfl;repeat refine AI ?_
  refine hK' _ _ ?_;clear hK' K';refine bO (g:=none) rfl rfl fun K' hK'=>?_;simp (maxSteps:=4000000) only[sH,↓sP,sA,tyS,simprocAttr,eT,eU,gE,gF,eV,eW];refine jQ (args:=[_]) 0 (bR2 d.t hd.t) rfl (by simp) ⟨rfl,rfl,rfl,rfl⟩ ?_;rintro u rfl;repeat refine AI ?_
  refine hK' _ _ ?_;clear hK' K';refine bO (g:=none) rfl rfl fun K' hK'=>?_;simp (maxSteps:=4000000) only[sH,↓sP,sA,tyS,simprocAttr,eT,eU,gE,gF,eV,eW];refine aU (args:=[_]) (uT d.p) ⟨rfl,rfl,rfl,rfl⟩ ?_;rintro u rfl;repeat refine AI ?_
  refine hK' _ _ ?_;clear hK' K';refine fZ (g:=none) 668 rfl rfl fun K' hK'=>?_;simp (maxSteps:=4000000) only[gT,kC,sH,↓sP,sA,tyS,simprocAttr,eT,eU,gE,gF,eV,eW];repeat refine AI ?_
  refine cZ (by first|rfl|simp) ?_;try simp (maxSteps:=4000000) only[sH,↓sP,sA,tyS,simprocAttr,eT,eU,gE,gF,eV,eW]
  repeat refine AI ?_
  refine hK' _ _ ?_;clear hK' K';refine bO (g:=none) rfl rfl fun K' hK'=>?_;simp (maxSteps:=4000000) only[sH,↓sP,sA,tyS,simprocAttr,eT,eU,gE,gF,eV,eW];refine aU (args:=[_]) (uT d.o.v) ⟨rfl,rfl,rfl,rfl⟩ ?_;rintro u rfl;repeat refine AI ?_
  refine hK' _ _ ?_;clear hK' K';refine fZ (g:=none) 712 rfl rfl fun K' hK'=>?_;simp (maxSteps:=4000000) only[gT,kC,sH,↓sP,sA,tyS,simprocAttr,eT,eU,gE,gF,eV,eW];repeat refine AI ?_
  refine cZ (by first|rfl|simp) ?_;try simp (maxSteps:=4000000) only[sH,↓sP,sA,tyS,simprocAttr,eT,eU,gE,gF,eV,eW]
  repeat refine AI ?_
  refine hK' _ _ ?_;clear hK' K';iterate 2
   (refine bO (g:=none) rfl rfl fun K' hK'=>?_;simp only[sH,↓sP,sA,tyS,simprocAttr,eT,eU,gE,gF,eV,eW];(repeat refine AI ?_);refine hK' _ _ ?_;clear hK' K')
  simp only[sE,↓reduceIte,simprocAttr];repeat refine AI ?_
  refine hK _ _ _ ?_;clear hK K;refine aD fun K hK=>?_;refine aD fun K hK=>aC (by kernel_rfl) ?_;simp only[sR,simprocAttr];iterate 4
   (refine aB (g:=none) rfl rfl fun K' hK'=>?_;simp only[sH,↓sP,sA,tyS,simprocAttr];(repeat refine AI ?_);refine hK' _ _ ?_;clear hK' K')
  simp only[sE,↓reduceIte,simprocAttr];repeat refine AI ?_
  refine hK _ _ _ ?_;clear hK K;refine aL ?_;refine bR (α:={i:Nat//i≤d.l.length∧(d.l.take i).all cL=true}) (fun i=>(fin [(6,.own 716 (dvT d i.1).length),(60,.c (.slc (d.l.map Ln.cv))),(61,.c (.int .i64 d.l.length)),(62,.c (.int .i64 i.1))],fob [(0,.tab tabs),(716,.row 71 1 ((dvT d i.1).map lsC))])) 2000 (fun i=>d.l.length-i.1) ⟨0,by omega,by simp⟩ (aG (by omega) (by simp[aX,fin_at,finA_at,upd_at,HV.men,HV.menL,HV.norm,HV.toC,HV.toCL,dvT,jS,lsC,wDer,wOrg]) (by simp[aZ,fob_at,upd_at,none0_at,bL,HO.men,HV.men,HV.menL,HV.norm,HV.toC,HV.toCL,dvT,jS,lsC,wDer,wOrg])) ?_;rintro⟨i,hi,hall⟩;refine aD fun K hK=>aC (by kernel_rfl) ?_;simp (maxSteps:=4000000) only[↓sP,sA,tyS,simprocAttr];repeat refine AI ?_
  refine hK _ _ _ ?_;clear hK K;refine aD fun K hK=>?_;refine aF (b:=decide ((i:Int)<d.l.length)) rfl (fun hb=>?_) (fun hb=>?_)
  ·
   have hlt:i<d.l.length:=by have:=of_decide_eq_true hb;omega
   have hll:=hd.ll;have hle:=bT2 d (i+1);have hlen:=hd.len;rw[lN hlt,List.length_append]at hle;clear hb;refine aK ?_;simp (maxSteps:=4000000) only[↓sP,sA,tyS,simprocAttr];repeat refine AI ?_
   refine hK _ _ _ ?_;clear hK K;refine aD fun K hK=>?_;refine aL ?_;refine aD fun K hK=>aC (by kernel_rfl) ?_;simp only[sR,simprocAttr];iterate 4
    (refine aB (g:=none) rfl rfl fun K' hK'=>?_;simp only[sH,↓sP,sA,tyS,simprocAttr,Int.natCast_nonneg,Int.ofNat_lt,hlt,aY hlt];(repeat refine AI ?_);refine hK' _ _ ?_;clear hK' K')
   simp only[sE,↓reduceIte,simprocAttr];repeat refine AI ?_
   refine hK _ _ _ ?_;clear hK K;refine aD fun K hK=>aC (by kernel_rfl) ?_;simp only[sR,simprocAttr];refine aB (g:=none) rfl rfl fun K' hK'=>?_;simp (maxSteps:=4000000) only[sH,↓sP,sA,tyS,simprocAttr];repeat refine AI ?_
   refine hK' _ _ ?_;clear hK' K';refine aB (g:=none) rfl rfl fun K' hK'=>?_;simp (maxSteps:=4000000) only[sH,↓sP,sA,tyS,simprocAttr];refine eR (args:=[_]) 0 (lines_ok d.l[i] (hd.l _ (List.getElem_mem hlt))) rfl (by simp) ⟨rfl,rfl,rfl,rfl⟩ ?_;rintro u v ⟨rfl,rfl⟩;repeat refine AI ?_
   refine hK' _ _ ?_;clear hK' K';iterate 5
    (refine aB (g:=none) rfl rfl fun K' hK'=>?_;simp only[sH,↓sP,sA,tyS,simprocAttr];(repeat refine AI ?_);refine hK' _ _ ?_;clear hK' K')
   simp only[sE,↓reduceIte,simprocAttr];repeat refine AI ?_
   refine hK _ _ _ ?_;clear hK K;refine aD fun K hK=>?_;refine aD fun K hK=>aC (by kernel_rfl) ?_;simp (maxSteps:=4000000) only[↓sP,sA,tyS,simprocAttr];repeat refine AI ?_
   refine hK _ _ _ ?_;clear hK K;refine aF (b:=!cL d.l[i]) rfl (fun hb=>?_) (fun hb=>?_)
   ·
    refine aD fun K hK=>aC (by kernel_rfl) ?_;simp (maxSteps:=4000000) only[↓sP,sA,tyS,simprocAttr];repeat refine AI ?_
    refine hK _ _ _ ?_;clear hK K;refine aJ ?_;simp (maxSteps:=4000000) only[aR,Tryz.results21,aP,aQ,aN,↓sP,sA,tyS,simprocAttr];exact hno (by rw[pS,List.all_eq_false.2 ⟨_,List.getElem_mem hlt,by simpa using hb⟩,Bool.and_false]) rfl rfl
   have hfl:cL d.l[i]=true:=by simpa using hb
   clear hb;have hlv:xH d.l[i]=dN d.l[i]:=if_pos hfl;rw[hlv];have hcl:(∀v∈(dN d.l[i]).map lsC,v.cells=1)=True:=eq_true fun v hv=>by
    obtain⟨y,_,rfl⟩:=List.mem_map.1 hv;rfl
   refine aK ?_;simp (maxSteps:=4000000) only[↓sP,sA,tyS,simprocAttr];repeat refine AI ?_
   refine hK _ _ _ ?_;clear hK K;refine aC (by kernel_rfl) ?_;simp only[sR,simprocAttr];iterate 4
    (refine aB (g:=none) rfl rfl fun K' hK'=>?_;simp only[sH,↓sP,sA,tyS,simprocAttr,List.length_map,hcl];(repeat refine AI ?_);refine hK' _ _ ?_;clear hK' K')
   simp only[sE,↓reduceIte,simprocAttr];repeat refine AI ?_
   refine hK _ _ _ ?_;clear hK K;refine aC (by kernel_rfl) ?_;simp (maxSteps:=4000000) only[↓sP,sA,tyS,simprocAttr,IntWalk.i64_in _ (show-9223372036854775808≤(i:Int)+1∧(i:Int)+1≤9223372036854775807 by omega)];refine⟨⟨i+1,by omega,bH7 hlt hall hfl⟩,(aG (by omega) (by simp[aX,fin_at,finA_at,upd_at,HV.men,HV.menL,HV.norm,HV.toC,HV.toCL,lN hlt,List.map_append,List.length_append]) (by simp[aZ,fob_at,upd_at,none0_at,bL,HO.men,HV.men,HV.menL,HV.norm,HV.toC,HV.toCL,lN hlt,List.map_append,List.length_append])),?_⟩;show d.l.length-(i+1)<d.l.length-i;omega
  have hie:i=d.l.length:=by have:=of_decide_eq_false hb;omega
  subst hie;rw[List.take_length]at hall;clear hb;rw[bA0];have hfine:iZ d=true:=by rw[pS,hbad,hall];rfl
  have hlen:=hd.len;refine bJ ?_;simp (maxSteps:=4000000) only[↓sP,sA,tyS,simprocAttr];clear hK K;repeat refine AI ?_
  refine hK _ _ _ ?_;clear hK K;refine dK [716] (bV (fr2:=fin [(6,.c (.slc ((gR d).map lsC)))]) (ob2:=fob [(0,.tab tabs)]) (nx2:=3000) (aG (by omega) (by simp[aX,eI,fin_at,finA_at,upd_at,fob_at,HV.close,HV.closeL,CV.denil,CV.denilL,dJ,HV.men,HV.menL,HV.norm,HV.toC,HV.toCL]) (by simp[aZ,fM,fob_at,upd_at,none0_at,bL,HO.close,HV.close,HV.closeL,HO.men,HV.men,HV.menL,HV.norm,HV.toC,HV.toCL])) ?_);refine aD fun K hK=>aC (by kernel_rfl) ?_;simp only[sR,simprocAttr];refine aB (g:=none) rfl rfl fun K' hK'=>?_;simp (maxSteps:=4000000) only[sH,↓sP,sA,tyS,simprocAttr,dJ];repeat refine AI ?_
  refine hK' _ _ ?_;clear hK' K';refine aB (g:=none) rfl rfl fun K' hK'=>?_;simp (maxSteps:=4000000) only[sH,↓sP,sA,tyS,simprocAttr,dJ];refine cM (args:=[_]) (cH4 (gR d) (by omega) (bT1 hd)) ⟨rfl,rfl,rfl,rfl⟩ ?_;rintro u v ⟨rfl,rfl⟩;repeat refine AI ?_
  refine hK' _ _ ?_;clear hK' K';iterate 4
   (refine aB (g:=none) rfl rfl fun K' hK'=>?_;simp only[sH,↓sP,sA,tyS,simprocAttr,dJ];(repeat refine AI ?_);refine hK' _ _ ?_;clear hK' K')
  simp only[sE,↓reduceIte,simprocAttr];repeat refine AI ?_
  refine hK _ _ _ ?_;clear hK K;refine aJ ?_;simp (maxSteps:=4000000) only[aR,Tryz.results21,aP,aQ,aN,↓sP,sA,tyS,simprocAttr];exact eQ [] (.slc ((qU (gR d)).map dD)) (.int .i64 (nM (gR d))) (by simp[HV.close,HV.closeL,CV.denil,CV.denilL,bN,HV.norm,HV.toC,HV.toCL]) rfl (by simp) ⟨by rw[dvO,if_pos hfine],by rw[dvE,if_pos hfine]⟩
 refine aC (by kernel_rfl) ?_;simp only[sR,simprocAttr];iterate 3
  (refine aB (g:=none) rfl rfl fun K' hK'=>?_;simp only[sH,↓sP,sA,tyS,simprocAttr];(repeat refine AI ?_);refine hK' _ _ ?_;clear hK' K')
 refine aO 17 rfl (fun h2_17=>?_) (fun h2_17=>?_)
 ·
  iterate 3
   (refine aB (g:=some (19,false)) rfl rfl fun K' hK'=>?_;simp only[sH,↓sP,sA,tyS,simprocAttr,h2_17];(repeat refine AI ?_);refine hK' _ _ ?_;clear hK' K')
  iterate 2
   (refine aB (g:=none) rfl rfl fun K' hK'=>?_;simp only[sH,↓sP,sA,tyS,simprocAttr,h2_17];(repeat refine AI ?_);refine hK' _ _ ?_;clear hK' K')
  refine aO 22 rfl (fun h2_22=>?_) (fun h2_22=>?_)
  ·
   iterate 3
    (refine aB (g:=some (24,false)) rfl rfl fun K' hK'=>?_;simp only[sH,↓sP,sA,tyS,simprocAttr,h2_17,h2_22];(repeat refine AI ?_);refine hK' _ _ ?_;clear hK' K')
   refine aB (g:=none) rfl rfl fun K' hK'=>?_;simp (maxSteps:=4000000) only[sH,↓sP,sA,tyS,simprocAttr,h2_17,h2_22];repeat refine AI ?_
   refine hK' _ _ ?_;clear hK' K';simp only[sE,↓reduceIte,simprocAttr];exact key true _ _ _ (by simp only[rO,h2_17,h2_22,Bool.not_true,Bool.not_false,Bool.true_or,Bool.false_or]) (aG (by omega) (by simp[aX,fin_at,finA_at,upd_at,HV.men,HV.menL,HV.norm,HV.toC,HV.toCL]) (by simp[aZ,fob_at,upd_at,none0_at,bL,HO.men,HV.men,HV.menL,HV.norm,HV.toC,HV.toCL]))
  iterate 3
   (refine aB (g:=some (24,false)) rfl rfl fun K' hK'=>?_;simp only[sH,↓sP,sA,tyS,simprocAttr,h2_17,h2_22];(repeat refine AI ?_);refine hK' _ _ ?_;clear hK' K')
  refine aB (g:=none) rfl rfl fun K' hK'=>?_;simp (maxSteps:=4000000) only[sH,↓sP,sA,tyS,simprocAttr,h2_17,h2_22];repeat refine AI ?_
  refine hK' _ _ ?_;clear hK' K';refine aO 27 rfl (fun h2_27=>?_) (fun h2_27=>?_)
  · simp only[h2_27];simp only[sE,↓reduceIte,simprocAttr];exact key true _ _ _ (by simp only[rO,h2_17,h2_22,h2_27,Bool.not_true,Bool.not_false,Bool.true_or,Bool.false_or]) (aG (by omega) (by simp[aX,fin_at,finA_at,upd_at,HV.men,HV.menL,HV.norm,HV.toC,HV.toCL]) (by simp[aZ,fob_at,upd_at,none0_at,bL,HO.men,HV.men,HV.menL,HV.norm,HV.toC,HV.toCL]))
  simp only[h2_27];simp only[sE,↓reduceIte,simprocAttr];exact key false _ _ _ (by simp only[rO,h2_17,h2_22,h2_27,Bool.not_true,Bool.not_false,Bool.true_or,Bool.false_or]) (aG (by omega) (by simp[aX,fin_at,finA_at,upd_at,HV.men,HV.menL,HV.norm,HV.toC,HV.toCL]) (by simp[aZ,fob_at,upd_at,none0_at,bL,HO.men,HV.men,HV.menL,HV.norm,HV.toC,HV.toCL]))
 iterate 3
  (refine aB (g:=some (19,false)) rfl rfl fun K' hK'=>?_;simp only[sH,↓sP,sA,tyS,simprocAttr,h2_17];(repeat refine AI ?_);refine hK' _ _ ?_;clear hK' K')
 iterate 2
  (refine aB (g:=none) rfl rfl fun K' hK'=>?_;simp only[sH,↓sP,sA,tyS,simprocAttr,h2_17];(repeat refine AI ?_);refine hK' _ _ ?_;clear hK' K')
 iterate 3
  (refine aB (g:=some (24,false)) rfl rfl fun K' hK'=>?_;simp only[sH,↓sP,sA,tyS,simprocAttr,h2_17];(repeat refine AI ?_);refine hK' _ _ ?_;clear hK' K')
 refine aB (g:=none) rfl rfl fun K' hK'=>?_;simp (maxSteps:=4000000) only[sH,↓sP,sA,tyS,simprocAttr,h2_17];repeat refine AI ?_
 refine hK' _ _ ?_;clear hK' K';simp only[sE,↓reduceIte,simprocAttr];exact key true _ _ _ (by simp only[rO,h2_17,Bool.not_true,Bool.not_false,Bool.true_or,Bool.false_or]) (aG (by omega) (by simp[aX,fin_at,finA_at,upd_at,HV.men,HV.menL,HV.norm,HV.toC,HV.toCL]) (by simp[aZ,fob_at,upd_at,none0_at,bL,HO.men,HV.men,HV.menL,HV.norm,HV.toC,HV.toCL]))
end Go.Proofs.YthedbjfipmkpiaaGreatDoor
namespace Go.Pl
open Go Go.Hl
def aN6 (L:List Ln):List Int:=L.flatMap Ln.f
structure Blk (o:Nat)(L:List Ln)(F:List Int)(a b:Nat):Prop where
 node: ∀x∈L,(a:Int)≤x.n∧x.n<b
 dist:(L.map Ln.n).Nodup
 kind: ∀x∈L,x.k≠5
 back: ∀p (h:p<L.length),∀n∈L[p].f,(o:Int)≤n∧n<o+p
 free: ∀n∈F,(o:Int)≤n∧n<o+L.length
 size:(aN6 L).length+F.length=L.length
 once: ∀n:Int,(aN6 L++F).count n=if(o:Int)≤n∧n<o+L.length then 1 else 0
theorem Blk.nil (o a:Nat):Blk o [] [] a a:=⟨by simp,by simp,by simp,by simp,by simp,by simp[aN6],fun n=>by simp[aN6]⟩
variable {a:Nat}
theorem Blk.wide {o:Nat}{L:List Ln}{F:List Int}{b c:Nat}(h:Blk o L F a b)(hc:b≤c):Blk o L F a c:=
 ⟨fun x hx=>by have:=h.node x hx;omega,h.dist,h.kind,h.back,h.free,h.size,h.once⟩
structure NeedsV (X:List Ln):Prop where
 pos:0<X.length
 last:(X.getLast?.map Ln.k)=some 5
 back: ∀p (h:p<X.length),∀n∈X[p].f,0≤n∧n<p
 dist: ∀p (h:p<X.length),X[p].k≠5→ ∀q (h':q<p),X[q].n≠X[p].n
 size:(aN6 X).length<X.length
 once: ∀p:Nat,p+1<X.length→(aN6 X).count (p:Int)=1
variable {j:Nat}
theorem aN7 {l:List Nd}(hj:j<l.length)(hk:l[j].k=1):(dW 0 l)[lv (l.take j)]? =some j:=by
 have e:dW 0 l=dW 0 (l.take j)++dW j (l.drop j):=by
  conv=>lhs;rw[←List.take_append_drop j l,lZ]
  rw[Nat.zero_add,List.length_take,Nat.min_eq_left (by omega)]
 rw[e,List.getElem?_append_right (by rw[gN];exact Nat.le_refl _),gN,Nat.sub_self,List.drop_eq_getElem_cons hj,dW,if_pos hk];rfl
theorem aN8 : ∀(l:List Nd) (o:Nat),(dW o l).Pairwise (· <·)∧ ∀x∈dW o l,o≤x
 |[],o=>by simp[dW]
 |n::l,o=>by
  have h:=aN8 l (o+1);rw[dW];split
  ·
   refine⟨List.pairwise_cons.2 ⟨fun x hx=>?_,h.1⟩,fun x hx=>?_⟩
   · have:=h.2 x hx;omega
   ·
    rcases List.mem_cons.1 hx with rfl|hx
    · omega
    · have:=h.2 x hx;omega
  · exact⟨h.1,fun x hx=>by have:=h.2 x hx;omega⟩
variable {k:Nat}
theorem bH8 {l:List Nd}(hj:j<l.length)(hk:l[j].k=1)(h:(dW 0 l)[k]? =some j):k=lv (l.take j):=by
 have h1:=aN7 hj hk;obtain⟨a1,a2⟩:=List.getElem?_eq_some_iff.1 h;obtain⟨b1,b2⟩:=List.getElem?_eq_some_iff.1 h1;have hp:=List.pairwise_iff_getElem.1 (aN8 l 0).1;rcases Nat.lt_trichotomy k (lv (l.take j))with h2|h2|h2
 · have:=hp _ _ a1 b1 h2;omega
 · exact h2
 · have:=hp _ _ b1 a1 h2;omega
theorem xJ {P:Nat→List Ln→List Ln}{v:Nat→Bool}{w:Nat}(hP: ∀j out,∃L,P j out=out++L): ∀(ks:List Nat) (st:List Ln×List Int),∃L,(ks.foldl (uL P v w) st).1=st.1++L
 |[],st=>⟨[],by simp⟩
 |k::ks,st=>by
  obtain⟨L,h⟩:=xJ (v:=v) (w:=w) hP ks (uL P v w st k);obtain⟨M,g⟩:=hP k st.1;rw[List.foldl_cons,h,uL];split
  · exact⟨M++L,by simp only;rw[g,List.append_assoc]⟩
  · exact⟨L,rfl⟩
theorem bA1 (l:List Nd)(S:List Sp): ∀(f i:Nat) (out:List Ln),∃L,prv l S f i out=out++L
 |0,_,out=>⟨[],by simp[prv]⟩
 |f+1,i,out=>by
  rw[prv];split
  · exact⟨_,rfl⟩
  · obtain⟨L,h⟩:=xJ (v:=eP l (dV S)) (w:=wantN (l.getD i nd0)) (fun j o=>bA1 l S f j o) (aE3 l i) (out,[]);simp only at h⊢;rw[h];exact⟨L++_,by rw[List.append_assoc]⟩
theorem bT3 (l:List Nd)(S:List Sp)(f i j:Nat)(out:List Ln): ∃L,(oQ l S f i j out).1=out++L:=
 xJ (fun j o=>bA1 l S f j o) _ _
def dws (l:List Dig):List aH:=l.map Subtype.val
theorem bA2 : ∀{a b:List Dig},dws a=dws b→a=b
 |[],[],_=>rfl
 |[],_::_,h=>by cases h
 |_::_,[],h=>by cases h
 |x::a,y::b,h=>by
  simp only[dws,List.map_cons,List.cons.injEq]at h;rw[Subtype.ext h.1,bA2 h.2]
theorem eK (l:List Dig):(dws l).length=l.length:=List.length_map _
theorem rP (l:List Dig)(i:Nat)(h:i<(dws l).length):(dws l)[i]=(l[i]'(by rwa [eK]at h)).1:=by simp[dws]
theorem jX (l:List Dig)(i:Nat):dws (l.take i)=(dws l).take i:=List.map_take
theorem mJ (a b:List Dig):dws (a++b)=dws a++dws b:=List.map_append
theorem mK (l:List Dig)(d:Dig):l.contains d=(dws l).contains d.1:=by
 rw[Bool.eq_iff_iff,List.contains_iff_mem,List.contains_iff_mem];exact⟨fun h=>List.mem_map.2 ⟨d,h,rfl⟩,fun h=>by obtain⟨x,h1,h2⟩:=List.mem_map.1 h;rwa [←Subtype.ext h2]⟩
variable {l:List Dig}
theorem aF9 (h:k<l.length):((dws l)[k]'(by rwa [eK])==(dws l)[k-1]'(by rw[eK];omega))=(l[k]==l[k-1]):=by
 rw[rP,rP,Bool.eq_iff_iff,beq_iff_eq,beq_iff_eq,Subtype.ext_iff]
theorem cB2 (h0:1≤k)(h:k<l.length)(hne:(l[k]==l[k-1])=false)(hd:cG (dws (l.take k))=dws (l.take k)):cG (dws (l.take (k+1)))=dws (l.take (k+1)):=by
 rw[jX]at hd⊢;exact aT6 h0 (by rwa [eK]) (by rw[aF9 h];exact hne) hd
theorem bA3 (h0:1≤k)(h:k<l.length)(he:(l[k]==l[k-1])=true):cG (dws (l.take (k+1)))=cG (dws (l.take k)):=by
 rw[jX,jX];exact aT7 h0 (by rwa [eK]) (by rw[aF9 h];exact he)
theorem cI0 {r:List Dig}{i:Nat}(h0:1≤k)(h:k<l.length)(hne:(l[k]==l[k-1])=false)(hi:i<r.length)(hr:dws (r.take i)=cG (dws (l.take k))):dws ((r.set i l[k]).take (i+1))=cG (dws (l.take (k+1))):=by
 rw[jX l,bF5 h0 (by rwa [eK]) (by rw[aF9 h];exact hne),←jX,←hr,rP];rw[List.take_succ_eq_append_getElem (by simpa using hi),List.take_set_of_le (Nat.le_refl _),mJ];simp[dws]
def dL (X:List Ln):List Dig:=X.flatMap Ln.d
def aB5 (X:List Ln):List aH:=nI (dws (dL X))
theorem bH9 {s:List Dig}(hp:s.Perm l)(hs:s.Pairwise fun a b=>slt b.1 a.1=false):cG (dws s)=nI (dws l):=by
 refine aT3 ?_ fun w=>?_
 · unfold dws;rw[List.pairwise_map];refine hs.imp fun {a b} h=>?_;rw[←List.not_lt,←uS];simpa using h
 · unfold dws;exact(hp.map _).mem_iff
theorem bA4 {x:Ln}(h:cL x=true):(wordK x.k).length≤7∧(∀n∈x.n::x.f,0≤n∧n≤1099511627776):=by
 simp only[cL,Bool.and_eq_true,inB,decide_eq_true_eq]at h;obtain⟨⟨⟨h1,h2⟩,h3⟩,h4⟩:=h;refine⟨?_,fun n hn=>?_⟩
 ·
  obtain h|h|h|h|h:x.k=1∨x.k=2∨x.k=3∨x.k=4∨x.k=5:=by omega
  all_goals rw[h];decide
 ·
  rcases List.mem_cons.1 hn with rfl|hn
  · exact(gW _).1 h3
  ·
   split at h4
   · rw[beq_iff_eq]at h4;rw[h4]at hn;cases hn
   · simp only[Bool.and_eq_true]at h4;exact(gW _).1 (List.all_eq_true.1 h4.1 n hn)
theorem aG0 {n:Int}(h:0≤n∧n≤1099511627776):(eM n).length≤21∧sizeW (eM n)≤64:=by
 have h1:=bP3 (n:=n) (by omega);have:=dX (eM n);omega
theorem bI0 (w:aH)(l:List aH):fO (w::l)=sizeW w+1+fO l:=by simp[fO]
theorem cB3 :fO []=0:=rfl
theorem bI1 (l:List aH)(ls:List (List aH)):sumD (l::ls)=fO l+sumD ls:=by simp[sumD]
theorem aB6 (l:List Ln):(l.flatMap dN).length=l.length+(dL l).length:=by
 induction l with
 |nil=>rfl
 |cons x l ih=>
  rw[List.flatMap_cons,List.length_append,ih];simp only[dN,dL,List.length_cons,List.length_map,List.flatMap_cons,List.length_append];omega
theorem lines_ok {l:List Ln}(h:l.all cL=true)(hr: ∀x∈l,x.f.length≤100): ∀w∈l.flatMap dN,okL w=true:=by
 intro w hw;obtain⟨x,hx,hw⟩:=List.mem_flatMap.1 hw;have hf:=List.all_eq_true.1 h x hx;obtain⟨h1,h2⟩:=bA4 hf;have h3:=hr x hx;rw[iM];rcases List.mem_cons.1 hw with rfl|hw
 ·
  refine⟨by simp[firstL],by simp only[firstL,List.length_cons,List.length_map];omega,fun u hu=>?_⟩;rcases List.mem_cons.1 hu with rfl|hu
  · omega
  · obtain⟨n,hn,rfl⟩:=List.mem_map.1 (show u∈(x.n::x.f).map eM from hu);have:=(aG0 (h2 n hn)).1;omega
 ·
  obtain⟨d,_,rfl⟩:=List.mem_map.1 hw;refine⟨by simp[kZ],by simp[kZ],fun u hu=>?_⟩;simp only[kZ,List.mem_cons,List.not_mem_nil,or_false]at hu;rcases hu with rfl|rfl
  · decide
  · rw[qZ];decide
structure SmallD (d:Dv):Prop where
 fine:iZ d=true
 n:d.q.n.length≤100
 i:d.q.i.length≤100
 l:d.o.l.length≤100
 r:d.o.r.length≤100
 lines:d.l.length≤100
 aN6:(aN6 d.l).length≤100
 docs:(dL d.l).length≤200
theorem head_ok {d:Dv}(h:SmallD d):(∀w∈jS d,okL w=true)∧sumD (jS d)≤3400:=by
 have hf:=h.fine;simp only[iZ,Bool.and_eq_true]at hf;have h1:=aG0 ((gW _).1 hf.1.1);have h2:=aG0 ((gW _).1 hf.1.2);have a1:=h.n;have a2:=h.i;have a3:=h.l;have a4:=h.r;have b1:wDer.length=10:=rfl;have b2:wOrg.length=6:=rfl;constructor
 ·
  intro w hw;rw[iM];simp only[jS,List.mem_cons,List.not_mem_nil,or_false]at hw;rcases hw with rfl|rfl
  · refine⟨by simp,by simp,fun u hu=>?_⟩;simp only[List.mem_cons,List.not_mem_nil,or_false]at hu;rcases hu with rfl|rfl|rfl|rfl|rfl|rfl|rfl<;>first|omega|(rw[qZ];omega)
  · refine⟨by simp,by simp,fun u hu=>?_⟩;simp only[List.mem_cons,List.not_mem_nil,or_false]at hu;rcases hu with rfl|rfl|rfl|rfl<;>first|omega|(rw[qZ];omega)
 · have c1:=dX wDer;have c2:=dX wOrg;have c3:=dX d.q.n;have c4:=dX d.q.i;have c5:=dX (iT d.q.a);have c6:=dX (iT d.p);have c7:=dX (iT d.o.v);have c8:=dX d.o.l;have c9:=dX d.o.r;rw[qZ]at c5 c6 c7;simp only[jS,bI1,bI0,cB3,show sumD []=0 from rfl];omega
theorem aG1 {n a b:Int}:inB n a b=true↔a≤n∧n≤b:=by unfold inB;simp
theorem aN9 {r:Pr}(h:rC r=true):(0≤r.g∧r.g≤1099511627776)∧IsTree r.t∧gA r.a=true∧(aT0 r.b).isSome=true∧(aT0 r.c).isSome=true:=by
 unfold rC at h;simp only[Bool.and_eq_true,aG1]at h;obtain⟨h1,h2,h3,⟨h4,h5⟩,h6⟩:=h;rw[wS]at h5;exact⟨⟨h4,h5⟩,iP h6,h1,h2,h3⟩
theorem cB4 {p:Po}(h:bQ3 p=true):(1≤p.v∧p.v≤1099511627776)∧p.r.length≤16∧gA p.n=true∧ ∀r∈p.r,rC r=true:=by
 unfold bQ3 at h;simp only[Bool.and_eq_true,aG1,decide_eq_true_eq,List.all_eq_true]at h;obtain⟨h1,⟨h2,h3⟩,h4,h5,-⟩:=h;rw[wS]at h3;exact⟨⟨h2,h3⟩,h4,h1,h5⟩
theorem bA5 : ∀(l:List Nd) (m:Nat) (v:Int),skip m l=some []→(∀n∈l,eD n=true)→qJ l m v=some (0,v+lv l)
 |[],0,v,_,_=>by simp[qJ,lv]
 |[],m+1,v,h,_=>by cases h
 |n::l,0,v,h,_=>by grind[fD]
 |n::l,m+1,v,h,hn=>by
  have h':skip (m+n.c.toNat) l=some []:=h;have hnn:=hn n List.mem_cons_self;obtain⟨c1,c2,c3,c4⟩:=gG hnn;have e:((m+1:Nat):Int)+(n.c-1)=((m+n.c.toNat:Nat):Int):=by omega
  rw[qJ,if_neg (by omega),if_pos hnn,e,bA5 l _ _ h' (fun x hx=>hn x (List.mem_cons_of_mem _ hx)),lv];grind
theorem bT4 {l:List Nd}(h:IsTree l):eA l=true:=by
 unfold eA;have:=bA5 l 1 0 h.skip h.node;rw[show((1:Nat):Int)=1 from rfl]at this;rw[this];have:=h.lv;simp[h.ne,h.len];omega
def uni (l:List (Nat×Nat)):List (Nat×Nat):=l.eraseDups
def xK (f:Nat→List (Nat×Nat)):Nat→Nat→Nat×Nat→List (Nat×Nat)
 |0,_,p=>[p]
 |c+1,n,p=>uni ((f n).flatMap fun q=>xK f c (n+q.1) (p.1+q.1,p.2+q.2))
def pos :Nat→Nat→List (Nat×Nat)
 |0,_=>[(1,1)]
 |d+1,n=>uni ((1,1)::if n≤8 then(List.range 3).flatMap fun c=>xK (pos d) (c+1) (n+1) (1,0)else [])
theorem uU {l:List (Nat×Nat)}{p:Nat×Nat}:p∈uni l↔p∈l:=by unfold uni;simp_all
theorem aB7 {f:Nat→List (Nat×Nat)}: ∀{c n:Nat} {p q r:Nat×Nat},q∈xK f c n p→r∈f (n+(q.1-p.1))→p.1≤q.1→(q.1+r.1,q.2+r.2)∈xK f (c+1) n p
 |0,n,p,q,r,hq,hr,_=>by simp_all[xK,List.mem_singleton,Nat.sub_self,Nat.add_zero,uU,List.mem_flatMap]
 |c+1,n,p,q,r,hq,hr,hpq=>by
  unfold xK at hq⊢;rw[uU,List.mem_flatMap]at hq⊢;obtain⟨s,hs,hq⟩:=hq;have hle:p.1+s.1≤q.1:=by
   have key: ∀(c n:Nat) (p q:Nat×Nat),q∈xK f c n p→p.1≤q.1:=by
    intro c;induction c with
    |zero=>simp_all[xK,List.mem_singleton,Nat.le_refl]
    |succ c ih=>
     grind[xK,uU]
   exact key _ _ _ _ hq
  refine⟨s,hs,aB7 hq ?_ hle⟩;grind
structure Made (d n:Nat)(t:List Nd):Prop where
 skip:skip 1 t=some []
 node: ∀n∈t,eD n=true
 pos:(t.length,lv t)∈pos d n
structure MadeK (d n k:Nat)(ts:List Nd):Prop where
 skip:skip k ts=some []
 node: ∀n∈ts,eD n=true
 pos:(1+ts.length,lv ts)∈xK (pos d) k (n+1) (1,0)
theorem MadeK.zero (d n:Nat):MadeK d n 0 []:=⟨rfl,by simp,by simp[xK,lv]⟩
variable {ts:List Nd}
theorem MadeK.next {d n:Nat}{t:List Nd}(h:MadeK d n k ts)(ht:Made d (n+1+ts.length) t):MadeK d n (k+1) (ts++t):=by
 refine⟨?_,fun x hx=>?_,?_⟩
 · rw[nJ,uC ts t [] k h.skip];exact ht.skip
 ·
  rcases List.mem_append.1 hx with hx|hx
  · exact h.node x hx
  · exact ht.node x hx
 ·
  have:=aB7 (r:=(t.length,lv t)) h.pos (by
   rw[show n+1+(1+ts.length-1)=n+1+ts.length from by omega];exact ht.pos) (by simp)
  grind[sM,Nat.add_assoc]
theorem MadeK.fin {d n:Nat}{x:Nd}{c:Nat}(h:MadeK d n c ts)(hn:n≤8)(hx:eD x=true)(hk:x.k≠1)(hc:x.c=c)(h1:1≤c)(h3:c≤3):Made (d+1) n (x::ts):=by
 refine⟨?_,fun y hy=>?_,?_⟩
 · show Pl.skip (0+x.c.toNat) ts=some [];rw[hc,Nat.zero_add];exact h.skip
 ·
  rcases List.mem_cons.1 hy with rfl|hy
  · grind
  · exact h.node y hy
 · rw[Pl.pos,uU];refine List.mem_cons_of_mem _ ?_;rw[if_pos hn,List.mem_flatMap];refine⟨c-1,List.mem_range.2 (by omega),?_⟩;rw[show c-1+1=c from by omega];have:=h.pos;simp_all[lv,if_neg,List.length_cons,Nat.add_comm]
structure Ms where
 n:aH
 v:Int
 r:List Pr
 o:List Nat
 d:Bool
theorem xL {w:aH}(h:gA w=true):1≤w.length∧w.length≤64:=by
 cases w with
 |nil=>cases h
 |cons c r=>
  simp_all[gA,Bool.and_eq_true,decide_eq_true_eq]
def bT5 (p:Po):Prop:=bQ3 p=true∧p.r.length≤2∧ ∀r∈p.r,r.b.length≤80∧r.c.length≤80∧r.t.length≤40
def isV (ls:List (List aH))(a:Nat)(w:aH)(k:Nat):Bool:=decide (a<ls.length)&&((ls.getD a []).length==k&&wd (ls.getD a []) 0==w)
variable {ls:List (List aH)}
theorem cB5 (h: ¬a<ls.length)(w:aH)(k:Nat):isV ls a w k=false:=by simp[isV,h]
theorem cI1 (h:a<ls.length)(w:aH)(k:Nat):isV ls a w k=(ls[a].length==k&&wd ls[a] 0==w):=by simp[isV,h]
end Go.Pl
