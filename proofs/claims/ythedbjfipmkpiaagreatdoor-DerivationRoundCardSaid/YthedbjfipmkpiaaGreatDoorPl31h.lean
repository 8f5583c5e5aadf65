/- Plain Lean: the lines of a derivation are fine, and a made one is small (31.1, 31.4, 31.6). By an AI agent. -/
import Derived.Test.YthedbjfipmkpiaaGreatDoorPl11c
import Derived.Test.YthedbjfipmkpiaaGreatDoorHdUp
import Derived.Test.YthedbjfipmkpiaaGreatDoorHdSb
import Derived.Test.YthedbjfipmkpiaaGreatDoorHdV9
import Derived.Test.YthedbjfipmkpiaaGreatDoorPl31
import Derived.Test.YthedbjfipmkpiaaGreatDoorHdU6
set_option linter.unusedSimpArgs false
set_option linter.unusedVariables false
set_option linter.defProp false
namespace Go.Proofs.YthedbjfipmkpiaaGreatDoor
open Go Go.Hl Go.Pl
set_option maxRecDepth 10000
set_option maxHeartbeats 16000000
abbrev I64 (n:Int):Prop:= -9223372036854775808≤n∧n≤9223372036854775807
structure LnW (x:Ln):Prop where
 k:I64 x.k
 n:I64 x.n
 f: ∀n∈x.f,I64 n
 fl:x.f.length<2^38
 dl:x.d.length<2^38
variable {k:Int}
theorem kk1 (h:(k==1)=true)(h2:(k !=1)=true):False:=bne_iff_ne.1 h2 (eq_of_beq h)
theorem kk2 (h:(k==1)=false)(h2:(k !=1)=false):False:=by
 rw[bne,h]at h2;cases h2
def kZ (x:Ln):Bool:=((!inB x.k 1 5||!iY x.n)||(x.k==1&&decide ((x.f.length:Int)>0)))||(!(x.k==1)&&decide ((x.d.length:Int)>0))
variable {x:Ln}
theorem qH :eW x=(!kZ x&&x.f.all iY):=by
 have e1:(x.f==[])=!decide ((x.f.length:Int)>0):=by
  cases x.f with
  |nil=>rfl
  |cons a l=>
   have:decide (((a::l).length:Int)>0)=true:=decide_eq_true (by simp only[List.length_cons];omega);rw[this];rfl
 have e2:(x.d==[])=!decide ((x.d.length:Int)>0):=by
  cases x.d with
  |nil=>rfl
  |cons a l=>
   have:decide (((a::l).length:Int)>0)=true:=decide_eq_true (by simp only[List.length_cons];omega);rw[this];rfl
 unfold eW kZ;by_cases hk:x.k=1
 ·
  rw[if_pos hk,e1,hk];cases hf:decide ((x.f.length:Int)>0)with
  |true=>simp
  |false=>
   have:x.f=[]:=List.eq_nil_of_length_eq_zero (by have:=of_decide_eq_false hf;omega);rw[this];simp
 rw[if_neg hk,e2,show(x.k==1)=false from beq_eq_false_iff_ne.2 hk];cases inB x.k 1 5<;>cases iY x.n<;>cases x.f.all iY<;>cases decide ((x.d.length:Int)>0)<;>rfl
variable {i:Nat}
theorem vI (h:i<x.f.length):(x.f.take (i+1)).map gD=(x.f.take i).map gD++[gD x.f[i]]:=by
 rw[List.take_succ_eq_append_getElem h,List.map_append];rfl
variable {l:List Int}
theorem all_take (h:i<l.length)(h0:(l.take i).all iY=true)(h1:iY l[i]=true):(l.take (i+1)).all iY=true:=by
 rw[List.take_succ_eq_append_getElem h,List.all_append,h0];simp[h1]
theorem cH4 (h:i<l.length)(h1:iY l[i]=false):l.all iY=false:=by
 rw[List.all_eq_false];exact⟨_,List.getElem_mem h,by simp[h1]⟩
theorem aF5 {l:List Dig}(h:i<l.length):(l.take (i+1)).map lY=(l.take i).map lY++[lY l[i]]:=by
 rw[List.take_succ_eq_append_getElem h,List.map_append];rfl
def yR (x:Ln):List (List aL):=if eW x then fB x else []
theorem lines_ok (x:Ln)(hx:LnW x):rP Tryz.prog 47 tabs [x.cv] (fun u v=>u= .slc ((yR x).map lsC)∧v= .bool (eW x)):=by
 refine bI (args:=[.c x.cv]) Tryz.func47 rfl (by kernel_rfl) (gF tabs [x.cv]) (Nat.le_of_ble_eq_true rfl) ?_;unfold gC;obtain⟨w1,w2⟩:=cG1 x.k;have hno: ∀{ob:Ob} {r:HV},eW x=false→r= .tup [.c .nils,.c (.bool false)]→ob 0=some (.tab tabs)→iR 1 r ob (fun r ob'=> ∃u v,r= .tup [.c u,.c v]∧ob'=fob [(0,.tab tabs)]∧(u= .slc ((yR x).map lsC)∧v= .bool (eW x))):=fun {ob r} hf hr h0=>by
  subst hr;exact fE [] (.slc []) (.bool false) (by simp[HV.close,HV.closeL,CV.denil,CV.denilL,HV.norm,HV.toC,HV.toCL]) h0 (by simp) ⟨by rw[yR,hf];rfl,by rw[hf]⟩
 refine R0 ?_;refine aC fun K hK=>eE mixed [(1,[],[]),(2,[],[]),(0,[],[1,2]),(3,[],[]),(4,[],[]),(5,[],[]),(6,[],[]),(7,[],[]),(8,[],[])] [0,0,2,7,15,31,31,63,255] (by kernel_rfl) (by kernel_rfl) (by kernel_rfl) (by kernel_rfl) rfl (by kernel_rfl) ?_;iterate 2 refine WG0 ?_
 refine cQ (g:=none) rfl rfl fun K' hK'=>T5 ?_;refine eX [] aR4 rfl trivial (by simp) (by simp) ⟨rfl,rfl,rfl,rfl⟩ (by simp[dS]) (by simp[HV.menL]) ?_;rintro r os' ⟨rfl,rfl⟩;rw[bY0,bE7];refine AX (hK' _ _ ?_);clear hK' K';refine cL (g:=none) rfl rfl fun K' hK'=>?_;simp only[sN,↓hopH.eq_def,sH,↓sP,sA,tyS,simprocAttr];refine⟨wlK,rfl,cG2,?_⟩;rw[w1,w2];refine AX (hK' _ _ ?_);clear hK' K';iterate 5 refine WG0 ?_
 refine T2 (hK _ _ _ ?_);clear hK K;refine aC fun K hK=>Rg ?_;iterate 2 refine S0 ?_
 refine HS rfl rfl fun K' hK'=>T5 ?_;refine eU (args:=[_]) 0 (aJ5 x.n hx.n) rfl (by simp) ⟨rfl,rfl,rfl,rfl⟩ ?_;rintro u v ⟨rfl,rfl⟩;refine AX (hK' _ _ ?_);clear hK' K';iterate 5 refine S0 ?_
 refine T2 (hK _ _ _ ?_);clear hK K;refine aC fun K hK=>?_;refine aC fun K hK=>?_;have key: ∀(b:Bool) fr ob nx,b=kZ x→Fits 1 fr ob (fin [(1,.ptr 1 0),(4,.c (.str (wordK x.k))),(6,.c (.str (gD x.n))),(56,.c (.bool b))]) (fob [(0,.tab tabs),(1,.box 41 (.c x.cv))]) 600→K fr ob nx:=by
  rintro b fr ob nx rfl hf;refine hK _ _ _ (bJ hf ?_);clear hf hK K;refine aK (b:=kZ x) rfl (fun hb=>?_) (fun hb=>?_)
  · refine R0 ?_;refine aH (RT Tryz.results47 ?_);exact hno (by rw[qH,hb];rfl) rfl rfl
  have hbad:kZ x=false:=hb;clear hb;refine aM ?_;refine T0 (hK _ _ _ ?_);clear hK K;refine aC fun K hK=>Rg ?_;iterate 4 refine S0 ?_
  refine T2 (hK _ _ _ ?_);clear hK K;refine aC fun K hK=>?_;refine aC fun K hK=>Rg ?_;iterate 4 refine S0 ?_
  refine T2 (hK _ _ _ ?_);clear hK K;refine aN ?_;refine bH (α:={i:Nat//i≤x.f.length∧(x.f.take i).all iY=true}) (fun i=>(fin [(1,.ptr 1 0),(8,.own 608 (2+i.1)),(61,.c (.slc (x.f.map (CV.int .i64)))),(62,.c (.int .i64 x.f.length)),(63,.c (.int .i64 i.1))],fob [(0,.tab tabs),(1,.box 41 (.c x.cv)),(608,.row 9 1 ((wordK x.k::gD x.n::(x.f.take i.1).map gD).map .str))])) 2000 (fun i=>x.f.length-i.1) ⟨0,by omega,by simp⟩ (fF) ?_;rintro⟨i,hi,hall⟩;refine R0 ?_;refine aC fun K hK=>?_;refine aK (b:=decide ((i:Int)<x.f.length)) rfl (fun hb=>?_) (fun hb=>?_)
  ·
   have hlt:i<x.f.length:=by have:=of_decide_eq_true hb;omega
   have hfl:=hx.fl;have hti:(x.f.take i).length=i:=by simp;omega
   clear hb;refine aM ?_;refine T0 (hK _ _ _ ?_);clear hK K;refine aC fun K hK=>?_;refine aN ?_;have F:=aI @Int.natCast_nonneg (aI @Int.ofNat_lt (aI hlt (nM hlt)));refine RF ?_;refine aC fun K hK=>Rg ?_;refine S0 ?_;refine HS rfl rfl fun K' hK'=>T5 ?_;refine eU (args:=[_]) 0 (aJ5 x.f[i] (hx.f _ (List.getElem_mem hlt))) rfl (by simp) ⟨rfl,rfl,rfl,rfl⟩ ?_;rintro u v ⟨rfl,rfl⟩;refine AX (hK' _ _ ?_);clear hK' K';iterate 5 refine S0 ?_
   refine T2 (hK _ _ _ ?_);clear hK K;refine aC fun K hK=>?_;refine R0 ?_;refine aK (b:=!iY x.f[i]) rfl (fun hb=>?_) (fun hb=>?_)
   · refine R0 ?_;refine aH (RT Tryz.results47 ?_);exact hno (by rw[qH,cH4 hlt (by simpa using hb),Bool.and_false]) rfl rfl
   have h40:iY x.f[i]=true:=by simpa using hb
   clear hb;refine aM ?_;refine T0 (hK _ _ _ ?_);clear hK K;refine Rg ?_;have F:=aI @List.length_cons.{0} (aI @List.length_map.{0,0} hti);iterate 5 refine SF ?_
   refine T2 (hK _ _ _ ?_);clear hK K;refine aE (by kernel_rfl) ?_;refine TQ (jE i) ?_;have hmn:min i x.f.length+1+1+1=2+(i+1):=by omega
   refine⟨⟨i+1,by omega,all_take hlt hall h40⟩,(aO (by omega) (by simp[aX,fin_at,finA_at,upd_at,HV.men,HV.menL,HV.norm,HV.toC,HV.toCL,vI hlt,List.map_append,hti,hmn]) (by simp[aY,fob_at,upd_at,none0_at,bO,HO.men,HV.men,HV.menL,HV.norm,HV.toC,HV.toCL,vI hlt,List.map_append,hti,hmn])),?_⟩;show x.f.length-(i+1)<x.f.length-i;omega
  have hie:i=x.f.length:=by have:=of_decide_eq_false hb;omega
  subst hie;rw[List.take_length]at hall;clear hb;have hfine:eW x=true:=by rw[qH,hbad,hall];rfl
  refine aZ (T3 ?_);clear hK K;refine AX (hK _ _ _ ?_);clear hK K;have hfl2:2+x.f.length=x.f.length+1+1:=by omega
  refine fL [608] (bJ (fr2:=fin [(1,.ptr 1 0),(8,.c (lsC (firstL x)))]) (ob2:=fob [(0,.tab tabs),(1,.box 41 (.c x.cv))]) (nx2:=3000) (aO (by omega) (by simp[aX,fS,fin_at,finA_at,upd_at,fob_at,HV.close,HV.closeL,CV.denil,CV.denilL,denilL_str,hfl2,lsC,firstL,HV.men,HV.menL,HV.norm,HV.toC,HV.toCL]) (by simp[aY,iH,fob_at,upd_at,none0_at,bO,HO.close,HV.close,HV.closeL,Ln.denil,HO.men,HV.men,HV.menL,HV.norm,HV.toC,HV.toCL])) ?_);refine R0 ?_;refine aC fun K hK=>?_;refine aC fun K hK=>Rg ?_;iterate 4 refine S0 ?_
  refine T2 (hK _ _ _ ?_);clear hK K;refine aN ?_;refine bH (α:={i:Nat//i≤x.d.length}) (fun i=>(fin [(13,.own 3004 (1+i.1)),(82,.c (.slc (x.d.map dg))),(83,.c (.int .i64 x.d.length)),(84,.c (.int .i64 i.1))],fob [(0,.tab tabs),(3004,.row 71 1 ((firstL x::(x.d.take i.1).map lY).map lsC))])) 5000 (fun i=>x.d.length-i.1) ⟨0,by omega⟩ (aO (by omega) (by simp[aX,fin_at,finA_at,upd_at,HV.men,HV.menL,HV.norm,HV.toC,HV.toCL,uA]) (by simp[aY,fob_at,upd_at,none0_at,bO,HO.men,HV.men,HV.menL,HV.norm,HV.toC,HV.toCL,uA])) ?_;rintro⟨i,hi⟩;refine R0 ?_;refine aC fun K hK=>?_;refine aK (b:=decide ((i:Int)<x.d.length)) rfl (fun hb=>?_) (fun hb=>?_)
  ·
   have hlt:i<x.d.length:=by have:=of_decide_eq_true hb;omega
   have hdl:=hx.dl;have hti:(x.d.take i).length=i:=by simp;omega
   clear hb;refine aM ?_;refine T0 (hK _ _ _ ?_);clear hK K;refine aC fun K hK=>?_;refine aN ?_;refine aC fun K hK=>Rg ?_;have F:=aI @Int.natCast_nonneg (aI @Int.ofNat_lt (aI hlt (nM hlt)));iterate 4 refine SF ?_
   refine T2 (hK _ _ _ ?_);clear hK K;refine bY (by kernel_rfl) ?_;simp only[sR,simprocAttr];have F:=aI @List.length_cons.{0} (aI @List.length_map.{0,0} hti);iterate 2 refine SGF ?_
   refine aU (g:=none) rfl rfl fun K' hK'=>T6 ?_;refine C1 (wC x.d[i]) ?_;rintro u rfl;refine AX (hK' _ _ ?_);clear hK' K';refine cT (g:=none) 5032 rfl rfl fun K' hK'=>?_;simp only[gP,jP,sH,↓sP,sA,tyS,simprocAttr,List.length_cons,List.length_map,hti];repeat refine AI ?_
   refine dA (by first|rfl|simp) ?_;try simp only[sH,↓sP,sA,tyS,simprocAttr,List.length_cons,List.length_map,hti]
   refine AX (hK' _ _ ?_);clear hK' K';iterate 3 refine SGF ?_
   refine T2 (hK _ _ _ ?_);clear hK K;refine aE (by kernel_rfl) ?_;refine TQ (jE i) ?_;have hmn2:min i x.d.length+1+1=1+(i+1):=by omega
   refine⟨⟨i+1,by omega⟩,(aO (by omega) (by simp[aX,fin_at,finA_at,upd_at,HV.men,HV.menL,HV.norm,HV.toC,HV.toCL,aF5 hlt,List.map_append,hti,lY,lsC,wDoc,hmn2]) (by simp[aY,fob_at,upd_at,none0_at,bO,HO.men,HV.men,HV.menL,HV.norm,HV.toC,HV.toCL,aF5 hlt,List.map_append,hti,lY,lsC,wDoc,hmn2])),?_⟩;show x.d.length-(i+1)<x.d.length-i;omega
  have hie:i=x.d.length:=by have:=of_decide_eq_false hb;omega
  subst hie;clear hb;refine aZ (T3 ?_);clear hK K;refine AX (hK _ _ _ ?_);clear hK K;refine R0 ?_;refine aH (RT Tryz.results47 ?_);have hdl2:1+x.d.length=x.d.length+1:=by omega
  rw[List.take_length];refine fE [3004] (.slc ((fB x).map lsC)) (.bool true) ?_ rfl (by simp) ⟨by rw[yR,if_pos hfine],by rw[hfine]⟩;simp[HV.close,HV.closeL,fob_at,upd_at,CV.denil,HV.norm,HV.toC,HV.toCL,fB,hdl2]
 refine Rg ?_;have F:=@List.length_map.{0,0};iterate 3 refine SF ?_
 refine aG 29 rfl (fun h3_29=>?_) (fun h3_29=>?_)
 ·
  have F:=aI @List.length_map.{0,0} h3_29;iterate 4 refine SF ?_
  refine aG 32 rfl (fun h3_32=>?_) (fun h3_32=>?_)
  ·
   have F:=aI @List.length_map.{0,0} (aI h3_29 h3_32);iterate 4 refine SF ?_
   refine aG 38 rfl (fun h3_38=>?_) (fun h3_38=>?_)
   ·
    have F:=aI @List.length_map.{0,0} (aI h3_29 (aI h3_32 h3_38));iterate 7 refine SF ?_
    refine aG 43 rfl (fun h3_43=>?_) (fun h3_43=>?_)
    ·
     have F:=aI @List.length_map.{0,0} (aI h3_29 (aI h3_32 (aI h3_38 h3_43)));iterate 10 refine SF ?_
     refine T4 ?_;exact key true _ _ _ (by first|(simp only[kZ,h3_29,h3_32,h3_38,h3_43,Bool.not_true,Bool.not_false,Bool.true_or,Bool.false_or,Bool.true_and,Bool.false_and];done)|(exfalso;first|exact kk1 (by assumption) (by assumption)|exact kk2 (by assumption) (by assumption))) (fF)
    have F:=aI @List.length_map.{0,0} (aI h3_29 (aI h3_32 (aI h3_38 h3_43)));iterate 4 refine SF ?_
    refine aG 49 rfl (fun h3_49=>?_) (fun h3_49=>?_)
    ·
     have F:=aI @List.length_map.{0,0} (aI h3_29 (aI h3_32 (aI h3_38 (aI h3_43 h3_49))));iterate 6 refine SF ?_
     refine aG 54 rfl (fun h3_54=>?_) (fun h3_54=>?_)
     · simp only[h3_54];refine T4 ?_;exact key true _ _ _ (by first|(simp only[kZ,h3_29,h3_32,h3_38,h3_43,h3_49,h3_54,Bool.not_true,Bool.not_false,Bool.true_or,Bool.false_or,Bool.true_and,Bool.false_and];done)|(exfalso;first|exact kk1 (by assumption) (by assumption)|exact kk2 (by assumption) (by assumption))) (fF)
     simp only[h3_54];refine T4 ?_;exact key false _ _ _ (by first|(simp only[kZ,h3_29,h3_32,h3_38,h3_43,h3_49,h3_54,Bool.not_true,Bool.not_false,Bool.true_or,Bool.false_or,Bool.true_and,Bool.false_and];done)|(exfalso;first|exact kk1 (by assumption) (by assumption)|exact kk2 (by assumption) (by assumption))) (fF)
    have F:=aI @List.length_map.{0,0} (aI h3_29 (aI h3_32 (aI h3_38 (aI h3_43 h3_49))));iterate 6 refine SF ?_
    refine T4 ?_;exact key false _ _ _ (by first|(simp only[kZ,h3_29,h3_32,h3_38,h3_43,h3_49,Bool.not_true,Bool.not_false,Bool.true_or,Bool.false_or,Bool.true_and,Bool.false_and];done)|(exfalso;first|exact kk1 (by assumption) (by assumption)|exact kk2 (by assumption) (by assumption))) (fF)
   have F:=aI @List.length_map.{0,0} (aI h3_29 (aI h3_32 h3_38));iterate 11 refine SF ?_
   refine aG 49 rfl (fun h3_49=>?_) (fun h3_49=>?_)
   ·
    have F:=aI @List.length_map.{0,0} (aI h3_29 (aI h3_32 (aI h3_38 h3_49)));iterate 6 refine SF ?_
    refine aG 54 rfl (fun h3_54=>?_) (fun h3_54=>?_)
    · simp only[h3_54];refine T4 ?_;exact key true _ _ _ (by first|(simp only[kZ,h3_29,h3_32,h3_38,h3_49,h3_54,Bool.not_true,Bool.not_false,Bool.true_or,Bool.false_or,Bool.true_and,Bool.false_and];done)|(exfalso;first|exact kk1 (by assumption) (by assumption)|exact kk2 (by assumption) (by assumption))) (fF)
    simp only[h3_54];refine T4 ?_;exact key false _ _ _ (by first|(simp only[kZ,h3_29,h3_32,h3_38,h3_49,h3_54,Bool.not_true,Bool.not_false,Bool.true_or,Bool.false_or,Bool.true_and,Bool.false_and];done)|(exfalso;first|exact kk1 (by assumption) (by assumption)|exact kk2 (by assumption) (by assumption))) (fF)
   have F:=aI @List.length_map.{0,0} (aI h3_29 (aI h3_32 (aI h3_38 h3_49)));iterate 6 refine SF ?_
   refine T4 ?_;exact key false _ _ _ (by first|(simp only[kZ,h3_29,h3_32,h3_38,h3_49,Bool.not_true,Bool.not_false,Bool.true_or,Bool.false_or,Bool.true_and,Bool.false_and];done)|(exfalso;first|exact kk1 (by assumption) (by assumption)|exact kk2 (by assumption) (by assumption))) (fF)
  have F:=aI @List.length_map.{0,0} (aI h3_29 h3_32);iterate 21 refine SF ?_
  refine T4 ?_;exact key true _ _ _ (by first|(simp only[kZ,h3_29,h3_32,Bool.not_true,Bool.not_false,Bool.true_or,Bool.false_or,Bool.true_and,Bool.false_and];done)|(exfalso;first|exact kk1 (by assumption) (by assumption)|exact kk2 (by assumption) (by assumption))) (fF)
 have F:=aI @List.length_map.{0,0} h3_29;iterate 25 refine SF ?_
 refine T4 ?_;exact key true _ _ _ (by first|(simp only[kZ,h3_29,Bool.not_true,Bool.not_false,Bool.true_or,Bool.false_or,Bool.true_and,Bool.false_and];done)|(exfalso;first|exact kk1 (by assumption) (by assumption)|exact kk2 (by assumption) (by assumption))) (fF)
section
variable (x:Dv)
theorem aR8 :CV.getAt 0 1 false x.cv=some (.str x.q.n):=by simp[Dv.cv,Qs.cv,Og.cv,CV.getAt,CV.getAtL,CV.cells,CV.cellsL,dg_cells,dg_getAt]
theorem aR9 :CV.getAt 1 1 false x.cv=some (.str x.q.i):=by simp[Dv.cv,Qs.cv,Og.cv,CV.getAt,CV.getAtL,CV.cells,CV.cellsL,dg_cells,dg_getAt]
theorem aS0 :CV.getAt 2 32 true x.cv=some (dg x.q.a):=by simp[Dv.cv,Qs.cv,Og.cv,CV.getAt,CV.getAtL,CV.cells,CV.cellsL,dg_cells,dg_getAt]
theorem aS1 :CV.getAt 68 32 true x.cv=some (dg x.o.v):=by simp[Dv.cv,Qs.cv,Og.cv,CV.getAt,CV.getAtL,CV.cells,CV.cellsL,dg_cells,dg_getAt]
theorem aS2 :CV.getAt 100 1 false x.cv=some (.str x.o.l):=by simp[Dv.cv,Qs.cv,Og.cv,CV.getAt,CV.getAtL,CV.cells,CV.cellsL,dg_cells,dg_getAt]
theorem aS3 :CV.getAt 101 1 false x.cv=some (.str x.o.r):=by simp[Dv.cv,Qs.cv,Og.cv,CV.getAt,CV.getAtL,CV.cells,CV.cellsL,dg_cells,dg_getAt]
end
structure DvW (d:Dv):Prop where
 t:I64 d.t
 r:I64 d.r
 l: ∀x∈d.l,LnW x
 len:(iA d).length<2^38
 ll:d.l.length<2^38
variable {d:Dv}
theorem cP2 (h:DvW d): ∀l∈iA d,l.length<2^40:=fun l hl=>by
 rcases List.mem_append.1 hl with hl|hl
 · simp only[kW,List.mem_cons,List.not_mem_nil,or_false]at hl;rcases hl with rfl|rfl<;>simp
 obtain⟨x,hx,hl⟩:=List.mem_flatMap.1 hl;have:=(h.l x hx).fl;rcases List.mem_cons.1 hl with rfl|hl
 · simp only[firstL,List.length_cons,List.length_map];omega
 obtain⟨a,_,rfl⟩:=List.mem_map.1 hl;simp[lY]
def sK (d:Dv):Bool:=(!iY d.r||decide (d.t<0))||decide (d.t>1099511627776)
theorem qI :kX d=(!sK d&&d.l.all eW):=by
 have e:iY d.t=(!decide (d.t<0)&&!decide (d.t>1099511627776)):=by
  simp only[iY,inB,←decide_not];rw[Bool.eq_iff_iff];simp
 unfold kX sK;rw[e];cases iY d.r<;>cases decide (d.t<0)<;>cases decide (d.t>1099511627776)<;>simp
def dvT (d:Dv)(i:Nat):List (List aL):=kW d++(d.l.take i).flatMap fB
theorem cH5 (d:Dv):dvT d d.l.length=iA d:=by rw[dvT,List.take_length];rfl
theorem yS (h:i<d.l.length):dvT d (i+1)=dvT d i++fB d.l[i]:=by
 rw[dvT,List.take_succ_eq_append_getElem h,List.flatMap_append,dvT,List.append_assoc];simp
theorem cP3 (d:Dv)(i:Nat):(dvT d i).length≤(iA d).length:=by
 have h1:iA d=dvT d i++(d.l.drop i).flatMap fB:=by
  rw[dvT,List.append_assoc,←List.flatMap_append,List.take_append_drop];rfl
 rw[h1,List.length_append];omega
theorem bN6 {l:List Ln}(h:i<l.length)(h0:(l.take i).all eW=true)(h1:eW l[i]=true):(l.take (i+1)).all eW=true:=by
 rw[List.take_succ_eq_append_getElem h,List.all_append,h0];simp[h1]
theorem yT (d:Dv)(hd:DvW d):rP Tryz.prog 21 tabs [d.cv] (fun u v=>u= .slc ((dvO d).map eY)∧v= .int .i64 (dvE d)):=by
 refine bI (args:=[.c d.cv]) Tryz.func21 rfl (by kernel_rfl) (gF tabs [d.cv]) (Nat.le_of_ble_eq_true rfl) ?_;unfold gC;have hno: ∀{ob:Ob} {r:HV},kX d=false→r= .tup [.c .nils,.c (.int .i64 1)]→ob 0=some (.tab tabs)→iR 1 r ob (fun r ob'=> ∃u v,r= .tup [.c u,.c v]∧ob'=fob [(0,.tab tabs)]∧(u= .slc ((dvO d).map eY)∧v= .int .i64 (dvE d))):=fun {ob r} hf hr h0=>by
  subst hr;exact fE [] (.slc []) (.int .i64 1) (by simp[HV.close,HV.closeL,CV.denil,CV.denilL,HV.norm,HV.toC,HV.toCL]) h0 (by simp) ⟨by rw[dvO,hf];rfl,by rw[dvE,hf];rfl⟩
 refine R0 ?_;refine aC fun K hK=>Rg ?_;iterate 2 refine S0 ?_
 refine HS rfl rfl fun K' hK'=>T5 ?_;refine eU (args:=[_]) 0 (aJ5 d.r hd.r) rfl (by simp) ⟨rfl,rfl,rfl,rfl⟩ ?_;rintro u v ⟨rfl,rfl⟩;refine AX (hK' _ _ ?_);clear hK' K';iterate 5 refine S0 ?_
 refine T2 (hK _ _ _ ?_);clear hK K;refine aC fun K hK=>?_;refine aC fun K hK=>?_;have key: ∀(b:Bool) fr ob nx,b=sK d→Fits 1 fr ob (fin [(1,.ptr 1 0),(4,.c (.str (gD d.r))),(28,.c (.bool b))]) (fob [(0,.tab tabs),(1,.box 50 (.c d.cv))]) 600→K fr ob nx:=by
  rintro b fr ob nx rfl hf;refine hK _ _ _ (bJ hf ?_);clear hf hK K;refine aK (b:=sK d) rfl (fun hb=>?_) (fun hb=>?_)
  · refine R0 ?_;refine aH (RT Tryz.results21 ?_);exact hno (by rw[qI,hb];rfl) rfl rfl
  have hbad:sK d=false:=hb;clear hb;refine aM ?_;refine T0 (hK _ _ _ ?_);clear hK K;refine aC fun K hK=>eE mixed [(0,[],[]),(1,[],[]),(2,[],[]),(3,[],[]),(4,[],[]),(5,[],[]),(6,[],[]),(7,[],[]),(8,[],[]),(10,[],[]),(11,[],[]),(13,[],[]),(14,[],[]),(16,[],[]),(18,[],[]),(19,[],[]),(20,[],[]),(22,[],[]),(23,[],[]),(24,[],[]),(25,[],[]),(26,[],[]),(27,[],[]),(9,[],[0,1,2,3,4,5,10,11,13,14,16,18,19,20,22,23,24,25,26,27]),(12,[],[0,1,2,3,4,5,13,14,16,18,19,20,22,23,24,25,26,27]),(15,[],[0,1,2,3,4,5,16,18,19,20,22,23,24,25,26,27]),(17,[],[]),(21,[17],[0,1,2,3,4,5,16,22,23,24,25,26,27,17]),(28,[17],[]),(29,[],[]),(30,[],[])] [0,1,3,0,8,24,0,64,192,448,0,1024,4032,0,8192,32704,0,131071,0,262144,786432,1900480,0,4194304,12582912,0,33554432,100663296,268238784,536870911,1073741823] (by kernel_rfl) (by kernel_rfl) (by kernel_rfl) (by kernel_rfl) rfl (by kernel_rfl) ?_;have F:=aI @aR8 (aI @aR9 (aI @aS0 (aI @aS1 (aI @aS2 @aS3))));iterate 23 refine WGF ?_
  refine cQ (g:=none) rfl rfl fun K' hK'=>T6 ?_;refine C1 (wC d.q.a) ?_;rintro u rfl;refine AX (hK' _ _ ?_);clear hK' K';refine cQ (g:=none) rfl rfl fun K' hK'=>T6 ?_;refine mN (args:=[_]) 0 (bX5 d.t hd.t) rfl (by simp) ⟨rfl,rfl,rfl,rfl⟩ ?_;rintro u rfl;refine AX (hK' _ _ ?_);clear hK' K';refine cQ (g:=none) rfl rfl fun K' hK'=>T6 ?_;refine C1 (wC d.p) ?_;rintro u rfl;refine AX (hK' _ _ ?_);clear hK' K';refine lH (g:=none) 668 rfl rfl fun K' hK'=>?_;simp only[gP,jP,sH,↓sP,sA,tyS,simprocAttr,aR8,aR9,aS0,aS1,aS2,aS3];repeat refine AI ?_
  refine dA (by first|rfl|simp) ?_;try simp only[sH,↓sP,sA,tyS,simprocAttr,aR8,aR9,aS0,aS1,aS2,aS3]
  refine AX (hK' _ _ ?_);clear hK' K';refine cQ (g:=none) rfl rfl fun K' hK'=>T6 ?_;refine C1 (wC d.o.v) ?_;rintro u rfl;refine AX (hK' _ _ ?_);clear hK' K';refine lH (g:=none) 712 rfl rfl fun K' hK'=>?_;simp only[gP,jP,sH,↓sP,sA,tyS,simprocAttr,aR8,aR9,aS0,aS1,aS2,aS3];repeat refine AI ?_
  refine dA (by first|rfl|simp) ?_;try simp only[sH,↓sP,sA,tyS,simprocAttr,aR8,aR9,aS0,aS1,aS2,aS3]
  refine AX (hK' _ _ ?_);clear hK' K';iterate 2 refine WGF ?_
  refine T2 (hK _ _ _ ?_);clear hK K;refine aC fun K hK=>?_;refine aC fun K hK=>Rg ?_;iterate 4 refine S0 ?_
  refine T2 (hK _ _ _ ?_);clear hK K;refine aN ?_;refine bH (α:={i:Nat//i≤d.l.length∧(d.l.take i).all eW=true}) (fun i=>(fin [(6,.own 716 (dvT d i.1).length),(60,.c (.slc (d.l.map Ln.cv))),(61,.c (.int .i64 d.l.length)),(62,.c (.int .i64 i.1))],fob [(0,.tab tabs),(716,.row 71 1 ((dvT d i.1).map lsC))])) 2000 (fun i=>d.l.length-i.1) ⟨0,by omega,by simp⟩ (aO (by omega) (by simp[aX,fin_at,finA_at,upd_at,HV.men,HV.menL,HV.norm,HV.toC,HV.toCL,dvT,kW,lsC,wDer,wOrg]) (by simp[aY,fob_at,upd_at,none0_at,bO,HO.men,HV.men,HV.menL,HV.norm,HV.toC,HV.toCL,dvT,kW,lsC,wDer,wOrg])) ?_;rintro⟨i,hi,hall⟩;refine R0 ?_;refine aC fun K hK=>?_;refine aK (b:=decide ((i:Int)<d.l.length)) rfl (fun hb=>?_) (fun hb=>?_)
  ·
   have hlt:i<d.l.length:=by have:=of_decide_eq_true hb;omega
   have hll:=hd.ll;have hle:=cP3 d (i+1);have hlen:=hd.len;rw[yS hlt,List.length_append]at hle;clear hb;refine aM ?_;refine T0 (hK _ _ _ ?_);clear hK K;refine aC fun K hK=>?_;refine aN ?_;refine aC fun K hK=>Rg ?_;have F:=aI @Int.natCast_nonneg (aI @Int.ofNat_lt (aI hlt (nM hlt)));iterate 4 refine SF ?_
   refine T2 (hK _ _ _ ?_);clear hK K;refine aC fun K hK=>Rg ?_;refine S0 ?_;refine HS rfl rfl fun K' hK'=>T5 ?_;refine eU (args:=[_]) 0 (lines_ok d.l[i] (hd.l _ (List.getElem_mem hlt))) rfl (by simp) ⟨rfl,rfl,rfl,rfl⟩ ?_;rintro u v ⟨rfl,rfl⟩;refine AX (hK' _ _ ?_);clear hK' K';iterate 5 refine S0 ?_
   refine T2 (hK _ _ _ ?_);clear hK K;refine aC fun K hK=>?_;refine R0 ?_;refine aK (b:=!eW d.l[i]) rfl (fun hb=>?_) (fun hb=>?_)
   · refine R0 ?_;refine aH (RT Tryz.results21 ?_);exact hno (by rw[qI,List.all_eq_false.2 ⟨_,List.getElem_mem hlt,by simpa using hb⟩,Bool.and_false]) rfl rfl
   have hfl:eW d.l[i]=true:=by simpa using hb
   clear hb;have hlv:yR d.l[i]=fB d.l[i]:=if_pos hfl;rw[hlv];have hcl:(∀v∈(fB d.l[i]).map lsC,v.cells=1)=True:=eq_true fun v hv=>by
    obtain⟨y,_,rfl⟩:=List.mem_map.1 hv;rfl
   refine aM ?_;refine T0 (hK _ _ _ ?_);clear hK K;refine Rg ?_;have F:=aI @List.length_map.{0,0} hcl;iterate 4 refine SF ?_
   refine T2 (hK _ _ _ ?_);clear hK K;refine aE (by kernel_rfl) ?_;refine TQ (jE i) ?_;refine⟨⟨i+1,by omega,bN6 hlt hall hfl⟩,(aO (by omega) (by simp[aX,fin_at,finA_at,upd_at,HV.men,HV.menL,HV.norm,HV.toC,HV.toCL,yS hlt,List.map_append,List.length_append]) (by simp[aY,fob_at,upd_at,none0_at,bO,HO.men,HV.men,HV.menL,HV.norm,HV.toC,HV.toCL,yS hlt,List.map_append,List.length_append])),?_⟩;show d.l.length-(i+1)<d.l.length-i;omega
  have hie:i=d.l.length:=by have:=of_decide_eq_false hb;omega
  subst hie;rw[List.take_length]at hall;clear hb;rw[cH5];have hfine:kX d=true:=by rw[qI,hbad,hall];rfl
  have hlen:=hd.len;refine aZ (T3 ?_);clear hK K;refine AX (hK _ _ _ ?_);clear hK K;refine fL [716] (bJ (fr2:=fin [(6,.c (.slc ((iA d).map lsC)))]) (ob2:=fob [(0,.tab tabs)]) (nx2:=3000) (aO (by omega) (by simp[aX,fS,fin_at,finA_at,upd_at,fob_at,HV.close,HV.closeL,CV.denil,CV.denilL,iZ,HV.men,HV.menL,HV.norm,HV.toC,HV.toCL]) (by simp[aY,iH,fob_at,upd_at,none0_at,bO,HO.close,HV.close,HV.closeL,HO.men,HV.men,HV.menL,HV.norm,HV.toC,HV.toCL])) ?_);refine aC fun K hK=>Rg ?_;have F:=@iZ;refine SF ?_;refine HS rfl rfl fun K' hK'=>T6 ?_;refine D1 (cO5 (iA d) (by omega) (cP2 hd)) ?_;rintro u v ⟨rfl,rfl⟩;refine AX (hK' _ _ ?_);clear hK' K';iterate 4 refine SF ?_
  refine T2 (hK _ _ _ ?_);clear hK K;refine aH (RT Tryz.results21 ?_);exact fE [] (.slc ((rV (iA d)).map eY)) (.int .i64 (nY (iA d))) (by simp[HV.close,HV.closeL,CV.denil,CV.denilL,cP,HV.norm,HV.toC,HV.toCL]) rfl (by simp) ⟨by rw[dvO,if_pos hfine],by rw[dvE,if_pos hfine]⟩
 refine Rg ?_;iterate 3 refine S0 ?_
 refine aG 17 rfl (fun h2_17=>?_) (fun h2_17=>?_)
 ·
  have F:=h2_17;iterate 5 refine SF ?_
  refine aG 22 rfl (fun h2_22=>?_) (fun h2_22=>?_)
  ·
   have F:=aI h2_17 h2_22;iterate 4 refine SF ?_
   refine T4 ?_;exact key true _ _ _ (by simp only[sK,h2_17,h2_22,Bool.not_true,Bool.not_false,Bool.true_or,Bool.false_or]) (fF)
  have F:=aI h2_17 h2_22;iterate 4 refine SF ?_
  refine aG 27 rfl (fun h2_27=>?_) (fun h2_27=>?_)
  · simp only[h2_27];refine T4 ?_;exact key true _ _ _ (by simp only[sK,h2_17,h2_22,h2_27,Bool.not_true,Bool.not_false,Bool.true_or,Bool.false_or]) (fF)
  simp only[h2_27];refine T4 ?_;exact key false _ _ _ (by simp only[sK,h2_17,h2_22,h2_27,Bool.not_true,Bool.not_false,Bool.true_or,Bool.false_or]) (fF)
 have F:=h2_17;iterate 9 refine SF ?_
 refine T4 ?_;exact key true _ _ _ (by simp only[sK,h2_17,Bool.not_true,Bool.not_false,Bool.true_or,Bool.false_or]) (fF)
end Go.Proofs.YthedbjfipmkpiaaGreatDoor
namespace Go.Pl
open Go Go.Hl
def refs (L:List Ln):List Int:=L.flatMap Ln.f
theorem iG (a b:List Ln):refs (a++b)=refs a++refs b:=by simp[refs]
structure Blk (o:Nat)(L:List Ln)(F:List Int)(a b:Nat):Prop where
 node: ∀x∈L,(a:Int)≤x.n∧x.n<b
 dist:(L.map Ln.n).Nodup
 kind: ∀x∈L,x.k≠5
 back: ∀p (h:p<L.length),∀n∈L[p].f,(o:Int)≤n∧n<o+p
 free: ∀n∈F,(o:Int)≤n∧n<o+L.length
 size:(refs L).length+F.length=L.length
 once: ∀n:Int,(refs L++F).count n=if(o:Int)≤n∧n<o+L.length then 1 else 0
theorem Blk.nil (o a:Nat):Blk o [] [] a a:=⟨by simp,by simp,by simp,by simp,by simp,by simp[refs],fun n=>by simp[refs]⟩
variable {a c o:Nat}{F:List Int}{L:List Ln}
theorem Blk.wide {b:Nat}(h:Blk o L F a b)(hc:b≤c):Blk o L F a c:=
 ⟨fun x hx=>by have:=h.node x hx;omega,h.dist,h.kind,h.back,h.free,h.size,h.once⟩
theorem Blk.join {M:List Ln}{G:List Int}{b:Nat}(h:Blk o L F a b)(g:Blk (o+L.length) M G b c)(hab:a≤b)(hbc:b≤c):Blk o (L++M) (F++G) a c:=by
 refine⟨fun x hx=>?_,?_,fun x hx=>?_,fun p hp n hn=>?_,fun n hn=>?_,?_,fun n=>?_⟩
 ·
  rcases List.mem_append.1 hx with hx|hx
  · have:=h.node x hx;omega
  · have:=g.node x hx;omega
 · rw[List.map_append,List.nodup_append];refine⟨h.dist,g.dist,fun x hx y hy=>?_⟩;obtain⟨x',h1,rfl⟩:=List.mem_map.1 hx;obtain⟨y',h2,rfl⟩:=List.mem_map.1 hy;have:=h.node x' h1;have:=g.node y' h2;omega
 ·
  rcases List.mem_append.1 hx with hx|hx
  · exact h.kind x hx
  · exact g.kind x hx
 ·
  rw[List.getElem_append]at hn;split at hn
  · exact h.back p _ n hn
  · have h1:=g.back _ _ n hn;simp only[List.length_append]at hp;omega
 ·
  rw[List.length_append];rcases List.mem_append.1 hn with hn|hn
  · have:=h.free n hn;omega
  · have:=g.free n hn;omega
 · have h1:=h.size;have h2:=g.size;rw[iG];simp only[List.length_append];omega
 · have h1:=h.once n;have h2:=g.once n;rw[iG];simp only[List.count_append,List.length_append]at h1 h2⊢;grind
theorem Blk.line {o:Nat}{L:List Ln}{b:Nat}(h:Blk o L F (a+1) b)(x:Ln)(hn:x.n=a)(hf:x.f=F)(hk:x.k≠5)(hb:a<b):Blk o (L++[x]) [((o+L.length:Nat):Int)] a b:=by
 refine⟨fun y hy=>?_,?_,fun y hy=>?_,fun p hp n hn'=>?_,fun n hn'=>?_,?_,fun n=>?_⟩
 ·
  rcases List.mem_append.1 hy with hy|hy
  · have:=h.node y hy;omega
  · rw[List.mem_singleton]at hy;subst hy;omega
 · rw[List.map_append,List.nodup_append];refine⟨h.dist,by simp,fun u hu v hv=>?_⟩;obtain⟨u',h1,rfl⟩:=List.mem_map.1 hu;simp only[List.map_cons,List.map_nil,List.mem_singleton]at hv;have:=h.node u' h1;omega
 ·
  rcases List.mem_append.1 hy with hy|hy
  · exact h.kind y hy
  · rw[List.mem_singleton]at hy;subst hy;exact hk
 ·
  rw[List.getElem_append]at hn';split at hn'
  · exact h.back p _ n hn'
  ·
   rename_i hp2;simp only[List.length_append,List.length_cons,List.length_nil]at hp;have hpe:p=L.length:=by omega
   subst hpe;simp only[Nat.sub_self,List.getElem_cons_zero]at hn';rw[hf]at hn';exact h.free n hn'
 · rw[List.mem_singleton]at hn';subst hn';simp only[List.length_append,List.length_cons,List.length_nil];omega
 ·
  have h1:=h.size;rw[iG];have e:refs [x]=F:=by simp[refs,hf]
  rw[e];simp only[List.length_append,List.length_cons,List.length_nil];omega
 ·
  have h1:=h.once n;rw[iG];have e:refs [x]=F:=by simp[refs,hf]
  rw[e];simp only[List.count_append,List.length_append,List.length_cons,List.length_nil,List.count_cons,List.count_nil]at h1⊢;grind
theorem bY9 (n:Nd):eI n≠5∧eI n≠1:=by unfold eI;grind
theorem bF3 {l:List Nd}(ht:IsTree l)(S:List Sp): ∀(f i:Nat) (out:List Ln),i<l.length→l.length-i≤f→ ∃L,prv l S f i out=out++L∧Blk out.length L [((prv l S f i out).length:Int)-1] i (aft l i)
 |0,i,out,hi,hf=>by omega
 |f+1,i,out,hi,hf=>by
  have ha:=fI ht hi;rcases Decidable.em ((l.getD i nd0).k=1)with h|h
  ·
   refine⟨[jL l S i],kH h,?_⟩;have h0:=((Blk.nil out.length (i+1)).line (a:=i) (jL l S i) rfl rfl (by simp[jL]) (by omega)).wide (c:=aft l i) (by omega);rw[kH h];simp only[List.nil_append,List.length_nil,Nat.add_zero,List.length_append,List.length_cons]at h0⊢
   rwa [show((out.length+(0+1):Nat):Int)-1=(out.length:Int)from by omega]
  ·
   have key: ∀j,j≤l[i].c.toNat→ ∃M,(gZ l S f i j out).1=out++M∧Blk out.length M (gZ l S f i j out).2 (i+1) (cB l j (i+1)):=by
    intro j;induction j with
    |zero=>intro _;exact⟨[],by simp[gZ,cY],Blk.nil _ _⟩
    |succ j ih=>
     intro hj;obtain⟨M,h1,h2⟩:=ih (by omega);have h3:=gQ ht hi (k:=j) (by omega);have h4:=fI ht h3;have h6:=(gB ht hi j (by omega)).2.2;rw[eO,cK,mY];split
     ·
      obtain⟨N,g1,g2⟩:=bF3 ht S f _ (gZ l S f i j out).1 h3 (by omega);refine⟨M++N,?_,?_⟩
      · show prv l S f _ _=_;rw[g1,h1,List.append_assoc]
      ·
       have hlen:(gZ l S f i j out).1.length=out.length+M.length:=by rw[h1,List.length_append]
       rw[hlen]at g2;exact h2.join g2 h6 (by omega)
     · exact⟨M,h1,h2.wide (by omega)⟩
   obtain⟨M,h1,h2⟩:=key l[i].c.toNat (Nat.le_refl _);rw[iT ht hi]at h2;have e:prv l S (f+1) i out=out++(M++[⟨eI (l.getD i nd0),i,[],(gZ l S f i l[i].c.toNat out).2⟩]):=by
    rw[lT h,rK hi,h1,List.append_assoc]
   refine⟨_,e,?_⟩;have h0:=h2.line ⟨eI (l.getD i nd0),i,[],(gZ l S f i l[i].c.toNat out).2⟩ rfl rfl (bY9 _).1 (by omega);rw[e];simp only[List.length_append,List.length_cons,List.length_nil]at h0⊢
   rwa [show((out.length+(M.length+(0+1)):Nat):Int)-1=((out.length+M.length:Nat):Int)from by omega]
structure NeedsV (X:List Ln):Prop where
 pos:0<X.length
 last:(X.getLast?.map Ln.k)=some 5
 back: ∀p (h:p<X.length),∀n∈X[p].f,0≤n∧n<p
 dist: ∀p (h:p<X.length),X[p].k≠5→ ∀q (h':q<p),X[q].n≠X[p].n
 size:(refs X).length<X.length
 once: ∀p:Nat,p+1<X.length→(refs X).count (p:Int)=1
variable {S:List Sp}{l:List Nd}
theorem sL (h:eH l (cF S)=true):NeedsV (dY l S):=by
 have ht:IsTree l:=eT (by unfold eH at h;simp only[Bool.and_eq_true]at h;exact h.1);obtain⟨L,h1,h2⟩:=bF3 ht S l.length 0 [] ht.ne (by omega);have e:nT l S=L:=by unfold nT;rw[h1];rfl
 rw[h1]at h2;simp only[List.nil_append,List.length_nil]at h2;unfold dY;rw[if_pos h,e];have hL:0<L.length:=by
  rcases Nat.eq_zero_or_pos L.length with h0|h0
  · have:=h2.free _ (List.mem_singleton.2 rfl);omega
  · exact h0
 refine⟨by simp,?_,fun p hp n hn=>?_,fun p hp hk q hq=>?_,?_,fun p hp=>?_⟩
 · simp
 ·
  rw[List.getElem_append]at hn;split at hn
  · have:=h2.back p _ n hn;omega
  ·
   simp only[List.length_append,List.length_cons,List.length_nil]at hp;have hpe:p=L.length:=by omega
   subst hpe;simp only[Nat.sub_self,List.getElem_cons_zero,List.mem_singleton]at hn;omega
 ·
  simp only[List.length_append,List.length_cons,List.length_nil]at hp;rcases Nat.lt_or_ge p L.length with hp2|hp2
  · rw[List.getElem_append_left hp2,List.getElem_append_left (by omega)];have hd:=List.pairwise_iff_getElem.1 h2.dist q p (by simp;omega) (by simpa using hp2) hq;simpa using hd
  ·
   have hpe:p=L.length:=by omega
   subst hpe;simp at hk
 · have h3:=h2.size;rw[iG];simp only[refs,List.flatMap_cons,List.flatMap_nil,List.length_append,List.length_cons,List.length_nil]at h3⊢;omega
 ·
  have h3:=h2.once p;rw[iG];simp only[List.length_append,List.length_cons,List.length_nil]at hp;have e2:refs [(⟨5,0,[],[(L.length:Int)-1]⟩:Ln)]=[(L.length:Int)-1]:=by simp[refs]
  rw[e2,h3,if_pos (by omega)]
variable {j:Nat}
theorem aS4 (hj:j<l.length)(hk:l[j].k=1):(eG 0 l)[lv (l.take j)]? =some j:=by
 have e:eG 0 l=eG 0 (l.take j)++eG j (l.drop j):=by
  conv=>lhs;rw[←List.take_append_drop j l,mJ]
  rw[Nat.zero_add,List.length_take,Nat.min_eq_left (by omega)]
 rw[e,List.getElem?_append_right (by rw[gE];exact Nat.le_refl _),gE,Nat.sub_self,List.drop_eq_getElem_cons hj,eG,if_pos hk];rfl
theorem aS5 : ∀(l:List Nd) (o:Nat),(eG o l).Pairwise (· <·)∧ ∀x∈eG o l,o≤x
 |[],o=>by simp[eG]
 |n::l,o=>by
  have h:=aS5 l (o+1);rw[eG];split
  ·
   refine⟨List.pairwise_cons.2 ⟨fun x hx=>?_,h.1⟩,fun x hx=>?_⟩
   · have:=h.2 x hx;omega
   ·
    rcases List.mem_cons.1 hx with rfl|hx
    · omega
    · have:=h.2 x hx;omega
  · exact⟨h.1,fun x hx=>by have:=h.2 x hx;omega⟩
variable {k:Nat}
theorem bN7 (hj:j<l.length)(hk:l[j].k=1)(h:(eG 0 l)[k]? =some j):k=lv (l.take j):=by
 have h1:=aS4 hj hk;obtain⟨a1,a2⟩:=List.getElem?_eq_some_iff.1 h;obtain⟨b1,b2⟩:=List.getElem?_eq_some_iff.1 h1;have hp:=List.pairwise_iff_getElem.1 (aS5 l 0).1;rcases Nat.lt_trichotomy k (lv (l.take j))with h2|h2|h2
 · have:=hp _ _ a1 b1 h2;omega
 · exact h2
 · have:=hp _ _ b1 a1 h2;omega
theorem yU {P:Nat→List Ln→List Ln}{v:Nat→Bool}{w:Nat}(hP: ∀j out,∃L,P j out=out++L): ∀(ks:List Nat) (st:List Ln×List Int),∃L,(ks.foldl (mY P v w) st).1=st.1++L
 |[],st=>⟨[],by simp⟩
 |k::ks,st=>by
  obtain⟨L,h⟩:=yU (v:=v) (w:=w) hP ks (mY P v w st k);obtain⟨M,g⟩:=hP k st.1;rw[List.foldl_cons,h,mY];split
  · exact⟨M++L,by simp only;rw[g,List.append_assoc]⟩
  · exact⟨L,rfl⟩
theorem bF4 (l:List Nd)(S:List Sp): ∀(f i:Nat) (out:List Ln),∃L,prv l S f i out=out++L
 |0,_,out=>⟨[],by simp[prv]⟩
 |f+1,i,out=>by
  rw[prv];split
  · exact⟨_,rfl⟩
  · obtain⟨L,h⟩:=yU (v:=dK l (cF S)) (w:=wantN (l.getD i nd0)) (fun j o=>bF4 l S f j o) (aI6 l i) (out,[]);simp only at h⊢;rw[h];exact⟨L++_,by rw[List.append_assoc]⟩
theorem bZ0 (l:List Nd)(S:List Sp)(f i j:Nat)(out:List Ln): ∃L,(gZ l S f i j out).1=out++L:=
 yU (fun j o=>bF4 l S f j o) _ _
def dws (l:List Dig):List aL:=l.map Subtype.val
theorem fW (l:List Dig):(dws l).length=l.length:=List.length_map _
theorem sM (l:List Dig)(i:Nat)(h:i<(dws l).length):(dws l)[i]=(l[i]'(by rwa [fW]at h)).1:=by simp[dws]
theorem kM (l:List Dig)(i:Nat):dws (l.take i)=(dws l).take i:=List.map_take
theorem qJ (a b:List Dig):dws (a++b)=dws a++dws b:=List.map_append
theorem mT (l:List Dig)(d:Dig):l.contains d=(dws l).contains d.1:=by
 rw[Bool.eq_iff_iff,List.contains_iff_mem,List.contains_iff_mem];exact⟨fun h=>List.mem_map.2 ⟨d,h,rfl⟩,fun h=>by obtain⟨x,h1,h2⟩:=List.mem_map.1 h;rwa [←Subtype.ext h2]⟩
theorem aJ8 {l:List Dig}(h:k<l.length):((dws l)[k]'(by rwa [fW])==(dws l)[k-1]'(by rw[fW];omega))=(l[k]==l[k-1]):=by
 rw[sM,sM,Bool.eq_iff_iff,beq_iff_eq,beq_iff_eq,Subtype.ext_iff]
theorem cH6 {l:List Dig}(h0:1≤k)(h:k<l.length)(hne:(l[k]==l[k-1])=false)(hd:cM (dws (l.take k))=dws (l.take k)):cM (dws (l.take (k+1)))=dws (l.take (k+1)):=by
 rw[kM]at hd⊢;exact aZ3 h0 (by rwa [fW]) (by rw[aJ8 h];exact hne) hd
theorem bF5 {l:List Dig}(h0:1≤k)(h:k<l.length)(he:(l[k]==l[k-1])=true):cM (dws (l.take (k+1)))=cM (dws (l.take k)):=by
 rw[kM,kM];exact aZ4 h0 (by rwa [fW]) (by rw[aJ8 h];exact he)
variable {i:Nat}
theorem cP4 {l r:List Dig}(h0:1≤k)(h:k<l.length)(hne:(l[k]==l[k-1])=false)(hi:i<r.length)(hr:dws (r.take i)=cM (dws (l.take k))):dws ((r.set i l[k]).take (i+1))=cM (dws (l.take (k+1))):=by
 rw[kM l,bL6 h0 (by rwa [fW]) (by rw[aJ8 h];exact hne),←kM,←hr,sM];rw[List.take_succ_eq_append_getElem (by simpa using hi),List.take_set_of_le (Nat.le_refl _),qJ];simp[dws]
def eC (X:List Ln):List Dig:=X.flatMap Ln.d
def bZ1 (X:List Ln):List aL:=bI6 (dws (eC X))
theorem bN8 {l s:List Dig}(hp:s.Perm l)(hs:s.Pairwise fun a b=>slt b.1 a.1=false):cM (dws s)=bI6 (dws l):=by
 refine aY9 ?_ fun w=>?_
 · unfold dws;rw[List.pairwise_map];refine hs.imp fun {a b} h=>?_;rw[←List.not_lt,←vY];simpa using h
 · unfold dws;exact(hp.map _).mem_iff
theorem aJ9 {x:Ln}(h:eW x=true):(wordK x.k).length≤7∧(∀n∈x.n::x.f,0≤n∧n≤1099511627776):=by
 simp only[eW,Bool.and_eq_true,inB,decide_eq_true_eq]at h;obtain⟨⟨⟨h1,h2⟩,h3⟩,h4⟩:=h;refine⟨?_,fun n hn=>?_⟩
 ·
  obtain h|h|h|h|h:x.k=1∨x.k=2∨x.k=3∨x.k=4∨x.k=5:=by omega
  all_goals rw[h];decide
 ·
  rcases List.mem_cons.1 hn with rfl|hn
  · exact(fA _).1 h3
  ·
   split at h4
   · rw[beq_iff_eq]at h4;rw[h4]at hn;cases hn
   · simp only[Bool.and_eq_true]at h4;exact(fA _).1 (List.all_eq_true.1 h4.1 n hn)
theorem wD {n:Int}(h:0≤n∧n≤1099511627776):(gD n).length≤21∧sizeW (gD n)≤64:=by
 have h1:=bV7 (n:=n) (by omega);have:=dV (gD n);omega
theorem aF6 : ∀{f:List Int},(∀n∈f,0≤n∧n≤1099511627776)→gS (f.map gD)≤65*f.length
 |[],_=>by simp[gS]
 |n::f,h=>by
  have h1:=aF6 (f:=f) fun m hm=>h m (List.mem_cons_of_mem _ hm);have h2:=(wD (h n List.mem_cons_self)).2;simp only[gS,List.map_cons,List.sum_cons,List.length_cons]at h1⊢;omega
theorem pB (w:aL)(l:List aL):gS (w::l)=sizeW w+1+gS l:=by simp[gS]
theorem bF6 :gS []=0:=rfl
theorem uC (l:List aL)(ls:List (List aL)):sumD (l::ls)=gS l+sumD ls:=by simp[sumD]
theorem vJ (a b:List (List aL)):sumD (a++b)=sumD a+sumD b:=by simp[sumD]
theorem bN9 (ds:List Dig):sumD (ds.map lY)≤226*ds.length:=by
 induction ds with
 |nil=>simp[sumD]
 |cons d ds ih=>
  have h1:=dV (jG d);have h2:=dV wDoc;rw[oB]at h1;have h3:wDoc.length=3:=rfl;rw[List.map_cons,uC,lY,pB,pB,bF6,List.length_cons];omega
theorem bA1 {l:List Ln}(h:l.all eW=true):sumD (l.flatMap fB)≤88*l.length+65*(refs l).length+226*(eC l).length:=by
 induction l with
 |nil=>simp[sumD]
 |cons x l ih=>
  simp only[List.all_cons,Bool.and_eq_true]at h;have h0:=ih h.2;obtain⟨h1,h2⟩:=aJ9 h.1;have h3:=aF6 h2;have h4:=dV (wordK x.k);have h5:=bN9 x.d;have e:refs (x::l)=x.f++refs l:=by simp[refs]
  have e2:eC (x::l)=x.d++eC l:=by simp[eC]
  rw[List.flatMap_cons,vJ,fB,uC,firstL,pB,e,e2];simp only[List.map_cons,List.length_cons,List.length_append]at h3⊢;omega
theorem uD (l:List Ln):(l.flatMap fB).length=l.length+(eC l).length:=by
 induction l with
 |nil=>rfl
 |cons x l ih=>
  rw[List.flatMap_cons,List.length_append,ih];simp only[fB,eC,List.length_cons,List.length_map,List.flatMap_cons,List.length_append];omega
theorem lines_ok {l:List Ln}(h:l.all eW=true)(hr: ∀x∈l,x.f.length≤100): ∀w∈l.flatMap fB,okL w=true:=by
 intro w hw;obtain⟨x,hx,hw⟩:=List.mem_flatMap.1 hw;have hf:=List.all_eq_true.1 h x hx;obtain⟨h1,h2⟩:=aJ9 hf;have h3:=hr x hx;rw[jS];rcases List.mem_cons.1 hw with rfl|hw
 ·
  refine⟨by simp[firstL],by simp only[firstL,List.length_cons,List.length_map];omega,fun u hu=>?_⟩;rcases List.mem_cons.1 hu with rfl|hu
  · omega
  · obtain⟨n,hn,rfl⟩:=List.mem_map.1 (show u∈(x.n::x.f).map gD from hu);have:=(wD (h2 n hn)).1;omega
 ·
  obtain⟨d,_,rfl⟩:=List.mem_map.1 hw;refine⟨by simp[lY],by simp[lY],fun u hu=>?_⟩;simp only[lY,List.mem_cons,List.not_mem_nil,or_false]at hu;rcases hu with rfl|rfl
  · decide
  · rw[oB];decide
structure SmallD (d:Dv):Prop where
 fine:kX d=true
 n:d.q.n.length≤100
 i:d.q.i.length≤100
 l:d.o.l.length≤100
 r:d.o.r.length≤100
 lines:d.l.length≤100
 refs:(refs d.l).length≤100
 docs:(eC d.l).length≤200
theorem aK0 {l:List Ln}{x:Ln}(h:x∈l):x.f.length≤(refs l).length:=by
 induction l with
 |nil=>cases h
 |cons y l ih=>
  have e:refs (y::l)=y.f++refs l:=by simp[refs]
  rw[e,List.length_append];rcases List.mem_cons.1 h with rfl|h
  · omega
  · have:=ih h;omega
variable {d:Dv}
theorem head_ok (h:SmallD d):(∀w∈kW d,okL w=true)∧sumD (kW d)≤3400:=by
 have hf:=h.fine;simp only[kX,Bool.and_eq_true]at hf;have h1:=wD ((fA _).1 hf.1.1);have h2:=wD ((fA _).1 hf.1.2);have a1:=h.n;have a2:=h.i;have a3:=h.l;have a4:=h.r;have b1:wDer.length=10:=rfl;have b2:wOrg.length=6:=rfl;constructor
 ·
  intro w hw;rw[jS];simp only[kW,List.mem_cons,List.not_mem_nil,or_false]at hw;rcases hw with rfl|rfl
  · refine⟨by simp,by simp,fun u hu=>?_⟩;simp only[List.mem_cons,List.not_mem_nil,or_false]at hu;rcases hu with rfl|rfl|rfl|rfl|rfl|rfl|rfl<;>first|omega|(rw[oB];omega)
  · refine⟨by simp,by simp,fun u hu=>?_⟩;simp only[List.mem_cons,List.not_mem_nil,or_false]at hu;rcases hu with rfl|rfl|rfl|rfl<;>first|omega|(rw[oB];omega)
 · have c1:=dV wDer;have c2:=dV wOrg;have c3:=dV d.q.n;have c4:=dV d.q.i;have c5:=dV (jG d.q.a);have c6:=dV (jG d.p);have c7:=dV (jG d.o.v);have c8:=dV d.o.l;have c9:=dV d.o.r;rw[oB]at c5 c6 c7;simp only[kW,uC,pB,bF6,show sumD []=0 from rfl];omega
theorem bO0 (h:SmallD d):dvE d=0:=by
 obtain⟨h1,h2⟩:=head_ok h;have hf:=h.fine;have hl:d.l.all eW=true:=by simp only[kX,Bool.and_eq_true]at hf;exact hf.2
 have h3:=lines_ok hl fun x hx=>Nat.le_trans (aK0 hx) h.refs;have h4:=bA1 hl;have h5:=uD d.l;have a1:=h.lines;have a2:=h.refs;have a3:=h.docs;have hok: ∀w∈iA d,okL w=true:=fun w hw=>by
  rcases List.mem_append.1 hw with hw|hw
  · exact h1 w hw
  · exact h3 w hw
 have hne: ∀w∈iA d,w≠[]:=fun w hw=>((jS w).1 (hok w hw)).1;have hlen:(iA d).length≤1000:=by
  rw[iA,List.length_append,h5];have:(kW d).length=2:=rfl;omega
 unfold dvE;rw[if_pos hf,bD4 hlen hok,rT hne,iA,vJ,if_neg (by omega)]
theorem aK1 {n a b:Int}:inB n a b=true↔a≤n∧n≤b:=by unfold inB;simp
theorem aS6 {r:Pr}(h:sC r=true):(0≤r.g∧r.g≤1099511627776)∧IsTree r.t∧eR r.a=true∧(aY6 r.b).isSome=true∧(aY6 r.c).isSome=true:=by
 unfold sC at h;simp only[Bool.and_eq_true,aK1]at h;obtain⟨h1,h2,h3,⟨h4,h5⟩,h6⟩:=h;rw[rZ]at h5;exact⟨⟨h4,h5⟩,eT h6,h1,h2,h3⟩
theorem cH7 {p:Po}(h:bW6 p=true):(1≤p.v∧p.v≤1099511627776)∧p.r.length≤16∧eR p.n=true∧ ∀r∈p.r,sC r=true:=by
 unfold bW6 at h;simp only[Bool.and_eq_true,aK1,decide_eq_true_eq,List.all_eq_true]at h;obtain⟨h1,⟨h2,h3⟩,h4,h5,-⟩:=h;rw[rZ]at h3;exact⟨⟨h2,h3⟩,h4,h1,h5⟩
theorem bF7 : ∀(l:List Nd) (m:Nat) (v:Int),skip m l=some []→(∀n∈l,dB n=true)→rF l m v=some (0,v+lv l)
 |[],0,v,_,_=>by simp[rF,lv]
 |[],m+1,v,h,_=>by cases h
 |n::l,0,v,h,_=>by grind[fP]
 |n::l,m+1,v,h,hn=>by
  have h':skip (m+n.c.toNat) l=some []:=h;have hnn:=hn n List.mem_cons_self;obtain⟨c1,c2,c3,c4⟩:=eS hnn;have e:((m+1:Nat):Int)+(n.c-1)=((m+n.c.toNat:Nat):Int):=by omega
  rw[rF,if_neg (by omega),if_pos hnn,e,bF7 l _ _ h' (fun x hx=>hn x (List.mem_cons_of_mem _ hx)),lv];grind
theorem aS7 (h:IsTree l):dU l=true:=by
 unfold dU;have:=bF7 l 1 0 h.skip h.node;rw[show((1:Nat):Int)=1 from rfl]at this;rw[this];have:=h.lv;simp[h.ne,h.len];omega
def uni (l:List (Nat×Nat)):List (Nat×Nat):=l.eraseDups
def yV (f:Nat→List (Nat×Nat)):Nat→Nat→Nat×Nat→List (Nat×Nat)
 |0,_,p=>[p]
 |c+1,n,p=>uni ((f n).flatMap fun q=>yV f c (n+q.1) (p.1+q.1,p.2+q.2))
def pos :Nat→Nat→List (Nat×Nat)
 |0,_=>[(1,1)]
 |d+1,n=>uni ((1,1)::if n≤8 then(List.range 3).flatMap fun c=>yV (pos d) (c+1) (n+1) (1,0)else [])
theorem pC {l:List (Nat×Nat)}{p:Nat×Nat}:p∈uni l↔p∈l:=by unfold uni;simp_all
theorem aF7 {f:Nat→List (Nat×Nat)}: ∀{c n:Nat} {p q r:Nat×Nat},q∈yV f c n p→r∈f (n+(q.1-p.1))→p.1≤q.1→(q.1+r.1,q.2+r.2)∈yV f (c+1) n p
 |0,n,p,q,r,hq,hr,_=>by simp_all[yV,List.mem_singleton,Nat.sub_self,Nat.add_zero,pC,List.mem_flatMap]
 |c+1,n,p,q,r,hq,hr,hpq=>by
  unfold yV at hq⊢;rw[pC,List.mem_flatMap]at hq⊢;obtain⟨s,hs,hq⟩:=hq;have hle:p.1+s.1≤q.1:=by
   have key: ∀(c n:Nat) (p q:Nat×Nat),q∈yV f c n p→p.1≤q.1:=by
    intro c;induction c with
    |zero=>simp_all[yV,List.mem_singleton,Nat.le_refl]
    |succ c ih=>
     grind[yV,pC]
   exact key _ _ _ _ hq
  refine⟨s,hs,aF7 hq ?_ hle⟩;grind
structure Made (d n:Nat)(t:List Nd):Prop where
 skip:skip 1 t=some []
 node: ∀n∈t,dB n=true
 pos:(t.length,lv t)∈pos d n
variable {t:List Nd}
theorem cH8 (h:Made 3 0 t):IsTree t:=by
 have hb: ∀p∈pos 3 0,1≤p.1∧p.1≤60∧p.2≤16:=by decide+kernel
 obtain⟨h1,h2,h3⟩:=hb _ h.pos;exact⟨h1,h2,h.skip,h.node,h3⟩
variable {q:Rq}{n:Nat}
theorem aF8 {d:Nat}(h:eN q=true):Made d n [⟨1,0,0,q⟩]:=by
 refine⟨rfl,fun x hx=>?_,?_⟩
 · simp only[List.mem_singleton]at hx;subst hx;unfold dB;rw[if_pos rfl,h];rfl
 ·
  cases d with
  |zero=>simp[pos,lv]
  |succ d=>rw[pos,pC];exact List.mem_cons_self
structure MadeK (d n k:Nat)(ts:List Nd):Prop where
 skip:skip k ts=some []
 node: ∀n∈ts,dB n=true
 pos:(1+ts.length,lv ts)∈yV (pos d) k (n+1) (1,0)
theorem MadeK.zero (d n:Nat):MadeK d n 0 []:=⟨rfl,by simp,by simp[yV,lv]⟩
variable {ts:List Nd}
theorem MadeK.next {d:Nat}(h:MadeK d n k ts)(ht:Made d (n+1+ts.length) t):MadeK d n (k+1) (ts++t):=by
 refine⟨?_,fun x hx=>?_,?_⟩
 · rw[lR,vH ts t [] k h.skip];exact ht.skip
 ·
  rcases List.mem_append.1 hx with hx|hx
  · exact h.node x hx
  · exact ht.node x hx
 ·
  have:=aF7 (r:=(t.length,lv t)) h.pos (by
   rw[show n+1+(1+ts.length-1)=n+1+ts.length from by omega];exact ht.pos) (by simp)
  grind[tN,Nat.add_assoc]
theorem MadeK.fin {d:Nat}{x:Nd}(h:MadeK d n c ts)(hn:n≤8)(hx:dB x=true)(hk:x.k≠1)(hc:x.c=c)(h1:1≤c)(h3:c≤3):Made (d+1) n (x::ts):=by
 refine⟨?_,fun y hy=>?_,?_⟩
 · show Pl.skip (0+x.c.toNat) ts=some [];rw[hc,Nat.zero_add];exact h.skip
 ·
  rcases List.mem_cons.1 hy with rfl|hy
  · grind
  · exact h.node y hy
 · rw[Pl.pos,pC];refine List.mem_cons_of_mem _ ?_;rw[if_pos hn,List.mem_flatMap];refine⟨c-1,List.mem_range.2 (by omega),?_⟩;rw[show c-1+1=c from by omega];have:=h.pos;simp_all[lv,if_neg,List.length_cons,Nat.add_comm]
structure Ms where
 n:aL
 v:Int
 r:List Pr
 o:List Nat
 d:Bool
theorem yW {w:aL}(h:eR w=true):1≤w.length∧w.length≤64:=by
 cases w with
 |nil=>cases h
 |cons c r=>
  simp_all[eR,Bool.and_eq_true,decide_eq_true_eq]
def bZ2 (p:Po):Prop:=bW6 p=true∧p.r.length≤2∧ ∀r∈p.r,r.b.length≤80∧r.c.length≤80∧r.t.length≤40
def isV (ls:List (List aL))(a:Nat)(w:aL)(k:Nat):Bool:=decide (a<ls.length)&&((ls.getD a []).length==k&&wd (ls.getD a []) 0==w)
variable {ls:List (List aL)}
theorem cH9 (h: ¬a<ls.length)(w:aL)(k:Nat):isV ls a w k=false:=by simp[isV,h]
theorem cP5 (h:a<ls.length)(w:aL)(k:Nat):isV ls a w k=(ls[a].length==k&&wd ls[a] 0==w):=by simp[isV,h]
abbrev Kds :=Option (List Nd×Int)×List (List aL)
def cI0 (ts:List Nd)(k:Int)(x:Kds):Kds:=(x.1.map fun p=>(ts++p.1,k+p.2),x.2)
def cP6 (n:Nd)(x:Kds):Option (List Nd)×List (List aL):=(x.1.map fun p=>{n with c:=p.2}::p.1,x.2)
theorem bZ3 (x:Kds):cI0 [] 0 x=x:=by simp_all[cI0]
variable {r:List (List aL)}{f:Nat}
theorem bO1 {w:List aL}{n:Nd}(h:cO1 w=none)(h2:cO2 w=some n):rdN (f+1) (w::r)=cP6 n (rdK f r):=by
 simp only[rdN,h,h2]
 match rdK f r with
 |(none,r')=>rfl
 |(some (ts,c),r')=>rfl
theorem cP7 {l:List (List aL)}(h:bX1 (l.headD [])=false)(h2:rdN f l=(none,r)):rdK (f+1) l=(none,r):=by simp_all[rdK,Bool.false_eq_true,if_false]
theorem bO2 (ha:a≤ls.length):bX1 ((ls.drop a).headD [])=isV ls a cO0 1:=by
 rcases Nat.lt_or_ge a ls.length with h|h
 · rw[cP5 h,List.drop_eq_getElem_cons h];rfl
 · rw[cH9 (by omega),List.drop_eq_nil_of_le h];rfl
structure KdSt (f:Nat)(ls:List (List aL))(a:Nat)(nd:Nd)(g:Nat)(ts:List Nd)(k p:Nat):Prop where
 eq:rdN f (ls.drop a)=cP6 nd (cI0 ts k (rdK g (ls.drop p)))
 le:p≤ls.length
 fuel:2*(ls.length-p)+2≤g
 lt:g<f
 len:ts.length+(ls.length-p)+1≤ls.length-a
 cU7:k≤ts.length
variable {nd:Nd}
theorem KdSt.init (ha:a<ls.length)(hf:2*(ls.length-a)+1≤f)(h1:cO1 ls[a]=none)(h2:cO2 ls[a]=some nd):KdSt f ls a nd (f-1) [] 0 (a+1):=by
 obtain⟨g,rfl⟩: ∃g,f=g+1:=⟨f-1,by omega⟩;refine⟨?_,by omega,?_,by omega,by grind,by simp⟩;all_goals grind[List.drop_eq_getElem_cons,bO1,cP6,cI0,bZ3,Nat.add_sub_cancel]
variable {p:Nat}
theorem KdSt.no {g:Nat}(h:KdSt f ls a nd g ts k p)(he:isV ls p cO0 1=false)(hn:(rdN (g-1) (ls.drop p)).1=none):rdN f (ls.drop a)=(none,(rdN (g-1) (ls.drop p)).2):=by
 obtain⟨q,rfl⟩: ∃q,g=q+1:=⟨g-1,by have:=h.fuel;omega⟩;simp only[Nat.add_sub_cancel]at hn⊢;rw[h.eq,cP7 (by rw[bO2 h.le,he]) (r:=(rdN q (ls.drop p)).2) (Prod.ext hn rfl)];rfl
abbrev Rls :=Option (List Pr)×List (List aL)
structure RsSt (ls:List (List aL))(X:Rls)(acc:List Pr)(p:Nat):Prop where
 eq:X=cF7 (ls.length-p+1) (ls.drop p) acc
 le:p≤ls.length
 len:acc.length≤p
variable {acc:List Pr}{X:Rls}
theorem RsSt.done (h:RsSt ls X acc p)(hp: ¬p<ls.length):p=ls.length∧X=(some acc,[]):=by
 have h1:=h.le;refine⟨by omega,?_⟩;rw[h.eq,List.drop_eq_nil_of_le (by omega),cF7,if_pos rfl]
theorem RsSt.no (h:RsSt ls X acc p)(hp:p<ls.length)(hn:(rdR (ls.drop p)).1=none):X=(none,(rdR (ls.drop p)).2):=by
 rw[h.eq,cF7,if_neg (by simp_all)];grind
def cP8 (l:List Pr)(r:Pr):Bool:=(l.map Pr.a).contains r.a||(!eR r.a||(!(aY6 r.b).isSome||(!(aY6 r.c).isSome||(!inB r.g 0 vS||!dU r.t))))
structure RlSt (l:List Pr)(i:Nat):Prop where
 le:i≤l.length
 all:(l.take i).all sC=true
 apart:mR (l.take i)=true
theorem RlSt.zero (l:List Pr):RlSt l 0:=⟨by omega,by simp,by simp[mR]⟩
theorem cI1 (l:List Pr)(r:Pr):cP8 l r=!(!(l.map Pr.a).contains r.a&&sC r):=by simp_all[cP8,sC,Pr.a,eR,aY6,inB,vS,dU]
theorem RlSt.succ {l:List Pr}(h:RlSt l i)(hi:i<l.length)(hb:cP8 (l.take i) l[i]=false):RlSt l (i+1):=by
 rw[cI1]at hb;simp only[Bool.not_eq_false',Bool.and_eq_true]at hb;refine⟨hi,?_,?_⟩
 · rw[List.take_succ_eq_append_getElem hi,List.all_append,h.all,List.all_cons,hb.2];rfl
 · rw[List.take_succ_eq_append_getElem hi,vG,h.apart,hb.1];rfl
structure PoSz (p:Po):Prop where
 n:p.n.length<2^63
 r:p.r.length<2^40
 a: ∀r∈p.r,r.a.length<2^63
 t: ∀r∈p.r,∀n∈r.t,n.q.t.length<2^63
theorem cI2 (h:Made 3 0 t):t.length≤40:=by
 have key: ∀p∈pos 3 0,p.1≤40:=by decide+kernel
 exact key _ h.pos
def rN (n:Nat):aL:=[114,UInt8.ofNat (48+n)]
structure MadeR (r:Pr):Prop where
 ok:sC r=true
 b:r.b.length≤80
 c:r.c.length≤80
 t:r.t.length≤40
structure MadeRs (n:Nat)(rs:List Pr):Prop where
 two:n+rs.length≤2
 one:1≤n+rs.length
 ok: ∀r∈rs,MadeR r
 nm: ∀r∈rs,∃j,n<j∧j≤2∧r.a=rN j
 ap:mR rs=true
theorem MadeRs.zero (h1:1≤n)(h2:n≤2):MadeRs n []:=⟨by grind,by grind,by simp,by simp,rfl⟩
variable {rs:List Pr}
theorem MadeRs.next (h:MadeRs (n+1) rs){r:Pr}(hr:MadeR r)(ha:r.a=rN (n+1)):MadeRs n (rs++[r]):=by
 have h1:=h.two;refine⟨by grind,by grind,fun x hx=>?_,fun x hx=>?_,?_⟩
 ·
  rcases List.mem_append.1 hx with hx|hx
  · exact h.ok x hx
  grind
 ·
  rcases List.mem_append.1 hx with hx|hx
  · obtain⟨j,h2,h3,h4⟩:=h.nm x hx;grind
  grind
 ·
  rw[vG,h.ap,Bool.true_and,Bool.not_eq_true',←Bool.not_eq_true,List.contains_iff_mem];intro hm;obtain⟨x,hx,he⟩:=List.mem_map.1 hm;obtain⟨j,h2,h3,h4⟩:=h.nm x hx;rw[h4,ha]at he;have hj:j=2:=by omega
  have hn:n=0:=by omega
  subst hj hn
  revert he
  decide
theorem MadeRs.fin (h:MadeRs 0 rs){v:Int}(h1:1≤v)(h2:v≤1099511627776):bZ2 ⟨[112],v,rs⟩:=by
 have h3:=h.two;have k:eR [112]=true:=by decide
 refine⟨?_,by grind,fun r hr=>⟨(h.ok r hr).b,(h.ok r hr).c,(h.ok r hr).t⟩⟩;have k1:inB v 1 vS=true:=by rw[rZ,aK1];exact⟨h1,h2⟩
 have k2:decide (rs.length≤16)=true:=by simp;omega
 have k3:rs.all sC=true:=List.all_eq_true.2 fun r hr=>(h.ok r hr).ok;simp only[bW6,k,k1,k2,k3,h.ap,Bool.and_self]
theorem bZ4 (h:eN q=true):q.t.length≤64:=by
 have hn:eR q.t=true→q.t.length≤64:=fun h=>(yW h).2;have h0:q.t=[]→q.t.length≤64:=fun h=>by grind
 unfold eN at h;grind
theorem bO3 {n:Nd}(h:dB n=true):n.q.t.length≤64:=by
 have h0:n.q=rq0→n.q.t.length≤64:=fun h=>by rw[h];decide
 have h1:eN n.q=true→n.q.t.length≤64:=bZ4;unfold dB at h
 repeat' split at h
 all_goals simp_all[Bool.and_eq_true,bS3,beq_iff_eq]
theorem aF9 (h:IsTree t): ∀n∈t,n.q.t.length<2^63:=fun n hn=>by have:=bO3 (h.node n hn);omega
theorem cI3 {p:Po}(h:bW6 p=true):PoSz p:=by
 obtain⟨_,h2,h3,h4⟩:=cH7 h;refine⟨by grind[yW],by omega,fun r hr=>?_,fun r hr=>aF9 (aS6 (h4 r hr)).2.1⟩;have:=(yW (aS6 (h4 r hr)).2.2.1).2;omega
theorem MadeRs.sz (h:MadeRs 0 rs)(v:Int):PoSz ⟨[112],v,rs⟩:=by
 have:=cI3 (h.fin (v:=1) (by omega) (by omega)).1;exact⟨this.n,this.r,this.a,this.t⟩
theorem bF8 {l:List Nd}(ht:IsTree l)(S:List Sp){P:Ln→Prop}(h1: ∀i,i<l.length→P (jL l S i))(h2: ∀(i:Nat) f,i<l.length→P ⟨eI (l.getD i nd0),i,[],f⟩): ∀(f i:Nat) (out:List Ln),i<l.length→l.length-i≤f→(∀x∈out,P x)→ ∀x∈prv l S f i out,P x
 |0,i,out,hi,hf,_=>by omega
 |f+1,i,out,hi,hf,ho=>by
  intro x hx;rcases Decidable.em ((l.getD i nd0).k=1)with h|h
  ·
   rw[kH h]at hx;rcases List.mem_append.1 hx with hx|hx
   · exact ho x hx
   · rw[List.mem_singleton.1 hx];exact h1 i hi
  ·
   have key: ∀j,j≤l[i].c.toNat→ ∀x∈(gZ l S f i j out).1,P x:=by
    intro j;induction j with
    |zero=>intro _;exact ho
    |succ j ih=>
     intro hj;have h3:=gQ ht hi (k:=j) (by omega);have h6:=(gB ht hi j (by omega)).2.2;rw[eO,mY];split
     · exact bF8 ht S h1 h2 f _ _ h3 (by omega) (ih (by omega))
     · exact ih (by omega)
   rw[lT h]at hx;rcases List.mem_append.1 hx with hx|hx
   · rw[rK hi]at hx;exact key _ (Nat.le_refl _) x hx
   · rw[List.mem_singleton.1 hx];exact h2 i _ hi
theorem bZ5 (n:Nd):2≤eI n∧eI n≤4:=by unfold eI;grind
theorem bF9 (h:eH l (cF S)=true):IsTree l:=eT (by unfold eH at h;simp only[Bool.and_eq_true]at h;exact h.1)
theorem pD (h:eH l (cF S)=false):dY l S=[]:=by unfold dY;rw[if_neg (by simp[h])]
theorem yX :(dY l S).length≤l.length+1:=by
 cases h:eH l (cF S)with
 |false=>rw[pD h];simp
 |true=>
  have ht:=bF9 h;have h1:=(vZ ht S l.length 0 [] ht.ne).2;have h2:=(fI ht ht.ne).2.1;unfold dY;rw[if_pos h];unfold nT;simp only[List.length_append,List.length_cons,List.length_nil]at h1⊢;omega
theorem yY (hc: ∀x∈S,x.d.length≤c): ∀x∈dY l S,0≤x.n∧x.n≤l.length∧x.d.length≤c∧1≤x.k∧x.k≤5∧(x.k=1∧x.f=[]∨x.k≠1∧x.d=[]):=by
 cases h:eH l (cF S)with
 |false=>rw[pD h];simp
 |true=>
  have ht:=bF9 h;intro x hx;unfold dY at hx;rw[if_pos h]at hx;rcases List.mem_append.1 hx with hx|hx
  ·
   refine bF8 ht S (P:=fun x=>0≤x.n∧x.n≤l.length∧x.d.length≤c∧1≤x.k∧x.k≤5∧(x.k=1∧x.f=[]∨x.k≠1∧x.d=[])) (fun i hi=>?_) (fun i f hi=>?_) l.length 0 [] ht.ne (by omega) (by simp) x hx
   ·
    refine⟨by simp[jL],by simp[jL];omega,?_,by simp[jL],by simp[jL],.inl ⟨rfl,rfl⟩⟩;show(S.getD _ sp0).d.length≤c;rcases Nat.lt_or_ge (lv (l.take i)) S.length with hlt|hge
    · rw[List.getD_eq_getElem?_getD,List.getElem?_eq_getElem hlt];exact hc _ (List.getElem_mem hlt)
    · rw[List.getD_eq_getElem?_getD,List.getElem?_eq_none hge];exact Nat.zero_le _
   · have hk:=bZ5 (l.getD i nd0);refine⟨by simp,by simp;omega,by simp,by simp only;omega,by simp only;omega,.inr ⟨by simp only;omega,rfl⟩⟩
  · rw[List.mem_singleton.1 hx];exact⟨by simp,by simp,by simp,by simp,by simp,.inr ⟨by simp,rfl⟩⟩
theorem yZ : ∀S:List Sp,∃c,∀x∈S,x.d.length≤c
 |[]=>⟨0,by simp⟩
 |y::S=>by
  obtain⟨c,hc⟩:=yZ S;exact⟨y.d.length+c,fun x hx=>by
   rcases List.mem_cons.1 hx with rfl|hx
   · omega
   · have:=hc x hx;omega⟩
theorem aS8 (hl:l.length≤1000):(dY l S).all eW=true:=by
 cases h:eH l (cF S)with
 |false=>rw[pD h];rfl
 |true=>
  have hn:=sL h;have hlen:=yX (l:=l) (S:=S);rw[List.all_eq_true];intro x hx;obtain⟨c,hc⟩:=yZ S;obtain⟨h1,h2,_,h4,h5,h6⟩:=yY hc x hx;obtain⟨p,hp,rfl⟩:=List.getElem_of_mem hx;have hb:=hn.back p hp;unfold eW;rw[show inB (dY l S)[p].k 1 5=true from by simp[inB];omega,(fA _).2 ⟨h1,by omega⟩];simp only[Bool.and_true,Bool.true_and];rcases h6 with⟨hk,hf⟩|⟨hk,hd⟩
  · rw[if_pos hk,hf];rfl
  · rw[if_neg hk,hd,List.all_eq_true.2 fun n hn'=>(fA _).2 (by have:=hb n hn';omega)];rfl
theorem docsL_le {c:Nat}: ∀{X:List Ln},(∀x∈X,x.d.length≤c)→(eC X).length≤c*X.length
 |[],_=>by simp[eC]
 |x::X,h=>by
  have h1:=docsL_le (c:=c) (X:=X) fun y hy=>h y (List.mem_cons_of_mem _ hy);have h2:=h x List.mem_cons_self;have e:eC (x::X)=x.d++eC X:=by simp[eC]
  rw[e,List.length_append,List.length_cons,Nat.mul_add];omega
theorem bA2 (ht:t.length≤40)(hS: ∀x∈S,x.d.length≤2)(hl:d.l=dY t S)(h1:0≤d.t∧d.t≤1000)(h2:0≤d.r∧d.r≤1000)(h3:d.q.n.length≤100)(h4:d.q.i.length≤100)(h5:d.o.l.length≤100)(h6:d.o.r.length≤100):SmallD d:=by
 have hlen:=yX (l:=t) (S:=S);have ha:=yY (l:=t) hS;have hdl:=docsL_le (X:=dY t S) fun x hx=>(ha x hx).2.2.1;refine⟨?_,h3,h4,h5,h6,by rw[hl];omega,?_,by rw[hl];omega⟩
 · unfold kX;rw[(fA _).2 ⟨h1.1,by omega⟩,(fA _).2 ⟨h2.1,by omega⟩,hl,aS8 (by omega)];rfl
 ·
  rw[hl];cases h:eH t (cF S)with
  |false=>rw[pD h];simp[refs]
  |true=>have:=(sL h).size;omega
end Go.Pl
