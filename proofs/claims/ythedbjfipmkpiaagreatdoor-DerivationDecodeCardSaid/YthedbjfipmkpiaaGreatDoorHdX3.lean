/- Part of a proof: walks of functions of the program, by contracts, and the rules they use. By an AI agent. -/
import Derived.Test.YthedbjfipmkpiaaGreatDoorPl02g
import Derived.Test.YthedbjfipmkpiaaGreatDoorHlFl
import Derived.Test.YthedbjfipmkpiaaGreatDoorHdSb
import Derived.Test.YthedbjfipmkpiaaGreatDoorPl31
import Derived.Test.YthedbjfipmkpiaaGreatDoorHdFm
import Derived.Test.YthedbjfipmkpiaaGreatDoorPl31g
import Derived.Test.YthedbjfipmkpiaaGreatDoorHdW9
set_option linter.unusedSimpArgs false
set_option linter.unusedVariables false
set_option linter.defProp false
namespace Go.Proofs.YthedbjfipmkpiaaGreatDoor
open Go Go.Hl Go.Pl
set_option maxRecDepth 10000
set_option maxHeartbeats 16000000
abbrev I64 (n:Int):Prop:= -9223372036854775808≤n∧n≤9223372036854775807
structure LnW (x:Ln):Prop where
 k:I64 x.k
 n:I64 x.n
 f: ∀n∈x.f,I64 n
 fl:x.f.length<2^38
 dl:x.d.length<2^38
variable {k:Int}
theorem kk1 (h:(k==1)=true)(h2:(k !=1)=true):False:=bne_iff_ne.1 h2 (eq_of_beq h)
theorem kk2 (h:(k==1)=false)(h2:(k !=1)=false):False:=by
 rw[bne,h]at h2;cases h2
def lJ (x:Ln):Bool:=((!inB x.k 1 5||!eY x.n)||(x.k==1&&decide ((x.f.length:Int)>0)))||(!(x.k==1)&&decide ((x.d.length:Int)>0))
variable {x:Ln}
theorem rC :cU x=(!lJ x&&x.f.all eY):=by
 have e1:(x.f==[])=!decide ((x.f.length:Int)>0):=by
  cases x.f with
  |nil=>rfl
  |cons a l=>
   have:decide (((a::l).length:Int)>0)=true:=decide_eq_true (by simp only[List.length_cons];omega);rw[this];rfl
 have e2:(x.d==[])=!decide ((x.d.length:Int)>0):=by
  cases x.d with
  |nil=>rfl
  |cons a l=>
   have:decide (((a::l).length:Int)>0)=true:=decide_eq_true (by simp only[List.length_cons];omega);rw[this];rfl
 unfold cU lJ;by_cases hk:x.k=1
 ·
  rw[if_pos hk,e1,hk];cases hf:decide ((x.f.length:Int)>0)with
  |true=>simp
  |false=>
   have:x.f=[]:=List.eq_nil_of_length_eq_zero (by have:=of_decide_eq_false hf;omega);rw[this];simp
 rw[if_neg hk,e2,show(x.k==1)=false from beq_eq_false_iff_ne.2 hk];cases inB x.k 1 5<;>cases eY x.n<;>cases x.f.all eY<;>cases decide ((x.d.length:Int)>0)<;>rfl
variable {i:Nat}
theorem lK (h:i<x.f.length):(x.f.take (i+1)).map fB=(x.f.take i).map fB++[fB x.f[i]]:=by
 rw[List.take_succ_eq_append_getElem h,List.map_append];rfl
variable {l:List Int}
theorem all_take (h:i<l.length)(h0:(l.take i).all eY=true)(h1:eY l[i]=true):(l.take (i+1)).all eY=true:=by
 rw[List.take_succ_eq_append_getElem h,List.all_append,h0];simp[h1]
theorem bG4 (h:i<l.length)(h1:eY l[i]=false):l.all eY=false:=by
 rw[List.all_eq_false];exact⟨_,List.getElem_mem h,by simp[h1]⟩
theorem pQ {l:List Dig}(h:i<l.length):(l.take (i+1)).map lW=(l.take i).map lW++[lW l[i]]:=by
 rw[List.take_succ_eq_append_getElem h,List.map_append];rfl
def zK (x:Ln):List (List aG):=if cU x then dV x else []
theorem lines_ok (x:Ln)(hx:LnW x):sL Tryz.prog 47 tabs [x.cv] (fun u v=>u= .slc ((zK x).map lsC)∧v= .bool (cU x)):=by
 refine cI (args:=[.c x.cv]) Tryz.func47 rfl (by kernel_rfl) (gJ tabs [x.cv]) (Nat.le_of_ble_eq_true rfl) ?_;unfold gE;obtain⟨w1,w2⟩:=cI8 x.k;have hno: ∀{ob:Ob} {r:HV},cU x=false→r= .tup [.c .nils,.c (.bool false)]→ob 0=some (.tab tabs)→iJ 1 r ob (fun r ob'=> ∃u v,r= .tup [.c u,.c v]∧ob'=fob [(0,.tab tabs)]∧(u= .slc ((zK x).map lsC)∧v= .bool (cU x))):=fun {ob r} hf hr h0=>by
  subst hr;exact fK [] (.slc []) (.bool false) (by simp[HV.close,HV.closeL,CV.denil,CV.denilL,HV.norm,HV.toC,HV.toCL]) h0 (by simp) ⟨by rw[zK,hf];rfl,by rw[hf]⟩
 refine R0 ?_;refine aB fun K hK=>dM mixed [(1,[],[]),(2,[],[]),(0,[],[1,2]),(3,[],[]),(4,[],[]),(5,[],[]),(6,[],[]),(7,[],[]),(8,[],[])] [0,0,2,7,15,31,31,63,255] (by kernel_rfl) (by kernel_rfl) (by kernel_rfl) (by kernel_rfl) rfl (by kernel_rfl) ?_;iterate 2 refine WG0 ?_
 refine cF (g:=none) rfl rfl fun K' hK'=>T5 ?_;refine fV [] aS6 rfl trivial (by simp) (by simp) ⟨rfl,rfl,rfl,rfl⟩ (by simp[eH]) (by simp[HV.menL]) ?_;rintro r os' ⟨rfl,rfl⟩;rw[bZ7,bF8];refine AX (hK' _ _ ?_);clear hK' K';refine bO (g:=none) rfl rfl fun K' hK'=>?_;simp only[sN,↓hopH.eq_def,sH,↓sP,sA,tyS,simprocAttr];refine⟨wlK,rfl,cI9,?_⟩;rw[w1,w2];refine AX (hK' _ _ ?_);clear hK' K';iterate 5 refine WG0 ?_
 refine T2 (hK _ _ _ ?_);clear hK K;refine aB fun K hK=>Rg ?_;iterate 2 refine S0 ?_
 refine HS rfl rfl fun K' hK'=>T5 ?_;refine fL (args:=[_]) 0 (aL0 x.n hx.n) rfl (by simp) ⟨rfl,rfl,rfl,rfl⟩ ?_;rintro u v ⟨rfl,rfl⟩;refine AX (hK' _ _ ?_);clear hK' K';iterate 5 refine S0 ?_
 refine T2 (hK _ _ _ ?_);clear hK K;refine aB fun K hK=>?_;refine aB fun K hK=>?_;have key: ∀(b:Bool) fr ob nx,b=lJ x→Fits 1 fr ob (fin [(1,.ptr 1 0),(4,.c (.str (wordK x.k))),(6,.c (.str (fB x.n))),(56,.c (.bool b))]) (fob [(0,.tab tabs),(1,.box 41 (.c x.cv))]) 600→K fr ob nx:=by
  rintro b fr ob nx rfl hf;refine hK _ _ _ (bE hf ?_);clear hf hK K;refine aH (b:=lJ x) rfl (fun hb=>?_) (fun hb=>?_)
  · refine R0 ?_;refine aF (RT Tryz.results47 ?_);exact hno (by rw[rC,hb];rfl) rfl rfl
  have hbad:lJ x=false:=hb;clear hb;refine aK ?_;refine T0 (hK _ _ _ ?_);clear hK K;refine aB fun K hK=>Rg ?_;iterate 4 refine S0 ?_
  refine T2 (hK _ _ _ ?_);clear hK K;refine aB fun K hK=>?_;refine aB fun K hK=>Rg ?_;iterate 4 refine S0 ?_
  refine T2 (hK _ _ _ ?_);clear hK K;refine aN ?_;refine bF (α:={i:Nat//i≤x.f.length∧(x.f.take i).all eY=true}) (fun i=>(fin [(1,.ptr 1 0),(8,.own 608 (2+i.1)),(61,.c (.slc (x.f.map (CV.int .i64)))),(62,.c (.int .i64 x.f.length)),(63,.c (.int .i64 i.1))],fob [(0,.tab tabs),(1,.box 41 (.c x.cv)),(608,.row 9 1 ((wordK x.k::fB x.n::(x.f.take i.1).map fB).map .str))])) 2000 (fun i=>x.f.length-i.1) ⟨0,by omega,by simp⟩ (fF) ?_;rintro⟨i,hi,hall⟩;refine R0 ?_;refine aB fun K hK=>?_;refine aH (b:=decide ((i:Int)<x.f.length)) rfl (fun hb=>?_) (fun hb=>?_)
  ·
   have hlt:i<x.f.length:=by have:=of_decide_eq_true hb;omega
   have hfl:=hx.fl;have hti:(x.f.take i).length=i:=by simp;omega
   clear hb;refine aK ?_;refine T0 (hK _ _ _ ?_);clear hK K;refine aB fun K hK=>?_;refine aN ?_;have F:=aI @Int.natCast_nonneg (aI @Int.ofNat_lt (aI hlt (nM hlt)));refine RF ?_;refine aB fun K hK=>Rg ?_;refine S0 ?_;refine HS rfl rfl fun K' hK'=>T5 ?_;refine fL (args:=[_]) 0 (aL0 x.f[i] (hx.f _ (List.getElem_mem hlt))) rfl (by simp) ⟨rfl,rfl,rfl,rfl⟩ ?_;rintro u v ⟨rfl,rfl⟩;refine AX (hK' _ _ ?_);clear hK' K';iterate 5 refine S0 ?_
   refine T2 (hK _ _ _ ?_);clear hK K;refine aB fun K hK=>?_;refine R0 ?_;refine aH (b:=!eY x.f[i]) rfl (fun hb=>?_) (fun hb=>?_)
   · refine R0 ?_;refine aF (RT Tryz.results47 ?_);exact hno (by rw[rC,bG4 hlt (by simpa using hb),Bool.and_false]) rfl rfl
   have h40:eY x.f[i]=true:=by simpa using hb
   clear hb;refine aK ?_;refine T0 (hK _ _ _ ?_);clear hK K;refine Rg ?_;have F:=aI @List.length_cons.{0} (aI @List.length_map.{0,0} hti);iterate 5 refine SF ?_
   refine T2 (hK _ _ _ ?_);clear hK K;refine aD (by kernel_rfl) ?_;refine TQ (fA i) ?_;have hmn:min i x.f.length+1+1+1=2+(i+1):=by omega
   refine⟨⟨i+1,by omega,all_take hlt hall h40⟩,(aM (by omega) (by simp[aW,fin_at,finA_at,upd_at,HV.men,HV.menL,HV.norm,HV.toC,HV.toCL,lK hlt,List.map_append,hti,hmn]) (by simp[aX,fob_at,upd_at,none0_at,bT,HO.men,HV.men,HV.menL,HV.norm,HV.toC,HV.toCL,lK hlt,List.map_append,hti,hmn])),?_⟩;show x.f.length-(i+1)<x.f.length-i;omega
  have hie:i=x.f.length:=by have:=of_decide_eq_false hb;omega
  subst hie;rw[List.take_length]at hall;clear hb;have hfine:cU x=true:=by rw[rC,hbad,hall];rfl
  refine bA (T3 ?_);clear hK K;refine AX (hK _ _ _ ?_);clear hK K;have hfl2:2+x.f.length=x.f.length+1+1:=by omega
  refine cR [608] (bE (fr2:=fin [(1,.ptr 1 0),(8,.c (lsC (firstL x)))]) (ob2:=fob [(0,.tab tabs),(1,.box 41 (.c x.cv))]) (nx2:=3000) (aM (by omega) (by simp[aW,dA,fin_at,finA_at,upd_at,fob_at,HV.close,HV.closeL,CV.denil,CV.denilL,denilL_str,hfl2,lsC,firstL,HV.men,HV.menL,HV.norm,HV.toC,HV.toCL]) (by simp[aX,dL,fob_at,upd_at,none0_at,bT,HO.close,HV.close,HV.closeL,Ln.denil,HO.men,HV.men,HV.menL,HV.norm,HV.toC,HV.toCL])) ?_);refine R0 ?_;refine aB fun K hK=>?_;refine aB fun K hK=>Rg ?_;iterate 4 refine S0 ?_
  refine T2 (hK _ _ _ ?_);clear hK K;refine aN ?_;refine bF (α:={i:Nat//i≤x.d.length}) (fun i=>(fin [(13,.own 3004 (1+i.1)),(82,.c (.slc (x.d.map dg))),(83,.c (.int .i64 x.d.length)),(84,.c (.int .i64 i.1))],fob [(0,.tab tabs),(3004,.row 71 1 ((firstL x::(x.d.take i.1).map lW).map lsC))])) 5000 (fun i=>x.d.length-i.1) ⟨0,by omega⟩ (aM (by omega) (by simp[aW,fin_at,finA_at,upd_at,HV.men,HV.menL,HV.norm,HV.toC,HV.toCL,mI]) (by simp[aX,fob_at,upd_at,none0_at,bT,HO.men,HV.men,HV.menL,HV.norm,HV.toC,HV.toCL,mI])) ?_;rintro⟨i,hi⟩;refine R0 ?_;refine aB fun K hK=>?_;refine aH (b:=decide ((i:Int)<x.d.length)) rfl (fun hb=>?_) (fun hb=>?_)
  ·
   have hlt:i<x.d.length:=by have:=of_decide_eq_true hb;omega
   have hdl:=hx.dl;have hti:(x.d.take i).length=i:=by simp;omega
   clear hb;refine aK ?_;refine T0 (hK _ _ _ ?_);clear hK K;refine aB fun K hK=>?_;refine aN ?_;refine aB fun K hK=>Rg ?_;have F:=aI @Int.natCast_nonneg (aI @Int.ofNat_lt (aI hlt (nM hlt)));iterate 4 refine SF ?_
   refine T2 (hK _ _ _ ?_);clear hK K;refine bY (by kernel_rfl) ?_;simp only[sR,simprocAttr];have F:=aI @List.length_cons.{0} (aI @List.length_map.{0,0} hti);iterate 2 refine SGF ?_
   refine aZ (g:=none) rfl rfl fun K' hK'=>T6 ?_;refine C1 (xA x.d[i]) ?_;rintro u rfl;refine AX (hK' _ _ ?_);clear hK' K';refine eB (g:=none) 5032 rfl rfl fun K' hK'=>?_;simp only[iT,kW,sH,↓sP,sA,tyS,simprocAttr,List.length_cons,List.length_map,hti];repeat refine AI ?_
   refine dO (by first|rfl|simp) ?_;try simp only[sH,↓sP,sA,tyS,simprocAttr,List.length_cons,List.length_map,hti]
   refine AX (hK' _ _ ?_);clear hK' K';iterate 3 refine SGF ?_
   refine T2 (hK _ _ _ ?_);clear hK K;refine aD (by kernel_rfl) ?_;refine TQ (fA i) ?_;have hmn2:min i x.d.length+1+1=1+(i+1):=by omega
   refine⟨⟨i+1,by omega⟩,(aM (by omega) (by simp[aW,fin_at,finA_at,upd_at,HV.men,HV.menL,HV.norm,HV.toC,HV.toCL,pQ hlt,List.map_append,hti,lW,lsC,jW,hmn2]) (by simp[aX,fob_at,upd_at,none0_at,bT,HO.men,HV.men,HV.menL,HV.norm,HV.toC,HV.toCL,pQ hlt,List.map_append,hti,lW,lsC,jW,hmn2])),?_⟩;show x.d.length-(i+1)<x.d.length-i;omega
  have hie:i=x.d.length:=by have:=of_decide_eq_false hb;omega
  subst hie;clear hb;refine bA (T3 ?_);clear hK K;refine AX (hK _ _ _ ?_);clear hK K;refine R0 ?_;refine aF (RT Tryz.results47 ?_);have hdl2:1+x.d.length=x.d.length+1:=by omega
  rw[List.take_length];refine fK [3004] (.slc ((dV x).map lsC)) (.bool true) ?_ rfl (by simp) ⟨by rw[zK,if_pos hfine],by rw[hfine]⟩;simp[HV.close,HV.closeL,fob_at,upd_at,CV.denil,HV.norm,HV.toC,HV.toCL,dV,hdl2]
 refine Rg ?_;have F:=@List.length_map.{0,0};iterate 3 refine SF ?_
 refine aL 29 rfl (fun h3_29=>?_) (fun h3_29=>?_)
 ·
  have F:=aI @List.length_map.{0,0} h3_29;iterate 4 refine SF ?_
  refine aL 32 rfl (fun h3_32=>?_) (fun h3_32=>?_)
  ·
   have F:=aI @List.length_map.{0,0} (aI h3_29 h3_32);iterate 4 refine SF ?_
   refine aL 38 rfl (fun h3_38=>?_) (fun h3_38=>?_)
   ·
    have F:=aI @List.length_map.{0,0} (aI h3_29 (aI h3_32 h3_38));iterate 7 refine SF ?_
    refine aL 43 rfl (fun h3_43=>?_) (fun h3_43=>?_)
    ·
     have F:=aI @List.length_map.{0,0} (aI h3_29 (aI h3_32 (aI h3_38 h3_43)));iterate 10 refine SF ?_
     refine T4 ?_;exact key true _ _ _ (by first|(simp only[lJ,h3_29,h3_32,h3_38,h3_43,Bool.not_true,Bool.not_false,Bool.true_or,Bool.false_or,Bool.true_and,Bool.false_and];done)|(exfalso;first|exact kk1 (by assumption) (by assumption)|exact kk2 (by assumption) (by assumption))) (fF)
    have F:=aI @List.length_map.{0,0} (aI h3_29 (aI h3_32 (aI h3_38 h3_43)));iterate 4 refine SF ?_
    refine aL 49 rfl (fun h3_49=>?_) (fun h3_49=>?_)
    ·
     have F:=aI @List.length_map.{0,0} (aI h3_29 (aI h3_32 (aI h3_38 (aI h3_43 h3_49))));iterate 6 refine SF ?_
     refine aL 54 rfl (fun h3_54=>?_) (fun h3_54=>?_)
     · simp only[h3_54];refine T4 ?_;exact key true _ _ _ (by first|(simp only[lJ,h3_29,h3_32,h3_38,h3_43,h3_49,h3_54,Bool.not_true,Bool.not_false,Bool.true_or,Bool.false_or,Bool.true_and,Bool.false_and];done)|(exfalso;first|exact kk1 (by assumption) (by assumption)|exact kk2 (by assumption) (by assumption))) (fF)
     simp only[h3_54];refine T4 ?_;exact key false _ _ _ (by first|(simp only[lJ,h3_29,h3_32,h3_38,h3_43,h3_49,h3_54,Bool.not_true,Bool.not_false,Bool.true_or,Bool.false_or,Bool.true_and,Bool.false_and];done)|(exfalso;first|exact kk1 (by assumption) (by assumption)|exact kk2 (by assumption) (by assumption))) (fF)
    have F:=aI @List.length_map.{0,0} (aI h3_29 (aI h3_32 (aI h3_38 (aI h3_43 h3_49))));iterate 6 refine SF ?_
    refine T4 ?_;exact key false _ _ _ (by first|(simp only[lJ,h3_29,h3_32,h3_38,h3_43,h3_49,Bool.not_true,Bool.not_false,Bool.true_or,Bool.false_or,Bool.true_and,Bool.false_and];done)|(exfalso;first|exact kk1 (by assumption) (by assumption)|exact kk2 (by assumption) (by assumption))) (fF)
   have F:=aI @List.length_map.{0,0} (aI h3_29 (aI h3_32 h3_38));iterate 11 refine SF ?_
   refine aL 49 rfl (fun h3_49=>?_) (fun h3_49=>?_)
   ·
    have F:=aI @List.length_map.{0,0} (aI h3_29 (aI h3_32 (aI h3_38 h3_49)));iterate 6 refine SF ?_
    refine aL 54 rfl (fun h3_54=>?_) (fun h3_54=>?_)
    · simp only[h3_54];refine T4 ?_;exact key true _ _ _ (by first|(simp only[lJ,h3_29,h3_32,h3_38,h3_49,h3_54,Bool.not_true,Bool.not_false,Bool.true_or,Bool.false_or,Bool.true_and,Bool.false_and];done)|(exfalso;first|exact kk1 (by assumption) (by assumption)|exact kk2 (by assumption) (by assumption))) (fF)
    simp only[h3_54];refine T4 ?_;exact key false _ _ _ (by first|(simp only[lJ,h3_29,h3_32,h3_38,h3_49,h3_54,Bool.not_true,Bool.not_false,Bool.true_or,Bool.false_or,Bool.true_and,Bool.false_and];done)|(exfalso;first|exact kk1 (by assumption) (by assumption)|exact kk2 (by assumption) (by assumption))) (fF)
   have F:=aI @List.length_map.{0,0} (aI h3_29 (aI h3_32 (aI h3_38 h3_49)));iterate 6 refine SF ?_
   refine T4 ?_;exact key false _ _ _ (by first|(simp only[lJ,h3_29,h3_32,h3_38,h3_49,Bool.not_true,Bool.not_false,Bool.true_or,Bool.false_or,Bool.true_and,Bool.false_and];done)|(exfalso;first|exact kk1 (by assumption) (by assumption)|exact kk2 (by assumption) (by assumption))) (fF)
  have F:=aI @List.length_map.{0,0} (aI h3_29 h3_32);iterate 21 refine SF ?_
  refine T4 ?_;exact key true _ _ _ (by first|(simp only[lJ,h3_29,h3_32,Bool.not_true,Bool.not_false,Bool.true_or,Bool.false_or,Bool.true_and,Bool.false_and];done)|(exfalso;first|exact kk1 (by assumption) (by assumption)|exact kk2 (by assumption) (by assumption))) (fF)
 have F:=aI @List.length_map.{0,0} h3_29;iterate 25 refine SF ?_
 refine T4 ?_;exact key true _ _ _ (by first|(simp only[lJ,h3_29,Bool.not_true,Bool.not_false,Bool.true_or,Bool.false_or,Bool.true_and,Bool.false_and];done)|(exfalso;first|exact kk1 (by assumption) (by assumption)|exact kk2 (by assumption) (by assumption))) (fF)
section
variable (x:Dv)
theorem qB :CV.getAt 0 1 false x.cv=some (.str x.q.n):=by simp[Dv.cv,Qs.cv,Og.cv,CV.getAt,CV.getAtL,CV.cells,CV.cellsL,dg_cells,dg_getAt]
theorem qC :CV.getAt 1 1 false x.cv=some (.str x.q.i):=by simp[Dv.cv,Qs.cv,Og.cv,CV.getAt,CV.getAtL,CV.cells,CV.cellsL,dg_cells,dg_getAt]
theorem qD :CV.getAt 2 32 true x.cv=some (dg x.q.a):=by simp[Dv.cv,Qs.cv,Og.cv,CV.getAt,CV.getAtL,CV.cells,CV.cellsL,dg_cells,dg_getAt]
theorem qE :CV.getAt 68 32 true x.cv=some (dg x.o.v):=by simp[Dv.cv,Qs.cv,Og.cv,CV.getAt,CV.getAtL,CV.cells,CV.cellsL,dg_cells,dg_getAt]
theorem qF :CV.getAt 100 1 false x.cv=some (.str x.o.l):=by simp[Dv.cv,Qs.cv,Og.cv,CV.getAt,CV.getAtL,CV.cells,CV.cellsL,dg_cells,dg_getAt]
theorem qG :CV.getAt 101 1 false x.cv=some (.str x.o.r):=by simp[Dv.cv,Qs.cv,Og.cv,CV.getAt,CV.getAtL,CV.cells,CV.cellsL,dg_cells,dg_getAt]
end
structure DvW (d:Dv):Prop where
 t:I64 d.t
 r:I64 d.r
 l: ∀x∈d.l,LnW x
 len:(iZ d).length<2^38
 ll:d.l.length<2^38
variable {d:Dv}
theorem cA7 (h:DvW d): ∀l∈iZ d,l.length<2^40:=fun l hl=>by
 rcases List.mem_append.1 hl with hl|hl
 · simp only[lG,List.mem_cons,List.not_mem_nil,or_false]at hl;rcases hl with rfl|rfl<;>simp
 obtain⟨x,hx,hl⟩:=List.mem_flatMap.1 hl;have:=(h.l x hx).fl;rcases List.mem_cons.1 hl with rfl|hl
 · simp only[firstL,List.length_cons,List.length_map];omega
 obtain⟨a,_,rfl⟩:=List.mem_map.1 hl;simp[lW]
def tO (d:Dv):Bool:=(!eY d.r||decide (d.t<0))||decide (d.t>1099511627776)
theorem rD :jQ d=(!tO d&&d.l.all cU):=by
 have e:eY d.t=(!decide (d.t<0)&&!decide (d.t>1099511627776)):=by
  simp only[eY,inB,←decide_not];rw[Bool.eq_iff_iff];simp
 unfold jQ tO;rw[e];cases eY d.r<;>cases decide (d.t<0)<;>cases decide (d.t>1099511627776)<;>simp
def dvT (d:Dv)(i:Nat):List (List aG):=lG d++(d.l.take i).flatMap dV
theorem bG5 (d:Dv):dvT d d.l.length=iZ d:=by rw[dvT,List.take_length];rfl
theorem mK (h:i<d.l.length):dvT d (i+1)=dvT d i++dV d.l[i]:=by
 rw[dvT,List.take_succ_eq_append_getElem h,List.flatMap_append,dvT,List.append_assoc];simp
theorem cA8 (d:Dv)(i:Nat):(dvT d i).length≤(iZ d).length:=by
 have h1:iZ d=dvT d i++(d.l.drop i).flatMap dV:=by
  rw[dvT,List.append_assoc,←List.flatMap_append,List.take_append_drop];rfl
 rw[h1,List.length_append];omega
theorem bO4 {l:List Ln}(h:i<l.length)(h0:(l.take i).all cU=true)(h1:cU l[i]=true):(l.take (i+1)).all cU=true:=by
 rw[List.take_succ_eq_append_getElem h,List.all_append,h0];simp[h1]
theorem aT2 (d:Dv)(hd:DvW d):sL Tryz.prog 21 tabs [d.cv] (fun u v=>u= .slc ((dvO d).map dG)∧v= .int .i64 (dvE d)):=by
 refine cI (args:=[.c d.cv]) Tryz.func21 rfl (by kernel_rfl) (gJ tabs [d.cv]) (Nat.le_of_ble_eq_true rfl) ?_;unfold gE;have hno: ∀{ob:Ob} {r:HV},jQ d=false→r= .tup [.c .nils,.c (.int .i64 1)]→ob 0=some (.tab tabs)→iJ 1 r ob (fun r ob'=> ∃u v,r= .tup [.c u,.c v]∧ob'=fob [(0,.tab tabs)]∧(u= .slc ((dvO d).map dG)∧v= .int .i64 (dvE d))):=fun {ob r} hf hr h0=>by
  subst hr;exact fK [] (.slc []) (.int .i64 1) (by simp[HV.close,HV.closeL,CV.denil,CV.denilL,HV.norm,HV.toC,HV.toCL]) h0 (by simp) ⟨by rw[dvO,hf];rfl,by rw[dvE,hf];rfl⟩
 refine R0 ?_;refine aB fun K hK=>Rg ?_;iterate 2 refine S0 ?_
 refine HS rfl rfl fun K' hK'=>T5 ?_;refine fL (args:=[_]) 0 (aL0 d.r hd.r) rfl (by simp) ⟨rfl,rfl,rfl,rfl⟩ ?_;rintro u v ⟨rfl,rfl⟩;refine AX (hK' _ _ ?_);clear hK' K';iterate 5 refine S0 ?_
 refine T2 (hK _ _ _ ?_);clear hK K;refine aB fun K hK=>?_;refine aB fun K hK=>?_;have key: ∀(b:Bool) fr ob nx,b=tO d→Fits 1 fr ob (fin [(1,.ptr 1 0),(4,.c (.str (fB d.r))),(28,.c (.bool b))]) (fob [(0,.tab tabs),(1,.box 50 (.c d.cv))]) 600→K fr ob nx:=by
  rintro b fr ob nx rfl hf;refine hK _ _ _ (bE hf ?_);clear hf hK K;refine aH (b:=tO d) rfl (fun hb=>?_) (fun hb=>?_)
  · refine R0 ?_;refine aF (RT Tryz.results21 ?_);exact hno (by rw[rD,hb];rfl) rfl rfl
  have hbad:tO d=false:=hb;clear hb;refine aK ?_;refine T0 (hK _ _ _ ?_);clear hK K;refine aB fun K hK=>dM mixed [(0,[],[]),(1,[],[]),(2,[],[]),(3,[],[]),(4,[],[]),(5,[],[]),(6,[],[]),(7,[],[]),(8,[],[]),(10,[],[]),(11,[],[]),(13,[],[]),(14,[],[]),(16,[],[]),(18,[],[]),(19,[],[]),(20,[],[]),(22,[],[]),(23,[],[]),(24,[],[]),(25,[],[]),(26,[],[]),(27,[],[]),(9,[],[0,1,2,3,4,5,10,11,13,14,16,18,19,20,22,23,24,25,26,27]),(12,[],[0,1,2,3,4,5,13,14,16,18,19,20,22,23,24,25,26,27]),(15,[],[0,1,2,3,4,5,16,18,19,20,22,23,24,25,26,27]),(17,[],[]),(21,[17],[0,1,2,3,4,5,16,22,23,24,25,26,27,17]),(28,[17],[]),(29,[],[]),(30,[],[])] [0,1,3,0,8,24,0,64,192,448,0,1024,4032,0,8192,32704,0,131071,0,262144,786432,1900480,0,4194304,12582912,0,33554432,100663296,268238784,536870911,1073741823] (by kernel_rfl) (by kernel_rfl) (by kernel_rfl) (by kernel_rfl) rfl (by kernel_rfl) ?_;have F:=aI @qB (aI @qC (aI @qD (aI @qE (aI @qF @qG))));iterate 23 refine WGF ?_
  refine cF (g:=none) rfl rfl fun K' hK'=>T6 ?_;refine C1 (xA d.q.a) ?_;rintro u rfl;refine AX (hK' _ _ ?_);clear hK' K';refine cF (g:=none) rfl rfl fun K' hK'=>T6 ?_;refine kM (args:=[_]) 0 (bZ3 d.t hd.t) rfl (by simp) ⟨rfl,rfl,rfl,rfl⟩ ?_;rintro u rfl;refine AX (hK' _ _ ?_);clear hK' K';refine cF (g:=none) rfl rfl fun K' hK'=>T6 ?_;refine C1 (xA d.p) ?_;rintro u rfl;refine AX (hK' _ _ ?_);clear hK' K';refine gV (g:=none) 668 rfl rfl fun K' hK'=>?_;simp only[iT,kW,sH,↓sP,sA,tyS,simprocAttr,qB,qC,qD,qE,qF,qG];repeat refine AI ?_
  refine dO (by first|rfl|simp) ?_;try simp only[sH,↓sP,sA,tyS,simprocAttr,qB,qC,qD,qE,qF,qG]
  refine AX (hK' _ _ ?_);clear hK' K';refine cF (g:=none) rfl rfl fun K' hK'=>T6 ?_;refine C1 (xA d.o.v) ?_;rintro u rfl;refine AX (hK' _ _ ?_);clear hK' K';refine gV (g:=none) 712 rfl rfl fun K' hK'=>?_;simp only[iT,kW,sH,↓sP,sA,tyS,simprocAttr,qB,qC,qD,qE,qF,qG];repeat refine AI ?_
  refine dO (by first|rfl|simp) ?_;try simp only[sH,↓sP,sA,tyS,simprocAttr,qB,qC,qD,qE,qF,qG]
  refine AX (hK' _ _ ?_);clear hK' K';iterate 2 refine WGF ?_
  refine T2 (hK _ _ _ ?_);clear hK K;refine aB fun K hK=>?_;refine aB fun K hK=>Rg ?_;iterate 4 refine S0 ?_
  refine T2 (hK _ _ _ ?_);clear hK K;refine aN ?_;refine bF (α:={i:Nat//i≤d.l.length∧(d.l.take i).all cU=true}) (fun i=>(fin [(6,.own 716 (dvT d i.1).length),(60,.c (.slc (d.l.map Ln.cv))),(61,.c (.int .i64 d.l.length)),(62,.c (.int .i64 i.1))],fob [(0,.tab tabs),(716,.row 71 1 ((dvT d i.1).map lsC))])) 2000 (fun i=>d.l.length-i.1) ⟨0,by omega,by simp⟩ (aM (by omega) (by simp[aW,fin_at,finA_at,upd_at,HV.men,HV.menL,HV.norm,HV.toC,HV.toCL,dvT,lG,lsC,wDer,wOrg]) (by simp[aX,fob_at,upd_at,none0_at,bT,HO.men,HV.men,HV.menL,HV.norm,HV.toC,HV.toCL,dvT,lG,lsC,wDer,wOrg])) ?_;rintro⟨i,hi,hall⟩;refine R0 ?_;refine aB fun K hK=>?_;refine aH (b:=decide ((i:Int)<d.l.length)) rfl (fun hb=>?_) (fun hb=>?_)
  ·
   have hlt:i<d.l.length:=by have:=of_decide_eq_true hb;omega
   have hll:=hd.ll;have hle:=cA8 d (i+1);have hlen:=hd.len;rw[mK hlt,List.length_append]at hle;clear hb;refine aK ?_;refine T0 (hK _ _ _ ?_);clear hK K;refine aB fun K hK=>?_;refine aN ?_;refine aB fun K hK=>Rg ?_;have F:=aI @Int.natCast_nonneg (aI @Int.ofNat_lt (aI hlt (nM hlt)));iterate 4 refine SF ?_
   refine T2 (hK _ _ _ ?_);clear hK K;refine aB fun K hK=>Rg ?_;refine S0 ?_;refine HS rfl rfl fun K' hK'=>T5 ?_;refine fL (args:=[_]) 0 (lines_ok d.l[i] (hd.l _ (List.getElem_mem hlt))) rfl (by simp) ⟨rfl,rfl,rfl,rfl⟩ ?_;rintro u v ⟨rfl,rfl⟩;refine AX (hK' _ _ ?_);clear hK' K';iterate 5 refine S0 ?_
   refine T2 (hK _ _ _ ?_);clear hK K;refine aB fun K hK=>?_;refine R0 ?_;refine aH (b:=!cU d.l[i]) rfl (fun hb=>?_) (fun hb=>?_)
   · refine R0 ?_;refine aF (RT Tryz.results21 ?_);exact hno (by rw[rD,List.all_eq_false.2 ⟨_,List.getElem_mem hlt,by simpa using hb⟩,Bool.and_false]) rfl rfl
   have hfl:cU d.l[i]=true:=by simpa using hb
   clear hb;have hlv:zK d.l[i]=dV d.l[i]:=if_pos hfl;rw[hlv];have hcl:(∀v∈(dV d.l[i]).map lsC,v.cells=1)=True:=eq_true fun v hv=>by
    obtain⟨y,_,rfl⟩:=List.mem_map.1 hv;rfl
   refine aK ?_;refine T0 (hK _ _ _ ?_);clear hK K;refine Rg ?_;have F:=aI @List.length_map.{0,0} hcl;iterate 4 refine SF ?_
   refine T2 (hK _ _ _ ?_);clear hK K;refine aD (by kernel_rfl) ?_;refine TQ (fA i) ?_;refine⟨⟨i+1,by omega,bO4 hlt hall hfl⟩,(aM (by omega) (by simp[aW,fin_at,finA_at,upd_at,HV.men,HV.menL,HV.norm,HV.toC,HV.toCL,mK hlt,List.map_append,List.length_append]) (by simp[aX,fob_at,upd_at,none0_at,bT,HO.men,HV.men,HV.menL,HV.norm,HV.toC,HV.toCL,mK hlt,List.map_append,List.length_append])),?_⟩;show d.l.length-(i+1)<d.l.length-i;omega
  have hie:i=d.l.length:=by have:=of_decide_eq_false hb;omega
  subst hie;rw[List.take_length]at hall;clear hb;rw[bG5];have hfine:jQ d=true:=by rw[rD,hbad,hall];rfl
  have hlen:=hd.len;refine bA (T3 ?_);clear hK K;refine AX (hK _ _ _ ?_);clear hK K;refine cR [716] (bE (fr2:=fin [(6,.c (.slc ((iZ d).map lsC)))]) (ob2:=fob [(0,.tab tabs)]) (nx2:=3000) (aM (by omega) (by simp[aW,dA,fin_at,finA_at,upd_at,fob_at,HV.close,HV.closeL,CV.denil,CV.denilL,dE,HV.men,HV.menL,HV.norm,HV.toC,HV.toCL]) (by simp[aX,dL,fob_at,upd_at,none0_at,bT,HO.close,HV.close,HV.closeL,HO.men,HV.men,HV.menL,HV.norm,HV.toC,HV.toCL])) ?_);refine aB fun K hK=>Rg ?_;have F:=@dE;refine SF ?_;refine HS rfl rfl fun K' hK'=>T6 ?_;refine D1 (cR0 (iZ d) (by omega) (cA7 hd)) ?_;rintro u v ⟨rfl,rfl⟩;refine AX (hK' _ _ ?_);clear hK' K';iterate 4 refine SF ?_
  refine T2 (hK _ _ _ ?_);clear hK K;refine aF (RT Tryz.results21 ?_);exact fK [] (.slc ((sW (iZ d)).map dG)) (.int .i64 (kY (iZ d))) (by simp[HV.close,HV.closeL,CV.denil,CV.denilL,bU,HV.norm,HV.toC,HV.toCL]) rfl (by simp) ⟨by rw[dvO,if_pos hfine],by rw[dvE,if_pos hfine]⟩
 refine Rg ?_;iterate 3 refine S0 ?_
 refine aL 17 rfl (fun h2_17=>?_) (fun h2_17=>?_)
 ·
  have F:=h2_17;iterate 5 refine SF ?_
  refine aL 22 rfl (fun h2_22=>?_) (fun h2_22=>?_)
  ·
   have F:=aI h2_17 h2_22;iterate 4 refine SF ?_
   refine T4 ?_;exact key true _ _ _ (by simp only[tO,h2_17,h2_22,Bool.not_true,Bool.not_false,Bool.true_or,Bool.false_or]) (fF)
  have F:=aI h2_17 h2_22;iterate 4 refine SF ?_
  refine aL 27 rfl (fun h2_27=>?_) (fun h2_27=>?_)
  · simp only[h2_27];refine T4 ?_;exact key true _ _ _ (by simp only[tO,h2_17,h2_22,h2_27,Bool.not_true,Bool.not_false,Bool.true_or,Bool.false_or]) (fF)
  simp only[h2_27];refine T4 ?_;exact key false _ _ _ (by simp only[tO,h2_17,h2_22,h2_27,Bool.not_true,Bool.not_false,Bool.true_or,Bool.false_or]) (fF)
 have F:=h2_17;iterate 9 refine SF ?_
 refine T4 ?_;exact key true _ _ _ (by simp only[tO,h2_17,Bool.not_true,Bool.not_false,Bool.true_or,Bool.false_or]) (fF)
end Go.Proofs.YthedbjfipmkpiaaGreatDoor
namespace Go.Pl
open Go Go.Hl
def aT3 (L:List Ln):List Int:=L.flatMap Ln.f
structure Blk (o:Nat)(L:List Ln)(F:List Int)(a b:Nat):Prop where
 node: ∀x∈L,(a:Int)≤x.n∧x.n<b
 dist:(L.map Ln.n).Nodup
 kind: ∀x∈L,x.k≠5
 back: ∀p (h:p<L.length),∀n∈L[p].f,(o:Int)≤n∧n<o+p
 free: ∀n∈F,(o:Int)≤n∧n<o+L.length
 size:(aT3 L).length+F.length=L.length
 once: ∀n:Int,(aT3 L++F).count n=if(o:Int)≤n∧n<o+L.length then 1 else 0
theorem Blk.nil (o a:Nat):Blk o [] [] a a:=⟨by simp,by simp,by simp,by simp,by simp,by simp[aT3],fun n=>by simp[aT3]⟩
variable {a:Nat}
theorem Blk.wide {o:Nat}{L:List Ln}{F:List Int}{b c:Nat}(h:Blk o L F a b)(hc:b≤c):Blk o L F a c:=
 ⟨fun x hx=>by have:=h.node x hx;omega,h.dist,h.kind,h.back,h.free,h.size,h.once⟩
structure NeedsV (X:List Ln):Prop where
 pos:0<X.length
 last:(X.getLast?.map Ln.k)=some 5
 back: ∀p (h:p<X.length),∀n∈X[p].f,0≤n∧n<p
 dist: ∀p (h:p<X.length),X[p].k≠5→ ∀q (h':q<p),X[q].n≠X[p].n
 size:(aT3 X).length<X.length
 once: ∀p:Nat,p+1<X.length→(aT3 X).count (p:Int)=1
variable {j:Nat}
theorem aT4 {l:List Nd}(hj:j<l.length)(hk:l[j].k=1):(eG 0 l)[lv (l.take j)]? =some j:=by
 have e:eG 0 l=eG 0 (l.take j)++eG j (l.drop j):=by
  conv=>lhs;rw[←List.take_append_drop j l,mZ]
  rw[Nat.zero_add,List.length_take,Nat.min_eq_left (by omega)]
 rw[e,List.getElem?_append_right (by rw[iO];exact Nat.le_refl _),iO,Nat.sub_self,List.drop_eq_getElem_cons hj,eG,if_pos hk];rfl
theorem aT5 : ∀(l:List Nd) (o:Nat),(eG o l).Pairwise (· <·)∧ ∀x∈eG o l,o≤x
 |[],o=>by simp[eG]
 |n::l,o=>by
  have h:=aT5 l (o+1);rw[eG];split
  ·
   refine⟨List.pairwise_cons.2 ⟨fun x hx=>?_,h.1⟩,fun x hx=>?_⟩
   · have:=h.2 x hx;omega
   ·
    rcases List.mem_cons.1 hx with rfl|hx
    · omega
    · have:=h.2 x hx;omega
  · exact⟨h.1,fun x hx=>by have:=h.2 x hx;omega⟩
variable {k:Nat}
theorem bO5 {l:List Nd}(hj:j<l.length)(hk:l[j].k=1)(h:(eG 0 l)[k]? =some j):k=lv (l.take j):=by
 have h1:=aT4 hj hk;obtain⟨a1,a2⟩:=List.getElem?_eq_some_iff.1 h;obtain⟨b1,b2⟩:=List.getElem?_eq_some_iff.1 h1;have hp:=List.pairwise_iff_getElem.1 (aT5 l 0).1;rcases Nat.lt_trichotomy k (lv (l.take j))with h2|h2|h2
 · have:=hp _ _ a1 b1 h2;omega
 · exact h2
 · have:=hp _ _ b1 a1 h2;omega
theorem zL {P:Nat→List Ln→List Ln}{v:Nat→Bool}{w:Nat}(hP: ∀j out,∃L,P j out=out++L): ∀(ks:List Nat) (st:List Ln×List Int),∃L,(ks.foldl (wT P v w) st).1=st.1++L
 |[],st=>⟨[],by simp⟩
 |k::ks,st=>by
  obtain⟨L,h⟩:=zL (v:=v) (w:=w) hP ks (wT P v w st k);obtain⟨M,g⟩:=hP k st.1;rw[List.foldl_cons,h,wT];split
  · exact⟨M++L,by simp only;rw[g,List.append_assoc]⟩
  · exact⟨L,rfl⟩
theorem bG6 (l:List Nd)(S:List Sp): ∀(f i:Nat) (out:List Ln),∃L,prv l S f i out=out++L
 |0,_,out=>⟨[],by simp[prv]⟩
 |f+1,i,out=>by
  rw[prv];split
  · exact⟨_,rfl⟩
  · obtain⟨L,h⟩:=zL (v:=fJ l (eD S)) (w:=wantN (l.getD i nd0)) (fun j o=>bG6 l S f j o) (aJ4 l i) (out,[]);simp only at h⊢;rw[h];exact⟨L++_,by rw[List.append_assoc]⟩
theorem cA9 (l:List Nd)(S:List Sp)(f i j:Nat)(out:List Ln): ∃L,(pU l S f i j out).1=out++L:=
 zL (fun j o=>bG6 l S f j o) _ _
def dws (l:List Dig):List aG:=l.map Subtype.val
theorem jY (l:List Dig):(dws l).length=l.length:=List.length_map _
theorem aL2 (l:List Dig)(i:Nat)(h:i<(dws l).length):(dws l)[i]=(l[i]'(by rwa [jY]at h)).1:=by simp[dws]
theorem oU (l:List Dig)(i:Nat):dws (l.take i)=(dws l).take i:=List.map_take
theorem bA5 (a b:List Dig):dws (a++b)=dws a++dws b:=List.map_append
variable {l:List Dig}
theorem aL3 (h:k<l.length):((dws l)[k]'(by rwa [jY])==(dws l)[k-1]'(by rw[jY];omega))=(l[k]==l[k-1]):=by
 rw[aL2,aL2,Bool.eq_iff_iff,beq_iff_eq,beq_iff_eq,Subtype.ext_iff]
theorem cK1 (h0:1≤k)(h:k<l.length)(hne:(l[k]==l[k-1])=false)(hd:cN (dws (l.take k))=dws (l.take k)):cN (dws (l.take (k+1)))=dws (l.take (k+1)):=by
 rw[oU]at hd⊢;exact bA0 h0 (by rwa [jY]) (by rw[aL3 h];exact hne) hd
theorem bG7 (h0:1≤k)(h:k<l.length)(he:(l[k]==l[k-1])=true):cN (dws (l.take (k+1)))=cN (dws (l.take k)):=by
 rw[oU,oU];exact bA1 h0 (by rwa [jY]) (by rw[aL3 h];exact he)
variable {i:Nat}
theorem cR5 {r:List Dig}(h0:1≤k)(h:k<l.length)(hne:(l[k]==l[k-1])=false)(hi:i<r.length)(hr:dws (r.take i)=cN (dws (l.take k))):dws ((r.set i l[k]).take (i+1))=cN (dws (l.take (k+1))):=by
 rw[oU l,bM7 h0 (by rwa [jY]) (by rw[aL3 h];exact hne),←oU,←hr,aL2];rw[List.take_succ_eq_append_getElem (by simpa using hi),List.take_set_of_le (Nat.le_refl _),bA5];simp[dws]
def fZ (X:List Ln):List Dig:=X.flatMap Ln.d
def cB0 (X:List Ln):List aG:=bK1 (dws (fZ X))
theorem bO6 {s:List Dig}(hp:s.Perm l)(hs:s.Pairwise fun a b=>slt b.1 a.1=false):cN (dws s)=bK1 (dws l):=by
 refine aZ9 ?_ fun w=>?_
 · unfold dws;rw[List.pairwise_map];refine hs.imp fun {a b} h=>?_;rw[←List.not_lt,←wY];simpa using h
 · unfold dws;exact(hp.map _).mem_iff
theorem bG8 {x:Ln}(h:cU x=true):(wordK x.k).length≤7∧(∀n∈x.n::x.f,0≤n∧n≤1099511627776):=by
 simp only[cU,Bool.and_eq_true,inB,decide_eq_true_eq]at h;obtain⟨⟨⟨h1,h2⟩,h3⟩,h4⟩:=h;refine⟨?_,fun n hn=>?_⟩
 ·
  obtain h|h|h|h|h:x.k=1∨x.k=2∨x.k=3∨x.k=4∨x.k=5:=by omega
  all_goals rw[h];decide
 ·
  rcases List.mem_cons.1 hn with rfl|hn
  · exact(iY _).1 h3
  ·
   split at h4
   · rw[beq_iff_eq]at h4;rw[h4]at hn;cases hn
   · simp only[Bool.and_eq_true]at h4;exact(iY _).1 (List.all_eq_true.1 h4.1 n hn)
theorem aL4 {n:Int}(h:0≤n∧n≤1099511627776):(fB n).length≤21∧sizeW (fB n)≤64:=by
 have h1:=bX5 (n:=n) (by omega);have:=eI (fB n);omega
theorem bO7 (w:aG)(l:List aG):iM (w::l)=sizeW w+1+iM l:=by simp[iM]
theorem cK2 :iM []=0:=rfl
theorem bO8 (l:List aG)(ls:List (List aG)):sumD (l::ls)=iM l+sumD ls:=by simp[sumD]
theorem bO9 (l:List Ln):(l.flatMap dV).length=l.length+(fZ l).length:=by
 induction l with
 |nil=>rfl
 |cons x l ih=>
  rw[List.flatMap_cons,List.length_append,ih];simp only[dV,fZ,List.length_cons,List.length_map,List.flatMap_cons,List.length_append];omega
theorem lines_ok {l:List Ln}(h:l.all cU=true)(hr: ∀x∈l,x.f.length≤100): ∀w∈l.flatMap dV,okL w=true:=by
 intro w hw;obtain⟨x,hx,hw⟩:=List.mem_flatMap.1 hw;have hf:=List.all_eq_true.1 h x hx;obtain⟨h1,h2⟩:=bG8 hf;have h3:=hr x hx;rw[jH];rcases List.mem_cons.1 hw with rfl|hw
 ·
  refine⟨by simp[firstL],by simp only[firstL,List.length_cons,List.length_map];omega,fun u hu=>?_⟩;rcases List.mem_cons.1 hu with rfl|hu
  · omega
  · obtain⟨n,hn,rfl⟩:=List.mem_map.1 (show u∈(x.n::x.f).map fB from hu);have:=(aL4 (h2 n hn)).1;omega
 ·
  obtain⟨d,_,rfl⟩:=List.mem_map.1 hw;refine⟨by simp[lW],by simp[lW],fun u hu=>?_⟩;simp only[lW,List.mem_cons,List.not_mem_nil,or_false]at hu;rcases hu with rfl|rfl
  · decide
  · rw[tC];decide
structure SmallD (d:Dv):Prop where
 fine:jQ d=true
 n:d.q.n.length≤100
 i:d.q.i.length≤100
 l:d.o.l.length≤100
 r:d.o.r.length≤100
 lines:d.l.length≤100
 aT3:(aT3 d.l).length≤100
 docs:(fZ d.l).length≤200
variable {d:Dv}
theorem head_ok (h:SmallD d):(∀w∈lG d,okL w=true)∧sumD (lG d)≤3400:=by
 have hf:=h.fine;simp only[jQ,Bool.and_eq_true]at hf;have h1:=aL4 ((iY _).1 hf.1.1);have h2:=aL4 ((iY _).1 hf.1.2);have a1:=h.n;have a2:=h.i;have a3:=h.l;have a4:=h.r;have b1:wDer.length=10:=rfl;have b2:wOrg.length=6:=rfl;constructor
 ·
  intro w hw;rw[jH];simp only[lG,List.mem_cons,List.not_mem_nil,or_false]at hw;rcases hw with rfl|rfl
  · refine⟨by simp,by simp,fun u hu=>?_⟩;simp only[List.mem_cons,List.not_mem_nil,or_false]at hu;rcases hu with rfl|rfl|rfl|rfl|rfl|rfl|rfl<;>first|omega|(rw[tC];omega)
  · refine⟨by simp,by simp,fun u hu=>?_⟩;simp only[List.mem_cons,List.not_mem_nil,or_false]at hu;rcases hu with rfl|rfl|rfl|rfl<;>first|omega|(rw[tC];omega)
 · have c1:=eI wDer;have c2:=eI wOrg;have c3:=eI d.q.n;have c4:=eI d.q.i;have c5:=eI (jO d.q.a);have c6:=eI (jO d.p);have c7:=eI (jO d.o.v);have c8:=eI d.o.l;have c9:=eI d.o.r;rw[tC]at c5 c6 c7;simp only[lG,bO8,bO7,cK2,show sumD []=0 from rfl];omega
theorem aL5 {n a b:Int}:inB n a b=true↔a≤n∧n≤b:=by unfold inB;simp
theorem aT6 {r:Pr}(h:tE r=true):(0≤r.g∧r.g≤1099511627776)∧IsTree r.t∧gW r.a=true∧(aZ5 r.b).isSome=true∧(aZ5 r.c).isSome=true:=by
 unfold tE at h;simp only[Bool.and_eq_true,aL5]at h;obtain⟨h1,h2,h3,⟨h4,h5⟩,h6⟩:=h;rw[zA]at h5;exact⟨⟨h4,h5⟩,jL h6,h1,h2,h3⟩
theorem cK3 {p:Po}(h:bY5 p=true):(1≤p.v∧p.v≤1099511627776)∧p.r.length≤16∧gW p.n=true∧ ∀r∈p.r,tE r=true:=by
 unfold bY5 at h;simp only[Bool.and_eq_true,aL5,decide_eq_true_eq,List.all_eq_true]at h;obtain⟨h1,⟨h2,h3⟩,h4,h5,-⟩:=h;rw[zA]at h3;exact⟨⟨h2,h3⟩,h4,h1,h5⟩
theorem bG9 : ∀(l:List Nd) (m:Nat) (v:Int),skip m l=some []→(∀n∈l,eR n=true)→sC l m v=some (0,v+lv l)
 |[],0,v,_,_=>by simp[sC,lv]
 |[],m+1,v,h,_=>by cases h
 |n::l,0,v,h,_=>by grind[fR]
 |n::l,m+1,v,h,hn=>by
  have h':skip (m+n.c.toNat) l=some []:=h;have hnn:=hn n List.mem_cons_self;obtain⟨c1,c2,c3,c4⟩:=iB hnn;have e:((m+1:Nat):Int)+(n.c-1)=((m+n.c.toNat:Nat):Int):=by omega
  rw[sC,if_neg (by omega),if_pos hnn,e,bG9 l _ _ h' (fun x hx=>hn x (List.mem_cons_of_mem _ hx)),lv];grind
theorem cB1 {l:List Nd}(h:IsTree l):eN l=true:=by
 unfold eN;have:=bG9 l 1 0 h.skip h.node;rw[show((1:Nat):Int)=1 from rfl]at this;rw[this];have:=h.lv;simp[h.ne,h.len];omega
def uni (l:List (Nat×Nat)):List (Nat×Nat):=l.eraseDups
def zM (f:Nat→List (Nat×Nat)):Nat→Nat→Nat×Nat→List (Nat×Nat)
 |0,_,p=>[p]
 |c+1,n,p=>uni ((f n).flatMap fun q=>zM f c (n+q.1) (p.1+q.1,p.2+q.2))
def pos :Nat→Nat→List (Nat×Nat)
 |0,_=>[(1,1)]
 |d+1,n=>uni ((1,1)::if n≤8 then(List.range 3).flatMap fun c=>zM (pos d) (c+1) (n+1) (1,0)else [])
theorem xB {l:List (Nat×Nat)}{p:Nat×Nat}:p∈uni l↔p∈l:=by unfold uni;simp_all
theorem aG2 {f:Nat→List (Nat×Nat)}: ∀{c n:Nat} {p q r:Nat×Nat},q∈zM f c n p→r∈f (n+(q.1-p.1))→p.1≤q.1→(q.1+r.1,q.2+r.2)∈zM f (c+1) n p
 |0,n,p,q,r,hq,hr,_=>by simp_all[zM,List.mem_singleton,Nat.sub_self,Nat.add_zero,xB,List.mem_flatMap]
 |c+1,n,p,q,r,hq,hr,hpq=>by
  unfold zM at hq⊢;rw[xB,List.mem_flatMap]at hq⊢;obtain⟨s,hs,hq⟩:=hq;have hle:p.1+s.1≤q.1:=by
   have key: ∀(c n:Nat) (p q:Nat×Nat),q∈zM f c n p→p.1≤q.1:=by
    intro c;induction c with
    |zero=>simp_all[zM,List.mem_singleton,Nat.le_refl]
    |succ c ih=>
     grind[zM,xB]
   exact key _ _ _ _ hq
  refine⟨s,hs,aG2 hq ?_ hle⟩;grind
structure Made (d n:Nat)(t:List Nd):Prop where
 skip:skip 1 t=some []
 node: ∀n∈t,eR n=true
 pos:(t.length,lv t)∈pos d n
structure MadeK (d n k:Nat)(ts:List Nd):Prop where
 skip:skip k ts=some []
 node: ∀n∈ts,eR n=true
 pos:(1+ts.length,lv ts)∈zM (pos d) k (n+1) (1,0)
theorem MadeK.zero (d n:Nat):MadeK d n 0 []:=⟨rfl,by simp,by simp[zM,lv]⟩
variable {ts t:List Nd}{n:Nat}
theorem MadeK.next {d:Nat}(h:MadeK d n k ts)(ht:Made d (n+1+ts.length) t):MadeK d n (k+1) (ts++t):=by
 refine⟨?_,fun x hx=>?_,?_⟩
 · rw[oF,wI ts t [] k h.skip];exact ht.skip
 ·
  rcases List.mem_append.1 hx with hx|hx
  · exact h.node x hx
  · exact ht.node x hx
 ·
  have:=aG2 (r:=(t.length,lv t)) h.pos (by
   rw[show n+1+(1+ts.length-1)=n+1+ts.length from by omega];exact ht.pos) (by simp)
  grind[uI,Nat.add_assoc]
theorem MadeK.fin {d:Nat}{x:Nd}{c:Nat}(h:MadeK d n c ts)(hn:n≤8)(hx:eR x=true)(hk:x.k≠1)(hc:x.c=c)(h1:1≤c)(h3:c≤3):Made (d+1) n (x::ts):=by
 refine⟨?_,fun y hy=>?_,?_⟩
 · show Pl.skip (0+x.c.toNat) ts=some [];rw[hc,Nat.zero_add];exact h.skip
 ·
  rcases List.mem_cons.1 hy with rfl|hy
  · grind
  · exact h.node y hy
 · rw[Pl.pos,xB];refine List.mem_cons_of_mem _ ?_;rw[if_pos hn,List.mem_flatMap];refine⟨c-1,List.mem_range.2 (by omega),?_⟩;rw[show c-1+1=c from by omega];have:=h.pos;simp_all[lv,if_neg,List.length_cons,Nat.add_comm]
structure Ms where
 n:aG
 v:Int
 r:List Pr
 o:List Nat
 d:Bool
theorem zN {w:aG}(h:gW w=true):1≤w.length∧w.length≤64:=by
 cases w with
 |nil=>cases h
 |cons c r=>
  simp_all[gW,Bool.and_eq_true,decide_eq_true_eq]
def cB2 (p:Po):Prop:=bY5 p=true∧p.r.length≤2∧ ∀r∈p.r,r.b.length≤80∧r.c.length≤80∧r.t.length≤40
def isV (ls:List (List aG))(a:Nat)(w:aG)(k:Nat):Bool:=decide (a<ls.length)&&((ls.getD a []).length==k&&wd (ls.getD a []) 0==w)
variable {ls:List (List aG)}
theorem cK4 (h: ¬a<ls.length)(w:aG)(k:Nat):isV ls a w k=false:=by simp[isV,h]
theorem cR6 (h:a<ls.length)(w:aG)(k:Nat):isV ls a w k=(ls[a].length==k&&wd ls[a] 0==w):=by simp[isV,h]
abbrev Kds :=Option (List Nd×Int)×List (List aG)
def cK5 (ts:List Nd)(k:Int)(x:Kds):Kds:=(x.1.map fun p=>(ts++p.1,k+p.2),x.2)
def cR7 (n:Nd)(x:Kds):Option (List Nd)×List (List aG):=(x.1.map fun p=>{n with c:=p.2}::p.1,x.2)
theorem cB3 (x:Kds):cK5 [] 0 x=x:=by simp_all[cK5]
variable {r:List (List aG)}{f:Nat}
theorem bP0 {w:List aG}{n:Nd}(h:cQ5 w=none)(h2:cQ6 w=some n):rdN (f+1) (w::r)=cR7 n (rdK f r):=by
 simp only[rdN,h,h2]
 match rdK f r with
 |(none,r')=>rfl
 |(some (ts,c),r')=>rfl
theorem cR8 {l:List (List aG)}(h:bZ0 (l.headD [])=false)(h2:rdN f l=(none,r)):rdK (f+1) l=(none,r):=by simp_all[rdK,Bool.false_eq_true,if_false]
theorem bP1 (ha:a≤ls.length):bZ0 ((ls.drop a).headD [])=isV ls a cQ4 1:=by
 rcases Nat.lt_or_ge a ls.length with h|h
 · rw[cR6 h,List.drop_eq_getElem_cons h];rfl
 · rw[cK4 (by omega),List.drop_eq_nil_of_le h];rfl
structure KdSt (f:Nat)(ls:List (List aG))(a:Nat)(nd:Nd)(g:Nat)(ts:List Nd)(k p:Nat):Prop where
 eq:rdN f (ls.drop a)=cR7 nd (cK5 ts k (rdK g (ls.drop p)))
 le:p≤ls.length
 fuel:2*(ls.length-p)+2≤g
 lt:g<f
 len:ts.length+(ls.length-p)+1≤ls.length-a
 cW6:k≤ts.length
variable {nd:Nd}
theorem KdSt.init (ha:a<ls.length)(hf:2*(ls.length-a)+1≤f)(h1:cQ5 ls[a]=none)(h2:cQ6 ls[a]=some nd):KdSt f ls a nd (f-1) [] 0 (a+1):=by
 obtain⟨g,rfl⟩: ∃g,f=g+1:=⟨f-1,by omega⟩;refine⟨?_,by omega,?_,by omega,by grind,by simp⟩;all_goals grind[List.drop_eq_getElem_cons,bP0,cR7,cK5,cB3,Nat.add_sub_cancel]
variable {p:Nat}
theorem KdSt.no {g:Nat}(h:KdSt f ls a nd g ts k p)(he:isV ls p cQ4 1=false)(hn:(rdN (g-1) (ls.drop p)).1=none):rdN f (ls.drop a)=(none,(rdN (g-1) (ls.drop p)).2):=by
 obtain⟨q,rfl⟩: ∃q,g=q+1:=⟨g-1,by have:=h.fuel;omega⟩;simp only[Nat.add_sub_cancel]at hn⊢;rw[h.eq,cR8 (by rw[bP1 h.le,he]) (r:=(rdN q (ls.drop p)).2) (Prod.ext hn rfl)];rfl
abbrev Rls :=Option (List Pr)×List (List aG)
structure RsSt (ls:List (List aG))(X:Rls)(acc:List Pr)(p:Nat):Prop where
 eq:X=cI0 (ls.length-p+1) (ls.drop p) acc
 le:p≤ls.length
 len:acc.length≤p
variable {acc:List Pr}{X:Rls}
theorem RsSt.done (h:RsSt ls X acc p)(hp: ¬p<ls.length):p=ls.length∧X=(some acc,[]):=by
 have h1:=h.le;refine⟨by omega,?_⟩;rw[h.eq,List.drop_eq_nil_of_le (by omega),cI0,if_pos rfl]
theorem RsSt.no (h:RsSt ls X acc p)(hp:p<ls.length)(hn:(rdR (ls.drop p)).1=none):X=(none,(rdR (ls.drop p)).2):=by
 rw[h.eq,cI0,if_neg (by simp_all)];grind
def cR9 (l:List Pr)(r:Pr):Bool:=(l.map Pr.a).contains r.a||(!gW r.a||(!(aZ5 r.b).isSome||(!(aZ5 r.c).isSome||(!inB r.g 0 yF||!eN r.t))))
structure RlSt (l:List Pr)(i:Nat):Prop where
 le:i≤l.length
 all:(l.take i).all tE=true
 apart:nF (l.take i)=true
theorem RlSt.zero (l:List Pr):RlSt l 0:=⟨by omega,by simp,by simp[nF]⟩
theorem cK6 (l:List Pr)(r:Pr):cR9 l r=!(!(l.map Pr.a).contains r.a&&tE r):=by simp_all[cR9,tE,Pr.a,gW,aZ5,inB,yF,eN]
theorem RlSt.succ {l:List Pr}(h:RlSt l i)(hi:i<l.length)(hb:cR9 (l.take i) l[i]=false):RlSt l (i+1):=by
 rw[cK6]at hb;simp only[Bool.not_eq_false',Bool.and_eq_true]at hb;refine⟨hi,?_,?_⟩
 · rw[List.take_succ_eq_append_getElem hi,List.all_append,h.all,List.all_cons,hb.2];rfl
 · rw[List.take_succ_eq_append_getElem hi,wH,h.apart,hb.1];rfl
structure PoSz (p:Po):Prop where
 n:p.n.length<2^63
 r:p.r.length<2^40
 a: ∀r∈p.r,r.a.length<2^63
 t: ∀r∈p.r,∀n∈r.t,n.q.t.length<2^63
def rN (n:Nat):aG:=[114,UInt8.ofNat (48+n)]
structure MadeR (r:Pr):Prop where
 ok:tE r=true
 b:r.b.length≤80
 c:r.c.length≤80
 t:r.t.length≤40
structure MadeRs (n:Nat)(rs:List Pr):Prop where
 two:n+rs.length≤2
 one:1≤n+rs.length
 ok: ∀r∈rs,MadeR r
 nm: ∀r∈rs,∃j,n<j∧j≤2∧r.a=rN j
 ap:nF rs=true
theorem MadeRs.zero (h1:1≤n)(h2:n≤2):MadeRs n []:=⟨by grind,by grind,by simp,by simp,rfl⟩
variable {rs:List Pr}
theorem MadeRs.next (h:MadeRs (n+1) rs){r:Pr}(hr:MadeR r)(ha:r.a=rN (n+1)):MadeRs n (rs++[r]):=by
 have h1:=h.two;refine⟨by grind,by grind,fun x hx=>?_,fun x hx=>?_,?_⟩
 ·
  rcases List.mem_append.1 hx with hx|hx
  · exact h.ok x hx
  grind
 ·
  rcases List.mem_append.1 hx with hx|hx
  · obtain⟨j,h2,h3,h4⟩:=h.nm x hx;grind
  grind
 ·
  rw[wH,h.ap,Bool.true_and,Bool.not_eq_true',←Bool.not_eq_true,List.contains_iff_mem];intro hm;obtain⟨x,hx,he⟩:=List.mem_map.1 hm;obtain⟨j,h2,h3,h4⟩:=h.nm x hx;rw[h4,ha]at he;have hj:j=2:=by omega
  have hn:n=0:=by omega
  subst hj hn
  revert he
  decide
theorem MadeRs.fin (h:MadeRs 0 rs){v:Int}(h1:1≤v)(h2:v≤1099511627776):cB2 ⟨[112],v,rs⟩:=by
 have h3:=h.two;have k:gW [112]=true:=by decide
 refine⟨?_,by grind,fun r hr=>⟨(h.ok r hr).b,(h.ok r hr).c,(h.ok r hr).t⟩⟩;have k1:inB v 1 yF=true:=by rw[zA,aL5];exact⟨h1,h2⟩
 have k2:decide (rs.length≤16)=true:=by simp;omega
 have k3:rs.all tE=true:=List.all_eq_true.2 fun r hr=>(h.ok r hr).ok;simp only[bY5,k,k1,k2,k3,h.ap,Bool.and_self]
theorem cB4 {q:Rq}(h:lT q=true):q.t.length≤64:=by
 have hn:gW q.t=true→q.t.length≤64:=fun h=>(zN h).2;have h0:q.t=[]→q.t.length≤64:=fun h=>by grind
 unfold lT at h;grind
theorem bP2 {n:Nd}(h:eR n=true):n.q.t.length≤64:=by
 have h0:n.q=rq0→n.q.t.length≤64:=fun h=>by rw[h];decide
 have h1:lT n.q=true→n.q.t.length≤64:=cB4;unfold eR at h
 repeat' split at h
 all_goals simp_all[Bool.and_eq_true,bT6,beq_iff_eq]
theorem bP3 (h:IsTree t): ∀n∈t,n.q.t.length<2^63:=fun n hn=>by have:=bP2 (h.node n hn);omega
theorem cK7 {p:Po}(h:bY5 p=true):PoSz p:=by
 obtain⟨_,h2,h3,h4⟩:=cK3 h;refine⟨by grind[zN],by omega,fun r hr=>?_,fun r hr=>bP3 (aT6 (h4 r hr)).2.1⟩;have:=(zN (aT6 (h4 r hr)).2.2.1).2;omega
theorem MadeRs.sz (h:MadeRs 0 rs)(v:Int):PoSz ⟨[112],v,rs⟩:=by
 have:=cK7 (h.fin (v:=1) (by omega) (by omega)).1;exact⟨this.n,this.r,this.a,this.t⟩
theorem docsL_le {c:Nat}: ∀{X:List Ln},(∀x∈X,x.d.length≤c)→(fZ X).length≤c*X.length
 |[],_=>by simp[fZ]
 |x::X,h=>by
  have h1:=docsL_le (c:=c) (X:=X) fun y hy=>h y (List.mem_cons_of_mem _ hy);have h2:=h x List.mem_cons_self;have e:fZ (x::X)=x.d++fZ X:=by simp[fZ]
  rw[e,List.length_append,List.length_cons,Nat.mul_add];omega
abbrev R40 (n:Int):Prop:=0≤n∧n≤1099511627776
structure LnR (x:Ln):Prop where
 k:1≤x.k∧x.k≤5
 n:R40 x.n
 f: ∀n∈x.f,R40 n
 fl:x.f.length≤120
theorem aL6 : ∀{l:List aG} {ns:List Int},eS l=some ns→ns.length=l.length∧ ∀n∈ns,R40 n
 |[],ns,h=>by
  obtain rfl:=Option.some.inj (show some ([]:List Int)=some ns from h);simp
 |w::l,ns,h=>by
  unfold eS at h;rw[List.mapM_cons]at h;cases hw:cP w with
  |none=>rw[hw]at h;cases h
  |some n=>
   cases hl:l.mapM cP with
   |none=>rw[hw,hl]at h;cases h
   |some m=>
    rw[hw,hl]at h;obtain rfl:=Option.some.inj (show some (n::m)=some ns from h);have ih:=aL6 (l:=l) (ns:=m) hl;refine⟨by simp[ih.1],fun x hx=>?_⟩;rcases List.mem_cons.1 hx with rfl|hx
    · exact⟨(gF hw).1,by have:=(gF hw).2;omega⟩
    · exact ih.2 x hx
variable {w:List aG}
theorem cK8 {x:Ln}(hw:w.length≤120)(h:eX w=some x):LnR x:=by
 unfold eX at h;split at h
 ·
  rename_i n f hs;have hr:=aL6 hs;cases hk:gM (wd w 0)with
  |none=>rw[hk]at h;cases h
  |some k=>
   rw[hk]at h;simp only[Option.bind_some]at h;split at h
   · cases h
   · obtain rfl:=Option.some.inj h;have hk2:=nG.1 hk;refine⟨⟨hk2.1,hk2.2.1⟩,hr.2 n (by simp),fun m hm=>hr.2 m (by simp[hm]),?_⟩;have h1:=hr.1;simp only[List.length_cons,List.length_drop]at h1⊢;omega
 · cases h
theorem bH0 {ls l:List Ln}(hw:w.length≤120)(h:dK ls w=some l)(hl: ∀x∈ls,LnR x): ∀x∈l,LnR x:=by
 unfold dK at h;split at h
 ·
  unfold lX at h;cases hx:ls.getLast? with
  |none=>rw[hx]at h;cases h
  |some x=>
   rw[hx]at h;have hm:=List.mem_of_getLast? hx;dsimp only at h;split at h
   ·
    cases hd:eK (wd w 1)with
    |none=>rw[hd]at h;cases h
    |some d=>
     rw[hd]at h;obtain rfl:=Option.some.inj h;intro y hy;rcases List.mem_append.1 hy with hy|hy
     · exact hl y (List.dropLast_subset _ hy)
     · rw[List.mem_singleton.1 hy];have:=hl x hm;exact⟨this.k,this.n,this.f,this.fl⟩
   · cases h
 ·
  cases hx:eX w with
  |none=>rw[hx]at h;cases h
  |some x=>
   rw[hx]at h;obtain rfl:=Option.some.inj h;intro y hy;rcases List.mem_append.1 hy with hy|hy
   · exact hl y hy
   · rw[List.mem_singleton.1 hy];exact cK8 hw hx
theorem bH1 {ws:List (List aG)}(hw: ∀w∈ws,w.length≤120): ∀{i:Nat} {l:List Ln},i≤ws.length→jD (ws.take i)=some l→ ∀x∈l,LnR x
 |0,l,_,h=>by
  rw[List.take_zero,aG0]at h;obtain rfl:=Option.some.inj h;simp
 |i+1,l,hi,h=>by
  cases hp:jD (ws.take i)with
  |none=>
   have e:ws.take (i+1)=ws.take i++[ws[i]]:=List.take_succ_eq_append_getElem (by omega);rw[e,pO,hp]at h;cases h
  |some m=>
   have hm:=bH1 hw (i:=i) (by omega) hp;rw[kQ (by omega) hp]at h;exact bH0 (hw _ (List.getElem_mem _)) h hm
structure DvR (d:Dv):Prop where
 t:R40 d.t
 r:R40 d.r
 l: ∀x∈d.l,LnR x∧x.d.length≤1000
 ll:d.l.length≤1000
theorem bH2 (hw: ∀l∈ls,wOk l)(hn:ls.length≤1000)(h:fQ ls=some d):DvR d:=by
 rw[rB]at h;cases hh:gO ls with
 |none=>rw[hh]at h;cases h
 |some e=>
  rw[hh]at h;simp only[Option.bind_some]at h;cases hf:jD (ls.drop 2)with
  |none=>rw[hf]at h;cases h
  |some l=>
   rw[hf]at h;obtain rfl:=Option.some.inj h;have hl:(ls.drop 2).length≤1000:=by rw[List.length_drop];omega
   have hf':jD ((ls.drop 2).take (ls.drop 2).length)=some l:=by rw[List.take_length];exact hf
   have h1:=vG (Nat.le_refl _) hf';have h2:=bH1 (fun w h=>(hw w (List.drop_subset _ _ h)).2.1) (Nat.le_refl _) hf';unfold gO at hh;split at hh
   · cases hh
   ·
    split at hh
    · rename_i a p v t r _ _ _ ht hr;obtain rfl:=Option.some.inj hh;exact⟨⟨(gF ht).1,by have:=(gF ht).2;omega⟩,⟨(gF hr).1,by have:=(gF hr).2;omega⟩,fun x hx=>⟨h2 x hx,by have:=h1.2 x hx;omega⟩,by show l.length≤1000;omega⟩
    · cases hh
theorem DvR.len (h:DvR d):(iZ d).length≤2000000:=by
 have h1:=docsL_le (X:=d.l) (c:=1000) fun x hx=>(h.l x hx).2;have h2:=h.ll;have h3:=bO9 d.l;rw[iZ,List.length_append,h3];have:(lG d).length=2:=rfl;omega
end Go.Pl
namespace Go.Proofs.YthedbjfipmkpiaaGreatDoor
open Go Go.Hl Go.Pl
set_option maxRecDepth 10000
set_option maxHeartbeats 16000000
theorem cN6 {d:Dv}(h:DvR d):DvW d:=by
 refine⟨⟨by have:=h.t.1;omega,by have:=h.t.2;omega⟩,⟨by have:=h.r.1;omega,by have:=h.r.2;omega⟩,fun x hx=>?_,by have:=h.len;omega,by have:=h.ll;omega⟩;obtain⟨h1,h2⟩:=h.l x hx;exact⟨⟨by have:=h1.k.1;omega,by have:=h1.k.2;omega⟩,⟨by have:=h1.n.1;omega,by have:=h1.n.2;omega⟩,fun n hn=>⟨by have:=(h1.f n hn).1;omega,by have:=(h1.f n hn).2;omega⟩,by have:=h1.fl;omega,by omega⟩
theorem tP {ob:Ob}{r:HV}{T:oG}{n:Int}{R:CV→CV→Prop}(hr:r= .tup [.c (.agg [.agg [.str [],.str [],zd],.int .i64 0,zd,.int .i64 0,.agg [zd,.str [],.str []],.nils]),.c (.int .i64 n)])(hb:ob 0=some (.tab T))(hR:R dv0.cv (.int .i64 n)):
  iJ 1 r ob (fun r ob'=> ∃u v,r= .tup [.c u,.c v]∧ob'=gE T∧R u v):=by
 subst hr;refine fK [] dv0.cv (.int .i64 n) ?_ hb (by simp) hR;simp[HV.close,HV.closeL,CV.denil,CV.denilL,HV.norm,HV.toC,HV.toCL,eP];rfl
theorem bH3 (b:aG)(hl:b.length<2^40):sL Tryz.prog 27 tabs [.slc (b.map u8)] (fun u v=>u=(ddO b).cv∧v= .int .i64 (ddE b)):=by
 refine cI (args:=[.c (.slc (b.map u8))]) Tryz.func27 rfl (by kernel_rfl) (gJ tabs [.slc (b.map u8)]) (Nat.le_of_ble_eq_true rfl) ?_;unfold gE;have hlen:=yZ (b:=b);have hwo:=aK8 (b:=b);have hdl:CV.denilL ((gZ b).map lsC)=(gZ b).map lsC:=cE cA4 _;refine aB fun K hK=>aD (by kernel_rfl) ?_;simp (maxSteps:=4000000) only[↓sP,sA,tyS,simprocAttr];repeat refine AI ?_
 refine hK _ _ _ ?_;clear hK K;refine aB fun K hK=>aD (by kernel_rfl) ?_;simp only[sR,simprocAttr];refine aE (g:=none) rfl rfl fun K' hK'=>?_;simp (maxSteps:=4000000) only[sH,↓sP,sA,tyS,simprocAttr,denilL_u8];repeat refine AI ?_
 refine hK' _ _ ?_;clear hK' K';refine aE (g:=none) rfl rfl fun K' hK'=>?_;simp (maxSteps:=4000000) only[sH,↓sP,sA,tyS,simprocAttr,denilL_u8];refine iK (args:=[_]) (cR3 b hl) ⟨rfl,rfl,rfl,rfl⟩ ?_;rintro u v ⟨rfl,rfl⟩;repeat refine AI ?_
 refine hK' _ _ ?_;clear hK' K';iterate 5
  (refine aE (g:=none) rfl rfl fun K' hK'=>?_;simp only[sH,↓sP,sA,tyS,simprocAttr,denilL_u8];(repeat refine AI ?_);refine hK' _ _ ?_;clear hK' K')
 simp only[sE,↓reduceIte,simprocAttr];repeat refine AI ?_
 refine hK _ _ _ ?_;clear hK K;refine aB fun K hK=>?_;refine aB fun K hK=>aD (by kernel_rfl) ?_;simp (maxSteps:=4000000) only[↓sP,sA,tyS,simprocAttr];repeat refine AI ?_
 refine hK _ _ _ ?_;clear hK K;refine aH (b:=!(eW b==0)) rfl (fun hb=>?_) (fun hb=>?_)
 ·
  have he:eW b≠0:=by simpa using hb
  have e1:ddE b=eW b:=by rw[ddE,if_pos he]
  have e2:ddO b=dv0:=by rw[ddO,gA,if_neg he];rfl
  clear hb;refine aB fun K hK=>aD (by kernel_rfl) ?_;simp only[sR,simprocAttr];iterate 4
   (refine aE (g:=none) rfl rfl fun K' hK'=>?_;simp only[sH,↓sP,sA,tyS,simprocAttr,bH,bI];(repeat refine AI ?_);refine hK' _ _ ?_;clear hK' K')
  simp only[sE,↓reduceIte,simprocAttr];repeat refine AI ?_
  refine hK _ _ _ ?_;clear hK K;refine aF ?_;simp (maxSteps:=4000000) only[bS,Tryz.results27,bN,bR,bM,↓sP,sA,tyS,simprocAttr];refine tP (n:=eW b) rfl rfl ⟨by rw[e2],by rw[e1]⟩
 refine aK ?_;simp (maxSteps:=4000000) only[↓sP,sA,tyS,simprocAttr];repeat refine AI ?_
 refine hK _ _ _ ?_;clear hK K;have he:eW b=0:=by simpa using hb
 clear hb;have e1:ddE b=if(gA b).isSome then 0 else 2:=by rw[ddE,if_neg (by simpa using he)]
 have e0:gA b=(fQ (gZ b)).bind fun d=>if dvE d=0∧dvO d=b then some d else none:=by rw[gA,if_pos he]
 refine aB fun K hK=>aD (by kernel_rfl) ?_;simp only[sR,simprocAttr];refine aE (g:=none) rfl rfl fun K' hK'=>?_;simp (maxSteps:=4000000) only[sH,↓sP,sA,tyS,simprocAttr,hdl];repeat refine AI ?_
 refine hK' _ _ ?_;clear hK' K';refine aE (g:=none) rfl rfl fun K' hK'=>?_;simp (maxSteps:=4000000) only[sH,↓sP,sA,tyS,simprocAttr,hdl];refine iK (args:=[_]) (cK0 (gZ b) (by omega) (fun l h=>⟨List.length_pos_iff.2 (hwo l h).1,by have:=(hwo l h).2.1;omega⟩) (fun l h w hw=>by have:=(hwo l h).2.2 w hw;omega)) ⟨rfl,rfl,rfl,rfl⟩ ?_;rintro u v ⟨rfl,x,rfl,hx⟩;repeat refine AI ?_
 refine hK' _ _ ?_;clear hK' K';iterate 6
  (refine aE (g:=none) rfl rfl fun K' hK'=>?_;simp only[sH,↓sP,sA,tyS,simprocAttr,hdl];(repeat refine AI ?_);refine hK' _ _ ?_;clear hK' K')
 simp only[sE,↓reduceIte,simprocAttr];repeat refine AI ?_
 refine hK _ _ _ ?_;clear hK K;refine aB fun K hK=>?_;refine aB fun K hK=>aD (by kernel_rfl) ?_;simp (maxSteps:=4000000) only[↓sP,sA,tyS,simprocAttr];repeat refine AI ?_
 refine hK _ _ _ ?_;clear hK K;refine aH (b:=!(fQ (gZ b)).isSome) rfl (fun hb=>?_) (fun hb=>?_)
 ·
  have hno:fQ (gZ b)=none:=by simpa using hb
  have e3:gA b=none:=by rw[e0,hno];rfl
  have e1:ddE b=2:=by rw[e1,e3];rfl
  have e2:ddO b=dv0:=by rw[ddO,e3];rfl
  clear hb;refine aB fun K hK=>aD (by kernel_rfl) ?_;simp (maxSteps:=4000000) only[↓sP,sA,tyS,simprocAttr,bH,bI];repeat refine AI ?_
  refine hK _ _ _ ?_;clear hK K;refine aF ?_;simp (maxSteps:=4000000) only[bS,Tryz.results27,bN,bR,bM,↓sP,sA,tyS,simprocAttr];refine tP (n:=2) rfl rfl ⟨by rw[e2],by rw[e1]⟩
 obtain⟨d,hd⟩:=Option.isSome_iff_exists.1 (show(fQ (gZ b)).isSome=true by simpa using hb);obtain rfl:=hx d hd;clear hb hx;rw[hd,Option.bind_some]at e0;have hw:=cN6 (bH2 hwo hlen hd);refine aK ?_;simp (maxSteps:=4000000) only[↓sP,sA,tyS,simprocAttr];repeat refine AI ?_
 refine hK _ _ _ ?_;clear hK K;refine aB fun K hK=>?_;refine aB fun K hK=>aD (by kernel_rfl) ?_;simp only[sR,simprocAttr];refine aE (g:=none) rfl rfl fun K' hK'=>?_;simp (maxSteps:=4000000) only[sH,↓sP,sA,tyS,simprocAttr];repeat refine AI ?_
 refine hK' _ _ ?_;clear hK' K';refine aE (g:=none) rfl rfl fun K' hK'=>?_;simp (maxSteps:=4000000) only[sH,↓sP,sA,tyS,simprocAttr];refine fL (args:=[_]) 0 (aT2 x hw) rfl (by simp) ⟨rfl,rfl,rfl,rfl⟩ ?_;rintro u v ⟨rfl,rfl⟩;repeat refine AI ?_
 refine hK' _ _ ?_;clear hK' K';iterate 5
  (refine aE (g:=none) rfl rfl fun K' hK'=>?_;simp only[sH,↓sP,sA,tyS,simprocAttr];(repeat refine AI ?_);refine hK' _ _ ?_;clear hK' K')
 simp only[sE,↓reduceIte,simprocAttr];repeat refine AI ?_
 refine hK _ _ _ ?_;clear hK K;refine aB fun K hK=>aD (by kernel_rfl) ?_;simp only[sR,simprocAttr];iterate 3
  (refine aE (g:=none) rfl rfl fun K' hK'=>?_;simp only[sH,↓sP,sA,tyS,simprocAttr,bU,denilL_u8];(repeat refine AI ?_);refine hK' _ _ ?_;clear hK' K')
 refine aL 33 rfl (fun h8_33=>?_) (fun h8_33=>?_)
 ·
  iterate 4
   (refine aE (g:=some (34,false)) rfl rfl fun K' hK'=>?_;simp only[sH,↓sP,sA,tyS,simprocAttr,bU,denilL_u8,h8_33];(repeat refine AI ?_);refine hK' _ _ ?_;clear hK' K')
  refine aE (g:=none) rfl rfl fun K' hK'=>?_;simp (maxSteps:=4000000) only[sH,↓sP,sA,tyS,simprocAttr,bU,denilL_u8,h8_33];repeat refine AI ?_
  refine hK' _ _ ?_;clear hK' K';simp only[sE,↓reduceIte,simprocAttr];repeat refine AI ?_
  refine hK _ _ _ ?_;clear hK K;refine aH (b:=true) rfl (fun hb=>?_) (fun hb=>?_)
  ·
   refine aB fun K hK=>aD (by kernel_rfl) ?_;simp (maxSteps:=4000000) only[↓sP,sA,tyS,simprocAttr,bH,bI];repeat refine AI ?_
   refine hK _ _ _ ?_;clear hK K;refine aF ?_;simp (maxSteps:=4000000) only[bS,Tryz.results27,bN,bR,bM,↓sP,sA,tyS,simprocAttr];have e3:gA b=none:=by
    rw[e0,if_neg];rintro⟨h1,h2⟩;first|(rw[h1]at h8_33;exact absurd h8_33 (by decide))|(rw[h2]at h8_37;simp at h8_37)
   have e1:ddE b=2:=by rw[e1,e3];rfl
   have e2:ddO b=dv0:=by rw[ddO,e3];rfl
   refine tP (n:=2) rfl rfl ⟨by rw[e2],by rw[e1]⟩
  cases hb
 iterate 2
  (refine aE (g:=some (34,false)) rfl rfl fun K' hK'=>?_;simp only[sH,↓sP,sA,tyS,simprocAttr,bU,denilL_u8,h8_33];(repeat refine AI ?_);refine hK' _ _ ?_;clear hK' K')
 refine aE (g:=some (34,false)) rfl rfl fun K' hK'=>?_;simp (maxSteps:=4000000) only[sH,↓sP,sA,tyS,simprocAttr,bU,denilL_u8,h8_33];refine dN (args:=[_,_]) (bO2 (dvO x) b) ⟨rfl,rfl,rfl,rfl⟩ ?_;rintro u rfl;repeat refine AI ?_
 refine hK' _ _ ?_;clear hK' K';refine aE (g:=some (34,false)) rfl rfl fun K' hK'=>?_;simp (maxSteps:=4000000) only[sH,↓sP,sA,tyS,simprocAttr,bU,denilL_u8,h8_33];repeat refine AI ?_
 refine hK' _ _ ?_;clear hK' K';refine aE (g:=none) rfl rfl fun K' hK'=>?_;simp (maxSteps:=4000000) only[sH,↓sP,sA,tyS,simprocAttr,bU,denilL_u8,h8_33];repeat refine AI ?_
 refine hK' _ _ ?_;clear hK' K';refine aL 37 rfl (fun h8_37=>?_) (fun h8_37=>?_)
 ·
  simp only[h8_37];simp only[sE,↓reduceIte,simprocAttr];repeat refine AI ?_
  refine hK _ _ _ ?_;clear hK K;refine aH (b:=false) rfl (fun hb=>?_) (fun hb=>?_)
  · cases hb
  refine aK ?_;simp (maxSteps:=4000000) only[↓sP,sA,tyS,simprocAttr];repeat refine AI ?_
  refine hK _ _ _ ?_;clear hK K;refine aB fun K hK=>aD (by kernel_rfl) ?_;simp (maxSteps:=4000000) only[↓sP,sA,tyS,simprocAttr];repeat refine AI ?_
  refine hK _ _ _ ?_;clear hK K;refine aF ?_;simp (maxSteps:=4000000) only[bS,Tryz.results27,bN,bR,bM,↓sP,sA,tyS,simprocAttr];have e3:gA b=some x:=by rw[e0,if_pos ⟨by simpa using h8_33,by simpa using h8_37⟩]
  have e1:ddE b=0:=by rw[e1,e3];rfl
  have e2:ddO b=x:=by rw[ddO,e3];rfl
  exact fK [] x.cv (.int .i64 0) (by simp[HV.close,HV.closeL,Dv.denil,CV.denil,HV.norm,HV.toC,HV.toCL]) rfl (by simp) ⟨by rw[e2],by rw[e1]⟩
 simp only[h8_37];simp only[sE,↓reduceIte,simprocAttr];repeat refine AI ?_
 refine hK _ _ _ ?_;clear hK K;refine aH (b:=true) rfl (fun hb=>?_) (fun hb=>?_)
 ·
  refine aB fun K hK=>aD (by kernel_rfl) ?_;simp (maxSteps:=4000000) only[↓sP,sA,tyS,simprocAttr,bH,bI];repeat refine AI ?_
  refine hK _ _ _ ?_;clear hK K;refine aF ?_;simp (maxSteps:=4000000) only[bS,Tryz.results27,bN,bR,bM,↓sP,sA,tyS,simprocAttr];have e3:gA b=none:=by
   rw[e0,if_neg];rintro⟨h1,h2⟩;first|(rw[h1]at h8_33;exact absurd h8_33 (by decide))|(rw[h2]at h8_37;simp at h8_37)
  have e1:ddE b=2:=by rw[e1,e3];rfl
  have e2:ddO b=dv0:=by rw[ddO,e3];rfl
  refine tP (n:=2) rfl rfl ⟨by rw[e2],by rw[e1]⟩
 cases hb
end Go.Proofs.YthedbjfipmkpiaaGreatDoor
