/- Part of a proof: walks of functions of the program, by contracts, and the rules they use. By an AI agent. -/
import Derived.Test.YthedbjfipmkpiaaGreatDoorHlTop
import Derived.Test.YthedbjfipmkpiaaGreatDoorHdU6
import Derived.Test.YthedbjfipmkpiaaGreatDoorPl31j
import Derived.Test.YthedbjfipmkpiaaGreatDoorPl11c
import Derived.Test.YthedbjfipmkpiaaGreatDoorHdUn
import Derived.Shelf.SlSortCmp.InsertionK
import Derived.Test.YthedbjfipmkpiaaGreatDoorPl18e
import Derived.Deep.QuietTactic
import Derived.BigQuiet
import Derived.Test.YthedbjfipmkpiaaGreatDoorChecked
import Derived.Shelf.SlSortCmp.NoneTotal
import Derived.Ground.SlsfProg
import Derived.Test.YthedbjfipmkpiaaGreatDoorHlIt
import Derived.Test.YthedbjfipmkpiaaGreatDoorHdTg
import Derived.Test.YthedbjfipmkpiaaGreatDoorHdUp
import Derived.Test.YthedbjfipmkpiaaGreatDoorHdUq
import Derived.Test.YthedbjfipmkpiaaGreatDoorRows
set_option linter.unusedSimpArgs false
set_option linter.unusedVariables false
set_option linter.defProp false
namespace Go.Proofs.YthedbjfipmkpiaaGreatDoor
open Go Go.Hl Go.Pl
set_option maxRecDepth 10000
set_option maxHeartbeats 16000000
theorem cG9 (l:List Dig)(d:Dig)(hl:l.length<2^40):cF Tryz.prog 65 [.slc (l.map dg),dg d] (fun v=>v= .bool (l.contains d)):=by
 refine bQ Tryz.func65 rfl (by kernel_rfl) (cR _) (Nat.le_of_ble_eq_true rfl) ?_;refine aC fun K hK=>aD (by kernel_rfl) ?_;simp (maxSteps:=4000000) only[↓sP,sA,tyS,simprocAttr];repeat refine AI ?_
 refine hK _ _ _ ?_;clear hK K;refine aC fun K hK=>?_;refine aC fun K hK=>aD (by kernel_rfl) ?_;simp (maxSteps:=4000000) only[↓sP,sA,tyS,simprocAttr];repeat refine AI ?_
 refine hK _ _ _ ?_;clear hK K;refine aO ?_;refine bP (α:={i:Nat//i≤l.length∧ ∀x∈l.take i,(x==d)=false}) (fun i=>(fin [(0,.c (.slc (l.map dg))),(3,.ptr 0 0),(5,.c (.int .i64 i.1))],fob [(0,.box 44 (.c (dg d)))])) 100 (fun i=>l.length-i.1) ⟨0,by omega,by simp⟩ (aM (by omega) (by simp[aW,fin_at,finA_at,upd_at,HV.men,HV.menL,HV.norm,HV.toC,HV.toCL]) (by simp[aX,fob_at,upd_at,none0_at,bI,HO.men,HV.men,HV.menL,HV.norm,HV.toC,HV.toCL])) ?_;rintro⟨i,hi,h0⟩;refine aC fun K hK=>?_;refine aC fun K hK=>aD (by kernel_rfl) ?_;simp only[sR,simprocAttr];iterate 4
  (refine aE (g:=none) rfl rfl fun K' hK'=>?_;simp only[sH,↓sP,sA,tyS,simprocAttr];(repeat refine AI ?_);refine hK' _ _ ?_;clear hK' K')
 simp only[sE,↓reduceIte,simprocAttr];repeat refine AI ?_
 refine hK _ _ _ ?_;clear hK K;refine aJ (b:=decide ((i:Int)<l.length)) rfl (fun hb=>?_) (fun hb=>?_)
 ·
  have hlt:i<l.length:=by simpa using hb
  refine aN ?_;simp (maxSteps:=4000000) only[↓sP,sA,tyS,simprocAttr];repeat refine AI ?_
  refine hK _ _ _ ?_;clear hK K;refine aC fun K hK=>?_;refine aO ?_;refine aC fun K hK=>gY mixed (by kernel_rfl) (by kernel_rfl) (by kernel_rfl) ?_;simp only[sR,simprocAttr];iterate 6
   (refine aE (g:=none) rfl rfl fun K' hK'=>?_;simp only[sH,↓sP,sA,tyS,simprocAttr,Int.natCast_nonneg,Int.ofNat_lt,hlt,aU hlt];(repeat refine AI ?_);refine hK' _ _ ?_;clear hK' K')
  simp only[sE,↓reduceIte,simprocAttr];repeat refine AI ?_
  refine hK _ _ _ ?_;clear hK K;refine aJ (b:=l[i]==d) rfl (fun hb=>?_) (fun hb=>?_)
  ·
   refine aC fun K hK=>aD (by kernel_rfl) ?_;simp (maxSteps:=4000000) only[↓sP,sA,tyS,simprocAttr];repeat refine AI ?_
   refine hK _ _ _ ?_;clear hK K;refine aH ?_;simp (maxSteps:=4000000) only[bK,Tryz.results65,bH,bJ,bG,↓sP,sA,tyS,simprocAttr];exact aK [] (.bool true) rfl (by have:=List.getElem_mem hlt;have e:l[i]=d:=(eq_of_beq hb);rw[e]at this;simp[this])
  refine aN ?_;simp (maxSteps:=4000000) only[↓sP,sA,tyS,simprocAttr];repeat refine AI ?_
  refine hK _ _ _ ?_;clear hK K;refine aD (by kernel_rfl) ?_;simp (maxSteps:=4000000) only[↓sP,sA,tyS,simprocAttr,IntWalk.i64_in _ (show-9223372036854775808≤(i:Int)+1∧(i:Int)+1≤9223372036854775807 by omega)];refine⟨⟨i+1,hlt,aC1 (p:=fun x=>x==d) hlt hb h0⟩,aM (by omega) (by simp[aW,fin_at,finA_at,upd_at,HV.men,HV.menL,HV.norm,HV.toC,HV.toCL]) (by simp[aX,fob_at,upd_at,none0_at,bI,HO.men,HV.men,HV.menL,HV.norm,HV.toC,HV.toCL]),?_⟩;show l.length-(i+1)<l.length-i;omega
 refine bB ?_;simp (maxSteps:=4000000) only[↓sP,sA,tyS,simprocAttr];clear hK K;repeat refine AI ?_
 refine hK _ _ _ ?_;clear hK K;refine aC fun K hK=>aD (by kernel_rfl) ?_;simp (maxSteps:=4000000) only[↓sP,sA,tyS,simprocAttr];repeat refine AI ?_
 refine hK _ _ _ ?_;clear hK K;refine aH ?_;simp (maxSteps:=4000000) only[bK,Tryz.results65,bH,bJ,bG,↓sP,sA,tyS,simprocAttr];have hei:i=l.length:=by simp at hb;omega
 subst hei;exact aK [] (.bool false) rfl (by rw[List.take_length]at h0;have:d∉l:=(fun hm=>by have:=h0 d hm;simp at this);simp[this])
theorem cH0 (a b:Dig):cF Tryz.prog 66 [dg a,dg b] (fun v=>v= .bool (dlt a b)):=by
 refine bQ Tryz.func66 rfl (by kernel_rfl) (cR _) (Nat.le_of_ble_eq_true rfl) ?_;refine aC fun K hK=>aD (by kernel_rfl) ?_;simp (maxSteps:=4000000) only[↓sP,sA,tyS,simprocAttr];repeat refine AI ?_
 refine hK _ _ _ ?_;clear hK K;refine aC fun K hK=>?_;refine aC fun K hK=>aD (by kernel_rfl) ?_;simp (maxSteps:=4000000) only[↓sP,sA,tyS,simprocAttr];repeat refine AI ?_
 refine hK _ _ _ ?_;clear hK K;refine aO ?_;refine bP (α:={i:Nat//i≤32∧a.1.take i=b.1.take i}) (fun i=>(fin [(2,.ptr 0 0),(3,.ptr 4 0),(5,.c (.int .i64 i.1))],fob [(0,.box 44 (.c (dg a))),(4,.box 44 (.c (dg b)))])) 100 (fun i=>32-i.1) ⟨0,by omega,by simp⟩ (aM (by omega) (by simp[aW,fin_at,finA_at,upd_at,HV.men,HV.menL,HV.norm,HV.toC,HV.toCL]) (by simp[aX,fob_at,upd_at,none0_at,bI,HO.men,HV.men,HV.menL,HV.norm,HV.toC,HV.toCL])) ?_;rintro⟨i,hi,h0⟩;refine aC fun K hK=>?_;refine aC fun K hK=>aD (by kernel_rfl) ?_;simp (maxSteps:=4000000) only[↓sP,sA,tyS,simprocAttr];repeat refine AI ?_
 refine hK _ _ _ ?_;clear hK K;refine aJ (b:=decide ((i:Int)<32)) rfl (fun hb=>?_) (fun hb=>?_)
 ·
  have hlt:i<32:=by simp at hb;omega
  have hlt':(i:Int)<32:=by omega
  have ha:i<a.1.length:=by rw[a.2];exact hlt
  have hb':i<b.1.length:=by rw[b.2];exact hlt
  refine aN ?_;simp (maxSteps:=4000000) only[↓sP,sA,tyS,simprocAttr];repeat refine AI ?_
  refine hK _ _ _ ?_;clear hK K;refine aC fun K hK=>?_;refine aO ?_;refine aC fun K hK=>gY mixed (by kernel_rfl) (by kernel_rfl) (by kernel_rfl) ?_;simp only[sR,simprocAttr];iterate 7
   (refine aE (g:=none) rfl rfl fun K' hK'=>?_;simp only[sH,↓sP,sA,tyS,simprocAttr,Int.natCast_nonneg,hlt',bS7 hlt,Nat.mul_one,u8];(repeat refine AI ?_);refine hK' _ _ ?_;clear hK' K')
  simp only[sE,↓reduceIte,simprocAttr];repeat refine AI ?_
  refine hK _ _ _ ?_;clear hK K;refine aJ (b:=(((a.1[i]).toNat:Int) !=((b.1[i]).toNat:Int))) rfl (fun hb=>?_) (fun hb=>?_)
  ·
   refine aC fun K hK=>gY mixed (by kernel_rfl) (by kernel_rfl) (by kernel_rfl) ?_;simp only[sR,simprocAttr];iterate 8
    (refine aE (g:=none) rfl rfl fun K' hK'=>?_;simp only[sH,↓sP,sA,tyS,simprocAttr,Int.natCast_nonneg,hlt',bS7 hlt,Nat.mul_one,u8];(repeat refine AI ?_);refine hK' _ _ ?_;clear hK' K')
   simp only[sE,↓reduceIte,simprocAttr];repeat refine AI ?_
   refine hK _ _ _ ?_;clear hK K;refine aH ?_;simp (maxSteps:=4000000) only[bK,Tryz.results66,bH,bJ,bG,↓sP,sA,tyS,simprocAttr];rw[cI8]at hb;exact aK [] (.bool _) rfl (by rw[cQ9,cL2 hlt h0 (by simpa using hb)])
  refine aN ?_;simp (maxSteps:=4000000) only[↓sP,sA,tyS,simprocAttr];repeat refine AI ?_
  refine hK _ _ _ ?_;clear hK K;refine aD (by kernel_rfl) ?_;simp (maxSteps:=4000000) only[↓sP,sA,tyS,simprocAttr,IntWalk.i64_in _ (show-9223372036854775808≤(i:Int)+1∧(i:Int)+1≤9223372036854775807 by omega)];rw[cI8]at hb;refine⟨⟨i+1,hlt,?_⟩,aM (by omega) (by simp[aW,fin_at,finA_at,upd_at,HV.men,HV.menL,HV.norm,HV.toC,HV.toCL]) (by simp[aX,fob_at,upd_at,none0_at,bI,HO.men,HV.men,HV.menL,HV.norm,HV.toC,HV.toCL]),?_⟩
  ·
   rw[List.take_succ_eq_append_getElem ha,List.take_succ_eq_append_getElem hb',h0];have:a.1[i]=b.1[i]:=by simpa using hb
   rw[this]
  show 32-(i+1)<32-i;omega
 refine bB ?_;simp (maxSteps:=4000000) only[↓sP,sA,tyS,simprocAttr];clear hK K;repeat refine AI ?_
 refine hK _ _ _ ?_;clear hK K;refine aC fun K hK=>aD (by kernel_rfl) ?_;simp (maxSteps:=4000000) only[↓sP,sA,tyS,simprocAttr];repeat refine AI ?_
 refine hK _ _ _ ?_;clear hK K;refine aH ?_;simp (maxSteps:=4000000) only[bK,Tryz.results66,bH,bJ,bG,↓sP,sA,tyS,simprocAttr];have hei:i=32:=by simp at hb;omega
 subst hei;exact aK [] (.bool false) rfl (by rw[bS6 h0])
theorem aR6 (l:List Dig)(hl:l.length<2^40):cK9 Tryz.prog 57 44 32 (l.map dg) [] (fun l'=> ∃K:List Dig,l'=K.map dg∧dws K=cK (dws l)):=by
 refine cB1 ?_;show HFn _ _ [.own 0 (l.map dg).length] 1 _ _;rw[List.length_map];refine bQ (args:=[.own 0 l.length]) Tryz.func57 rfl (by kernel_rfl) (wV 44 32 l.length _) (Nat.le_of_ble_eq_true rfl) ?_;refine R0 ?_;refine aC fun K hK=>?_;refine R0 ?_;refine aJ (b:=decide ((l.length:Int)<2)) rfl (fun hb=>?_) (fun hb=>?_)
 · refine R0 ?_;refine aH (RT Tryz.results57 ?_);exact rM (l.map dg) rfl (by simp) ⟨l,rfl,by rw[uV (by rw[fO];simp at hb;omega)]⟩
 refine aN ?_;refine T0 (hK _ _ _ ?_);clear hK K;refine aC fun K hK=>?_;refine R0 ?_;refine aO ?_;have h2:2≤l.length:=by simp at hb;omega
 refine bP (α:={k:Nat//1≤k∧k≤l.length∧cK (dws (l.take k))=dws (l.take k)}) (fun k=>(fin [(0,.own 0 l.length),(3,.c (.int .i64 k.1))],fob [(0,.row 44 32 (l.map dg))])) 100 (fun k=>l.length-k.1) ⟨1,by omega,by omega,uV (by rw[fO];simp;omega)⟩ (fF) ?_;clear hb;rintro⟨k,hk1,hk,hd⟩;refine aC fun K hK=>?_;refine aC fun K hK=>Rg ?_;iterate 4 refine S0 ?_
 refine T2 (hK _ _ _ ?_);clear hK K;refine aJ (b:=decide ((k:Int)<l.length)) rfl (fun hb=>?_) (fun hb=>?_)
 ·
  have hlt:k<l.length:=by simpa using hb
  have hlt1:k-1<l.length:=by omega
  have m1:IntKind.i64.wrap ((k:Int)-1)=((k-1:Nat):Int):=by rw[IntWalk.i64_in _ (by omega)];omega
  refine aN ?_;refine T0 (hK _ _ _ ?_);clear hK K;refine aC fun K hK=>?_;refine aO ?_;refine aC fun K hK=>QR ?_;have F:=aI m1 (aI @Int.natCast_nonneg (aI @Int.ofNat_lt (aI hlt (aI hlt1 (aI (nM hlt) (nM hlt1))))));iterate 10 refine SF ?_
  refine T2 (hK _ _ _ ?_);clear hK K;refine aJ (b:=l[k]==l[k-1]) rfl (fun hb=>?_) (fun hb=>?_)
  ·
   refine aC fun K hK=>Rg ?_;iterate 4 refine S0 ?_
   refine T2 (hK _ _ _ ?_);clear hK K;refine aC fun K hK=>?_;refine R0 ?_;refine aO ?_;refine bP (α:={x:Nat×Nat×List Dig//x.2.2.length=l.length∧1≤x.1∧x.1<x.2.1∧x.2.1≤l.length∧k<x.2.1∧dws (x.2.2.take x.1)=cK (dws (l.take x.2.1))∧x.2.2.drop (x.2.1-1)=l.drop (x.2.1-1)}) (fun x=>(fin [(0,.own 0 l.length),(3,.c (.int .i64 x.1.1)),(4,.osl 0 l.length k 32 l.length),(5,.c (.int .i64 ((x.1.2.1-k:Nat):Int)))],fob [(0,.row 44 32 (x.1.2.2.map dg))])) 300 (fun x=>l.length-x.1.2.1) ⟨(k,k+1,l),rfl,hk1,by simp,hlt,by simp,by rw[bC8 hk1 hlt hb,hd],rfl⟩ (fF) ?_;rintro⟨⟨i,j,r⟩,hr,hi1,hij,hj,hkj,g1,g2⟩;simp only at hr hi1 hij hj hkj g1 g2⊢;have hrl:(r.map dg).length=l.length:=by rw[List.length_map,hr]
   have p0:0<l.length:=by omega
   have e9:(List.take (l.length-k) (List.drop k (r.map dg))).length=l.length-k:=by simp[hr]
   refine aC fun K hK=>?_;refine aC fun K hK=>Rg ?_;have F:=aI hr (aI p0 (aI hk (aI @Nat.le_refl e9)));iterate 4 refine SF ?_
   refine T2 (hK _ _ _ ?_);clear hK K;refine aJ (b:=decide (((j-k:Nat):Int)<((l.length-k:Nat):Int))) rfl (fun hb=>?_) (fun hb=>?_)
   ·
    have hjl:j<l.length:=by simp at hb;omega
    have hjr:j<r.length:=by omega
    have hj1r:j-1<r.length:=by omega
    have hir:i<r.length:=by omega
    have hil:i<l.length:=by omega
    have hj1l:j-1<l.length:=by omega
    have z1:((j-k:Nat):Int)<((l.length-k:Nat):Int):=by omega
    have z2:((j-k-1:Nat):Int)<((l.length-k:Nat):Int):=by omega
    have e1:k+(j-k)=j:=by omega
    have e2:k+(j-k-1)=j-1:=by omega
    have m2:IntKind.i64.wrap (((j-k:Nat):Int)-1)=((j-k-1:Nat):Int):=by rw[IntWalk.i64_in _ (by omega)];omega
    have m3:IntKind.i64.wrap (((j-k:Nat):Int)+1)=((j+1-k:Nat):Int):=by rw[IntWalk.i64_in _ (by omega)];omega
    have q0:r[j-1]=l[j-1]∧r[j]=l[j]:=by
     have a1:(r.drop (j-1))[0]? =(l.drop (j-1))[0]? :=by rw[g2]
     have a2:(r.drop (j-1))[1]? =(l.drop (j-1))[1]? :=by rw[g2]
     simp only[List.getElem?_drop,Nat.add_zero,show j-1+1=j by omega,List.getElem?_eq_getElem hjr,List.getElem?_eq_getElem hj1r,List.getElem?_eq_getElem hjl,List.getElem?_eq_getElem hj1l,Option.some.injEq]at a1 a2;exact⟨a1,a2⟩
    have q1:nth (r.map dg) j=dg l[j]:=by rw[aU hjr,q0.2]
    have q2:nth (r.map dg) (j-1)=dg l[j-1]:=by rw[aU hj1r,q0.1]
    have g3:r.drop j=l.drop j:=by
     have:(r.drop (j-1)).drop 1=(l.drop (j-1)).drop 1:=by rw[g2]
     rwa [List.drop_drop,List.drop_drop,show j-1+1=j by omega]at this
    refine aN ?_;refine T0 (hK _ _ _ ?_);clear hK K;refine aC fun K hK=>?_;have key: ∀(i':Nat) (r':List Dig) fr ob nx,r'.length=l.length→1≤i'→i'<j+1→dws (r'.take i')=cK (dws (l.take (j+1)))→r'.drop j=l.drop j→Fits 1 fr ob (fin [(0,.own 0 l.length),(3,.c (.int .i64 i')),(4,.osl 0 l.length k 32 l.length),(5,.c (.int .i64 ((j-k:Nat):Int)))]) (fob [(0,.row 44 32 (r'.map dg))]) 500→K fr ob nx:=by
     rintro i' r' fr ob nx w1 w2 w3 w4 w5 hf;refine hK _ _ _ (bO hf ?_);clear hf hK K;refine aD (by kernel_rfl) ?_;refine TQ m3 ?_;refine⟨⟨(i',j+1,r'),w1,w2,w3,hjl,by simp only;omega,w4,w5⟩,fF,?_⟩;show l.length-(j+1)<l.length-j;omega
    refine aO ?_;refine aC fun K hK=>QR ?_;iterate 10 refine S0 ?_ (e:=fun _ h_=>by simp only[sH,↓sP,sA,tyS,simprocAttr,hr,m2,e1,e2,z1,z2,q1,q2,hjl,hj1l,hjr,hj1r,Int.natCast_nonneg,Int.ofNat_lt];exact AX h_)
    refine T2 (hK _ _ _ ?_);clear hK K;refine aJ (b:=!(l[j]==l[j-1])) rfl (fun hb=>?_) (fun hb=>?_)
    ·
     refine aC fun K hK=>Rg ?_;iterate 8 refine S0 ?_ (e:=fun _ h_=>by simp only[sH,↓sP,sA,tyS,simprocAttr,hr,e1,z1,q1,aU hir,hil,hir,hjl,hjr,Int.natCast_nonneg,Int.ofNat_lt,←List.map_set];exact AX h_)
     refine T2 (hK _ _ _ ?_);clear hK K;refine aD (by kernel_rfl) ?_;refine TQ (lR i) ?_;refine key (i+1) (r.set i l[j]) _ _ _ (by simp[hr]) (by omega) (by omega) ?_ ?_ (fF)
     · exact cN0 (by omega) hjl (by simpa using hb) (by omega) g1
     rw[List.drop_set_of_lt (by omega),g3]
    refine aN (T3 ?_);exact key i r _ _ _ hr hi1 (by omega) (by rw[bC8 (by omega) hjl (by simpa using hb),g1]) g3 (fF)
   have hjl:j=l.length:=by simp at hb;omega
   subst hjl;rw[List.take_length]at g1;refine bB (T3 ?_);clear hK K;refine AX (hK _ _ _ ?_);clear hK K;refine aC fun K hK=>Rg ?_;have F:=hr;iterate 4 refine SF ?_
   refine T2 (hK _ _ _ ?_);clear hK K;refine aC fun K hK=>Rg ?_;iterate 4 refine SF ?_
   refine T2 (hK _ _ _ ?_);clear hK K;refine aH (RT Tryz.results57 ?_);refine bP8 _ rfl ?_ ?_ ?_ ?_
   · simp[hr];omega
   · simp[hr];omega
   · simp[hr];omega
   refine⟨r.take i,?_,g1⟩;simp[hr];rw[List.take_append_of_le_length (by simp[hr];omega),List.take_take,Nat.min_self]
  refine aN ?_;refine T0 (hK _ _ _ ?_);clear hK K;refine aD (by kernel_rfl) ?_;refine TQ (lR k) ?_;refine⟨⟨k+1,by omega,hlt,cE9 hk1 hlt hb hd⟩,fF,?_⟩;show l.length-(k+1)<l.length-k;omega
 refine bB (T3 ?_);clear hK K;refine AX (hK _ _ _ ?_);clear hK K;refine R0 ?_;refine aH (RT Tryz.results57 ?_);have hkl:k=l.length:=by simp at hb;omega
 subst hkl;rw[List.take_length]at hd;exact rM (l.map dg) rfl (by simp) ⟨l,rfl,by rw[hd]⟩
theorem cH1 (l:List Dig)(d:Dig)(hl:l.length<2^40):cF Tryz.prog 30 [.slc (l.map dg),dg d] (fun v=> ∃l':List Dig,v= .slc (l'.map dg)∧dws l'=rF (dws l) d.1):=by
 refine FW Tryz.func30 ?_;refine R0 ?_;refine aC fun K hK=>?_;refine aC fun K hK=>Rg ?_;iterate 2 refine S0 ?_
 refine HS rfl rfl fun K' hK'=>T5 ?_;refine C2 (cG9 l d hl) ?_;rintro u rfl;refine AX (hK' _ _ ?_);clear hK' K';refine T2 (hK _ _ _ ?_);clear hK K;refine aJ (b:=l.contains d) rfl (fun hb=>?_) (fun hb=>?_)
 · refine R0 ?_;refine aH (RT Tryz.results30 ?_);exact aK [] (.slc (l.map dg)) (by simp[HV.close,CV.denil,denilL_dg,HV.norm,HV.toC]) ⟨l,rfl,by rw[rF,←mP,hb,if_pos rfl]⟩
 refine aN ?_;refine T0 (hK _ _ _ ?_);clear hK K;refine R0 ?_;refine R0 ?_;refine aC fun K hK=>?_;refine aO ?_;refine iZ 5 0 44 32 rfl rfl rfl rfl ?_;refine bP (α:={i:Nat//i≤l.length∧ ∀j (h:j<i) (h':j<(dws l).length),slt (dws l)[j] d.1=true}) (fun i=>(fin [(0,.c (.slc (l.map dg))),(3,.ptr 0 0),(5,.own 28 i.1),(6,.c (.int .i64 i.1))],fob [(0,.box 44 (.c (dg d))),(28,.row 44 32 ((l.take i.1).map dg))])) 100 (fun i=>l.length-i.1) ⟨0,by omega,fun j h=>by omega⟩ (fF) ?_;rintro⟨i,hi,hni⟩;have hti:(l.take i).length=i:=by simp;omega
 have hlc:decide ((i:Int)<(l.length:Int))=true→i<l.length:=fun h=>by simpa using h
 refine aC fun K hK=>?_;by_cases hlt:i<l.length
 ·
  refine aC fun K hK=>DW [(0,[],[]),(1,[],[]),(2,[],[]),(3,[],[]),(4,[],[]),(5,[],[]),(6,[],[]),(7,[],[]),(8,[],[]),(9,[],[]),(10,[],[]),(11,[],[])] [0,0,2,7,15,31,31,127,255,31,1023,2047] ?_;have F:=aI @Int.natCast_nonneg (aI @Int.ofNat_lt (aI hlt (nM hlt)));iterate 10 refine WF ?_
  refine aV (g:=some (15,true)) rfl rfl fun K' hK'=>T6 ?_;refine C2 (cH0 l[i] d) ?_;rintro u rfl;refine AX (hK' _ _ ?_);clear hK' K';refine WF ?_;refine T2 (hK _ _ _ ?_);clear hK K;refine aJ (b:=dlt l[i] d) rfl (fun hb=>?_) (fun hb=>?_)
  ·
   refine aN ?_;refine T0 (hK _ _ _ ?_);clear hK K;refine aO ?_;refine aC fun K hK=>Rg ?_;have F:=aI @Int.natCast_nonneg (aI @Int.ofNat_lt (aI hlt (aI (nM hlt) (aI hti @List.length_append.{0}))));iterate 8 refine SF ?_
   refine T2 (hK _ _ _ ?_);clear hK K;refine aD (by kernel_rfl) ?_;refine TQ (lR i) ?_;refine⟨⟨i+1,by omega,fun j h h'=>?_⟩,aM (by omega) ?_ ?_,?_⟩
   ·
    by_cases e:j=i
    · subst e;rw[sJ];exact hb
    exact hni j (by omega) h'
   · simp[aW,upd_at,fin_at,HV.men]
   · refine⟨rfl,by omega,trivial,?_,by omega,trivial,trivial⟩;simp only[List.take_succ_eq_append_getElem hlt,List.map_append];rfl
   show l.length-(i+1)<l.length-i;omega
  refine bB (T3 ?_);clear hK K;refine AX (hK _ _ _ ?_);clear hK K;refine aC fun K hK=>DW [(0,[],[]),(1,[],[]),(2,[],[]),(4,[2],[]),(5,[2],[]),(6,[2],[]),(3,[],[4,5,6]),(7,[],[]),(8,[],[])] [0,0,2,7,0,0,48,127,255] ?_;iterate 9 refine W0 ?_ (e:=fun _ h_=>by simp only[sH,↓sP,sA,tyS,simprocAttr,hti,←List.map_drop,←List.map_take,aP0];exact AX h_)
  refine T2 (hK _ _ _ ?_);clear hK K;refine aH (RT Tryz.results30 ?_);refine aK [28] (.slc ((l.take i++d::l.drop i).map dg)) ?_ ⟨_,rfl,?_⟩
  · simp[HV.close,upd_at,HV.norm,HV.toC,List.take_of_length_le]
  rw[qM,show dws (d::l.drop i)=d.1::dws (l.drop i)from rfl,show dws (l.drop i)=(dws l).drop i from List.map_drop,kG];rw[aZ9 (by rw[←mP];assumption) (by rw[fO];exact hi) hni (fun h=>by rw[sJ];exact hb)]
 refine aC fun K hK=>DW [(0,[],[]),(1,[],[]),(2,[],[]),(3,[],[]),(4,[],[]),(5,[],[]),(6,[],[]),(7,[],[]),(8,[],[]),(9,[],[]),(10,[],[]),(11,[],[])] [0,0,2,7,15,31,31,127,255,31,1023,2047] ?_;have F:=aI @Int.ofNat_lt hlt;iterate 12 refine WF ?_
 refine T2 (hK _ _ _ ?_);clear hK K;refine aJ (b:=_) rfl (fun hb=>?_) (fun hb=>?_)
 · cases hb
 refine bB (T3 ?_);clear hK K;refine AX (hK _ _ _ ?_);clear hK K;refine aC fun K hK=>DW [(0,[],[]),(1,[],[]),(2,[],[]),(4,[2],[]),(5,[2],[]),(6,[2],[]),(3,[],[4,5,6]),(7,[],[]),(8,[],[])] [0,0,2,7,0,0,48,127,255] ?_;iterate 9 refine W0 ?_ (e:=fun _ h_=>by simp only[sH,↓sP,sA,tyS,simprocAttr,hti,←List.map_drop,←List.map_take,aP0];exact AX h_)
 refine T2 (hK _ _ _ ?_);clear hK K;refine aH (RT Tryz.results30 ?_);refine aK [28] (.slc ((l.take i++d::l.drop i).map dg)) ?_ ⟨_,rfl,?_⟩
 · simp[HV.close,upd_at,HV.norm,HV.toC,List.take_of_length_le]
 rw[qM,show dws (d::l.drop i)=d.1::dws (l.drop i)from rfl,show dws (l.drop i)=(dws l).drop i from List.map_drop,kG];rw[aZ9 (by rw[←mP];assumption) (by rw[fO];exact hi) hni (fun h=>absurd (by rwa [fO]at h) hlt)]
end Go.Proofs.YthedbjfipmkpiaaGreatDoor
namespace Go.Proofs.YthedbjfipmkpiaaGreatDoor
open Go Go.Hl Go.Pl Go.Sort Go.RowKit
set_option maxRecDepth 100000
theorem aX9 (x y:Dig)(b c:Nat)(W:World)(h:(callFunc 90 #[.slice (some ⟨b,0,none⟩) 32 32,.slice (some ⟨c,0,none⟩) 32 32]).run Tryz.prog W= .ok (.value (.int .i64 (jZ x.1 y.1))) W):
    Calls Tryz.prog 56 #[.slice (some ⟨b,0,none⟩) 32 32,.slice (some ⟨c,0,none⟩) 32 32] W fun e w'=>e= .returned (.int .i64 (jZ x.1 y.1))∧w'=W:=by
  generalize jZ x.1 y.1=r at h⊢
  go_enter Tryz.func56,Tryz.ntmps56
  go_wp2_with fail
  go_ret
  exact⟨rfl,rfl⟩
theorem aR7 (x y:Dig)(W:World)
    (hc: ∀W':World,W'.heap=((W.alloc (Obj.cells (eC x).toArray 44)).alloc (Obj.cells (eC y).toArray 44)).heap→Calls Tryz.prog 56 #[.slice (some ⟨W.heap.size,0,none⟩) 32 32,.slice (some ⟨W.heap.size+1,0,none⟩) 32 32] W' fun e w'=>e= .returned (.int .i64 (jZ x.1 y.1))∧w'=W'):
    Calls Tryz.prog 55 #[.agg (eC x).toArray,.agg (eC y).toArray] W fun e w'=>e= .returned (.int .i64 (jZ x.1 y.1))∧ ∃q os',w'=grow (W.drewN q) os':=by
  go_enter Tryz.func55,Tryz.ntmps55
  go_wp2_with fail
  go_quiet (first|(go_at_call 56;refine Calls.quiet_of_same (hc _ rfl)))
  go_wp2
  go_ret
  exact⟨rfl,nq,_,by rw[alloc_eq_grow,alloc_eq_grow,grow_grow];rfl⟩
theorem aE5 {W:World}{b:Nat}{d:Dig}{t:TypeId}{ρ:Env}(hb:W.heap[b]? =some (.cells (eC d).toArray t (0,0))):RepV W ρ (fun _=>False) (.c (.slc (d.1.map u8))) (.slice (some ⟨b,0,none⟩) 32 32):=by
  refine bS ?_ rfl rfl;simp only[RepC];refine⟨some ⟨b,0,none⟩,32,eC d,1,by simp[d.2],yR.2 rfl,fun v hv=>?_,by simp[d.2],fun h=>(by cases h),fun ad h=>?_⟩
  · obtain⟨x,_,rfl⟩:=List.mem_map.1 hv;rfl
  · cases h
    refine⟨fun j u hj=>?_,fun _ h=>h⟩;have h1:(eC d).toArray[j]? =some u:=by simpa using hj
    rw[show(⟨b,0,none⟩:Addr).add j=⟨b,j,none⟩from by unfold Addr.add;split<;>simp_all];simp only[World.cell?,hb,h1,Option.isSome_none,Bool.false_eq_true,if_false]
theorem aR8 (x y:Dig)(W:World):Calls Tryz.prog 55 #[.agg (eC x).toArray,.agg (eC y).toArray] W fun e w'=>e= .returned (.int .i64 (jZ x.1 y.1))∧ ∃q os',w'=grow (W.drewN q) os':=
  aR7 x y W fun W' hW=>aX9 x y _ _ W' (by
    have h1:W'.heap[W.heap.size]? =some (.cells (eC x).toArray 44 (0,0)):=by
      rw[hW];simp only[World.alloc,Array.getElem?_push,Array.size_push];rw[if_neg (by omega),if_true]
    have h2:W'.heap[W.heap.size+1]? =some (.cells (eC y).toArray 44 (0,0)):=by
      rw[hW];simp only[World.alloc,Array.getElem?_push,Array.size_push];rw[if_true]
    have hr:=cC2 (P:=Tryz.prog) (aE5 (ρ:=fun _=>none) h1) (aE5 (ρ:=fun _=>none) h2);rw[run_callFunc_extern Tryz.func90 (by kernel_rfl) (by kernel_rfl) (by kernel_rfl) (e:=Extern.BytealgCompare.compare) (by kernel_rfl),hr];rfl)
theorem aY0 (blk size:Nat)(w:World):CmpLays Tryz.prog 55 #[] eC 32 (fun x y=>jZ x.1 y.1) blk 0 size w:=fun _ _ _ _ x y=>aR8 x y _
theorem bZ1 :SWO (ltOf fun x y:Dig=>jZ x.1 y.1):=by
  have e: ∀x y:Dig,ltOf (fun x y:Dig=>jZ x.1 y.1) x y=true↔x.1<y.1:=fun x y=>by
    rw[←vN];show decide (jZ x.1 y.1<0)=true↔slt x.1 y.1=true;unfold jZ;by_cases h:slt x.1 y.1=true
    · simp[h]
    · have h':slt x.1 y.1=false:=by simpa using h
      rw[h'];by_cases h2:x.1=y.1<;>simp[h2]
  have e2: ∀x y:Dig,ltOf (fun x y:Dig=>jZ x.1 y.1) x y=false↔y.1≤x.1:=fun x y=>by
    rw[←List.not_lt,←e,Bool.not_eq_true]
  refine⟨fun x=>(e2 x x).2 (List.le_refl _),fun x y z h1 h2=>(e x z).2 (List.lt_trans ((e x y).1 h1) ((e y z).1 h2)),fun x y z h1 h2=>(e2 x z).2 (List.le_trans ((e2 y z).1 h2) ((e2 x y).1 h1))⟩
end Go.Proofs.YthedbjfipmkpiaaGreatDoor
namespace Go.Hl
open Go Go.RowKit Go.Sort Go.Pl Go.Proofs
def aY1 (P:Program)(lt:Dig→Dig→Bool)(f g:FuncId)(e:TypeId)(l:List Dig):Prop:=
 HFn P f [.own 0 l.length,.c (.fn g)] 1 (fob [(0,.row e 32 (l.map dg))]) (fun r ob'=>r= .tup []∧ ∃l':List Dig,l'.Perm l∧l'.Pairwise (fun a b=>lt b a=false)∧ob'=fob [(0,.row e 32 (l'.map dg))])
variable {l:List Dig}{e:TypeId}{lt:Dig→Dig→Bool}{P:Program}
theorem bM2 {f g:FuncId}(hok:eO P f=true)
  (hc: ∀(blk cap:Nat) (w:World),HoldsK eC 32 w blk 0 l.toArray→blk<w.heap.size→Calls P f #[.slice (some ⟨blk,0,none⟩) l.length cap,.func (.func g) #[] #[]] w fun x w'=>x= .returned (.tuple #[])∧ ∃(d':Array Dig) (n:Nat) (os:Array Obj),PermIn 0 l.length l.toArray d'∧SortedIn lt 0 l.length d'∧w'=sortWorldK eC 32 w blk 0 n d' os)
  (hc0: ∀(cap:Nat) (w:World),Calls P f #[.slice none 0 cap,.func (.func g) #[] #[]] w fun x w'=>x= .returned (.tuple #[])∧w'=w):aY1 P lt f g e l:=by
 refine⟨qZ hok,fun w ρ X xs hS hA hX=>Does.of hok ?_⟩;obtain⟨h,ys,hρ,hL,hcs,how⟩:=hS.objs 0 (.row e 32 (l.map dg)) rfl;have hys:=mB.1 hL;subst hys;have hlen:hlen h=l.length:=by have:=ownsRow_size how;simpa using this
 have hargs:xs=[h,.func (.func g) #[] #[]]:=by
  rw[bM]at hA;obtain⟨y,zs,rfl,hy,hz⟩:=hA;rw[bM]at hz;obtain⟨y2,zs2,rfl,hy2',hz2⟩:=hz;simp only[RepHV]at hz2;subst hz2;obtain⟨hy1,hy2⟩:=hy;have hag:Value.isAgg' y=false:=by rw[←hy2];rfl
  rw[cells_single hag]at hy1;simp only[RepH,List.cons.injEq,and_true]at hy1;obtain⟨x,rfl,_,hx⟩:=hy1;obtain⟨hz1,hz2⟩:=hy2';have hag2:Value.isAgg' y2=false:=by rw[←hz2];rfl
  rw[cells_single hag2]at hz1;simp only[RepH,RepC,List.cons.injEq,and_true]at hz1;rw[(hx h hρ).2 hlen,hz1]
 subst hargs;have hrt: ∀w':World,RepV w' ρ (Owned ρ X) (.tup []) (.tuple #[]):=fun w'=>by
  refine⟨?_,rfl⟩;simp only[RepH];exact⟨[],rfl,by simp[RepHV]⟩
 rcases how.2 with⟨rfl,hz⟩|⟨g',cap,cur,rfl,hg0,hg,hcap,hmax,hcsz,htake⟩
 ·
  have:l=[]:=List.eq_nil_of_length_eq_zero (by simpa using hz);subst this;refine(hc0 0 w).mono ?_;rintro ex w' ⟨rfl,rfl⟩;refine⟨.tup [],_,ρ,.tuple #[],rfl,⟨rfl,[],List.Perm.refl _,List.Pairwise.nil,rfl⟩,⟨hrt _,by simpa using hS,by simp[HV.men,HV.menL],fun i o ho=>?_,Stay2.refl _ _,Moves.refl _ _⟩⟩;simp only[fob_at,fob_nil]at ho;split at ho
  · rename_i e0;subst e0;cases ho;exact⟨by omega,trivial⟩
  · cases ho
 ·
  simp only[List.length_map]at hcap hcsz htake;have hgs:g'<w.heap.size:=(Array.getElem?_eq_some_iff.1 hg).1;have hH:HoldsK eC 32 w g' 0 l.toArray:=fun j hj=>by
   have hj':j<l.length*32:=by simpa using hj
   refine⟨?_,by simp[World.frozen?,hg]⟩;have e1:cur.toList[j]? =some (flatK eC 32 l.toArray)[j]! :=by
    have e0:(l.flatMap eC)[j]? =some (flatK eC 32 l.toArray)[j]! :=by
     rw[←yS,Array.getElem?_toList,Array.getElem?_eq_getElem (by simpa using hj'),getElem!_pos _ j (by simpa using hj')]
    have:(cur.toList.take (l.length*32))[j]? =(l.flatMap eC)[j]? :=by rw[htake]
    rwa [List.getElem?_take,if_pos hj',e0]at this
   rw[Array.getElem?_toList]at e1;simp only[World.cell?,hg,Nat.zero_add,e1,Option.isSome_none,Bool.false_eq_true,if_false,id]
  simp only[List.length_map];refine(hc g' cap w hH hgs).mono ?_;rintro ex w' ⟨rfl,d',n,os,⟨hps,-,hpp⟩,hso,rfl⟩;obtain⟨S,rfl⟩: ∃S:List Dig,d'=S.toArray:=⟨d'.toList,by simp⟩;have hSl:S.length=l.length:=by simpa using hps
  have hperm:S.Perm l:=by
   have h1:(S.toArray.extract 0 l.length).toList=S:=by rw[←hSl];simp
   have h2:(l.toArray.extract 0 l.length).toList=l:=by simp
   rwa [h1,h2]at hpp
  have hsrt:S.Pairwise (fun a b=>lt b a=false):=List.pairwise_iff_getElem.2 fun i j hi hj hij=>by
   have h1:=hso i j (Nat.zero_le _) hij (by omega);simpa[getElem!_pos,hi,hj]using h1
  have hother: ∀b,b<w.heap.size→b≠g'→(sortWorldK eC 32 w g' 0 n S.toArray os).heap[b]? =w.heap[b]? :=fun b hb hne=>by
   simp only[sortWorldK,putRowK,grow,putRow,mapBlock,Sort.ahead];rw[Array.getElem?_append_left (by simpa using hb),Array.getElem?_modify,if_neg (fun h=>hne h.symm)]
  have hthis:(sortWorldK eC 32 w g' 0 n S.toArray os).heap[g']? =some (.cells (putCells id 0 (flatK eC 32 S.toArray) cur) e (0,0)):=by
   simp only[sortWorldK,putRowK,grow,putRow,mapBlock,Sort.ahead];rw[Array.getElem?_append_left (by simpa using hgs),Array.getElem?_modify,if_pos rfl,hg];rfl
  have hs2:Stay2 w (Own ρ) (sortWorldK eC 32 w g' 0 n S.toArray os) (Own ρ):=⟨fun b hb hno=>hother b hb (fun e'=>hno ⟨0,_,hρ,by rw[e'];rfl⟩),fun _ h=> .inl h,by simp[sortWorldK,putRowK,grow,putRow,mapBlock,Sort.ahead],rfl,rfl,rfl⟩;refine⟨.tup [],_,ρ,.tuple #[],rfl,⟨rfl,S,hperm,hsrt,rfl⟩,⟨hrt _,⟨fun i o ho=>?_,fun i hi=>hS.none i ?_,hS.apart,hS.xb⟩,by simp[HV.men,HV.menL],fun i o ho=>?_,hs2,Moves.refl _ _⟩⟩
  ·
   simp only[fob_at,fob_nil]at ho;split at ho
   ·
    rename_i e0;subst e0;cases ho;refine⟨_,S.flatMap eC,hρ,mB.2 rfl,fun v hv=>?_,by rw[sS,List.length_map],.inr ⟨g',cap,putCells id 0 (flatK eC 32 S.toArray) cur,by simp[hSl],Nat.zero_le _,hthis,by simp[hSl];exact hcap,hmax,?_,?_⟩⟩
    · obtain⟨s,_,rfl⟩:=List.mem_map.1 hv;exact dg_cells s
    · rw[←hcsz];simp[putCells]
    · have h1:=yT (flatK eC 32 S.toArray) cur (by rw[size_flatK,hcsz];simp only[List.size_toArray,hSl];exact Nat.mul_le_mul_right _ hcap);rw[yS,size_flatK]at h1;simpa using h1
   · cases ho
  ·
   simp only[fob_at,fob_nil]at hi⊢;split at hi
   · cases hi
   · rename_i hne;rw[if_neg hne]
  ·
   simp only[fob_at,fob_nil]at ho;split at ho
   · rename_i e0;subst e0;cases ho;exact⟨by omega,trivial⟩
   · cases ho
theorem aY2 {av:List Nat}{f g:FuncId}{ob:Ob}{nid id n:Nat}{K:HV→Ob→Prop}(h:aY1 P lt f g e l)(hid:ob id=some (.row e 32 (l.map dg)))(hn:n=l.length)(hav:id∉av)
  (hfree:Free4 ob nid) (hK: ∀l':List Dig,l'.Perm l→l'.Pairwise (fun a b=>lt b a=false)→K (.tup []) (upd ob id (some (.row e 32 (l'.map dg))))):HCall P av f [.own id n,.c (.fn g)] ob nid K:=by
 have h0:sub [id] nid 0=id:=rfl;subst hn;refine⟨[id],_,_,_,h,aA4 (by simp[HV.menL,HV.men]),⟨by simp,by simpa using hav⟩,by simp only[HV.renL,HV.ren,h0],fun j o hj=>?_,fun r lob' hR _=>?_⟩
 ·
  simp only[fob_at,fob_nil]at hj;split at hj
  · rename_i e0;subst e0;cases hj;simpa[HO.ren]using hid
  · cases hj
 · obtain⟨rfl,l',hp,hq,rfl⟩:=hR;rw[aM2 hfree];exact hK l' hp hq
end Go.Hl
namespace Go.Proofs.YthedbjfipmkpiaaGreatDoor
open Go.RowKit Go.Sort Go.Shelf
def aR9 :Go.Shelf.Ren:=⟨fun|6=>54|15=>89|14=>88|28=>120|29=>121|20=>112|21=>113|22=>114|23=>115|24=>116|25=>117|26=>118|27=>119|46=>139|47=>140|48=>141|49=>142|50=>143|57=>165|n=>n,fun|22=>39|24=>44|25=>105|3=>3|39=>72|0=>0|53=>168|55=>135|4=>4|46=>162|45=>161|50=>81|5=>5|9=>9|66=>184|70=>188|76=>202|77=>203|n=>n,fun|n=>n⟩
theorem bD6 :Go.Proofs.SlLaysF0.n6 Tryz.prog aR9:={
  mixed:=by kernel_rfl
  f6:=⟨Tryz.f54.name,by decide,Tryz.func54.trans (congrArg some (by kernel_rfl))⟩
  f14:=⟨Tryz.f88.name,by decide,Tryz.func88.trans (congrArg some (by kernel_rfl))⟩
  f15:=Tryz.func89.trans (congrArg some (by kernel_rfl))
  f20:=⟨Tryz.f112.name,by decide,Tryz.func112.trans (congrArg some (by kernel_rfl))⟩
  f21:=⟨Tryz.f113.name,by decide,Tryz.func113.trans (congrArg some (by kernel_rfl))⟩
  f22:=⟨Tryz.f114.name,by decide,Tryz.func114.trans (congrArg some (by kernel_rfl))⟩
  f23:=⟨Tryz.f115.name,by decide,Tryz.func115.trans (congrArg some (by kernel_rfl))⟩
  f24:=⟨Tryz.f116.name,by decide,Tryz.func116.trans (congrArg some (by kernel_rfl))⟩
  f25:=⟨Tryz.f117.name,by decide,Tryz.func117.trans (congrArg some (by kernel_rfl))⟩
  f26:=⟨Tryz.f118.name,by decide,Tryz.func118.trans (congrArg some (by kernel_rfl))⟩
  f27:=⟨Tryz.f119.name,by decide,Tryz.func119.trans (congrArg some (by kernel_rfl))⟩
  f28:=Tryz.func120.trans (congrArg some (by kernel_rfl))
  f29:=Tryz.func121.trans (congrArg some (by kernel_rfl))
  f46:=⟨Tryz.f139.name,by decide,Tryz.func139.trans (congrArg some (by kernel_rfl))⟩
  f47:=Tryz.func140.trans (congrArg some (by kernel_rfl))
  f48:=Tryz.func141.trans (congrArg some (by kernel_rfl))
  f49:=⟨Tryz.f142.name,by decide,Tryz.func142.trans (congrArg some (by kernel_rfl))⟩
  f50:=⟨Tryz.f143.name,by decide,Tryz.func143.trans (congrArg some (by kernel_rfl))⟩
  f57:=⟨Tryz.f165.name,by decide,Tryz.func165.trans (congrArg some (by kernel_rfl))⟩
  t0:=Tryz.underlying0
  a0:=Tryz.isAgg0
  z0:=Tryz.sizeOf0
  v0:=Tryz.zeroValue0
  t3:=Tryz.underlying3
  a3:=Tryz.isAgg3
  z3:=Tryz.sizeOf3
  v3:=Tryz.zeroValue3
  t4:=Tryz.underlying4
  a4:=Tryz.isAgg4
  z4:=Tryz.sizeOf4
  v4:=Tryz.zeroValue4
  t5:=Tryz.underlying5
  a5:=Tryz.isAgg5
  z5:=Tryz.sizeOf5
  v5:=Tryz.zeroValue5
  t9:=Tryz.underlying9
  a9:=Tryz.isAgg9
  z9:=Tryz.sizeOf9
  v9:=Tryz.zeroValue9
  t22:=Tryz.underlying39
  a22:=Tryz.isAgg39
  z22:=Tryz.sizeOf39
  v22:=Tryz.zeroValue39
  t25:=Tryz.underlying105
  a25:=Tryz.isAgg105
  z25:=Tryz.sizeOf105
  v25:=Tryz.zeroValue105
  t39:=Tryz.underlying72
  a39:=Tryz.isAgg72
  z39:=Tryz.sizeOf72
  v39:=Tryz.zeroValue72
  t45:=Tryz.underlying161
  a45:=Tryz.isAgg161
  z45:=Tryz.sizeOf161
  v45:=Tryz.zeroValue161
  t46:=Tryz.underlying162
  a46:=Tryz.isAgg162
  z46:=Tryz.sizeOf162
  v46:=Tryz.zeroValue162
  t50:=Tryz.underlying81
  a50:=Tryz.isAgg81
  z50:=Tryz.sizeOf81
  v50:=Tryz.zeroValue81
  t53:=Tryz.underlying168
  a53:=Tryz.isAgg168
  z53:=Tryz.sizeOf168
  v53:=Tryz.zeroValue168
  t55:=Tryz.underlying135
  a55:=Tryz.isAgg135
  z55:=Tryz.sizeOf135
  v55:=Tryz.zeroValue135
  t66:=Tryz.underlying184
  a66:=Tryz.isAgg184
  z66:=Tryz.sizeOf184
  v66:=Tryz.zeroValue184
  t70:=Tryz.underlying188
  a70:=Tryz.isAgg188
  z70:=Tryz.sizeOf188
  v70:=Tryz.zeroValue188
  t76:=Tryz.underlying202
  a76:=Tryz.isAgg202
  z76:=Tryz.sizeOf202
  v76:=Tryz.zeroValue202
  t77:=Tryz.underlying203
  a77:=Tryz.isAgg203
  z77:=Tryz.sizeOf203
  v77:=Tryz.zeroValue203}
theorem bZ2 (l:List Pl.Dig)(hl:l.length<2^40):Hl.aY1 Tryz.prog (ltOf fun x y:Pl.Dig=>Hl.jZ x.1 y.1) 54 55 44 l:=
  Hl.bM2 (by kernel_rfl) (fun blk cap w hH hb=>(AnyQ.slices_SortFunc bD6 32 Tryz.isAgg44 Tryz.sizeOf44 Hl.eC Hl.mA (fun x v hv=>by obtain⟨b,_,rfl⟩:=List.mem_map.1 hv;rfl) (fun x y=>Hl.jZ x.1 y.1) bZ1 55 #[] blk 0 cap l.toArray w
    (enters_of Tryz.func55 (by kernel_rfl) rfl) (aY0 blk _ w) hH hb (by simp;omega)).mono (fun _ _ ⟨h1,d',n,os,h2,h2',h3⟩=>⟨h1,d',n,os,by simpa using h2,by simpa using h2',h3⟩)) (fun cap w=>AnyF.slices_SortFunc_none bD6 none cap _ w)
end Go.Proofs.YthedbjfipmkpiaaGreatDoor
namespace Go.Proofs.YthedbjfipmkpiaaGreatDoor
open Go Go.Hl Go.Pl
set_option maxRecDepth 10000
set_option maxHeartbeats 16000000
theorem qR {X:List Ln}{i:Nat}(h:i<X.length):fP (X.take (i+1))=fP (X.take i)++X[i].d:=by
 unfold fP;rw[List.take_succ_eq_append_getElem h,List.flatMap_append];simp only[List.flatMap_cons,List.flatMap_nil,List.append_nil]
theorem docsL_le (X:List Ln)(i:Nat):(fP (X.take i)).length≤(fP X).length:=by
 have h:fP X=fP (X.take i)++fP (X.drop i):=by
  unfold fP;rw[←List.flatMap_append,List.take_append_drop]
 rw[h,List.length_append];omega
open Go.Sort Go.RowKit Go.Shelf in
theorem cN6 (a b:Dig):ltOf (fun x y:Dig=>jZ x.1 y.1) a b=slt a.1 b.1:=by
 show decide (jZ a.1 b.1<0)=slt a.1 b.1;unfold jZ;by_cases h:slt a.1 b.1=true
 · simp[h]
 have h':slt a.1 b.1=false:=by simpa using h
 rw[h'];by_cases h2:a.1=b.1<;>simp[h2]
theorem cH2 (d:Dv)(hl:d.l.length<2^38)(hd:(fP d.l).length<2^38):cF Tryz.prog 24 [d.cv] (fun v=> ∃K:List Dig,v= .slc (K.map dg)∧dws K=bW5 d.l):=by
 refine bQ Tryz.func24 rfl (by kernel_rfl) (cR _) (Nat.le_of_ble_eq_true rfl) ?_;refine aC fun K hK=>aD (by kernel_rfl) ?_;simp (maxSteps:=4000000) only[↓sP,sA,tyS,simprocAttr];repeat refine AI ?_
 refine hK _ _ _ ?_;clear hK K;refine aC fun K hK=>aD (by kernel_rfl) ?_;simp (maxSteps:=4000000) only[↓sP,sA,tyS,simprocAttr];repeat refine AI ?_
 refine hK _ _ _ ?_;clear hK K;refine aC fun K hK=>?_;refine aC fun K hK=>aD (by kernel_rfl) ?_;simp only[sR,simprocAttr];iterate 4
  (refine aE (g:=none) rfl rfl fun K' hK'=>?_;simp only[sH,↓sP,sA,tyS,simprocAttr];(repeat refine AI ?_);refine hK' _ _ ?_;clear hK' K')
 simp only[sE,↓reduceIte,simprocAttr];repeat refine AI ?_
 refine hK _ _ _ ?_;clear hK K;refine aO ?_;refine iZ 3 0 44 32 rfl rfl rfl rfl ?_;refine bP (α:={i:Nat//i≤d.l.length}) (fun i=>(fin [(3,.own 28 (fP (d.l.take i.1)).length),(7,.c (.slc (d.l.map Ln.cv))),(8,.c (.int .i64 d.l.length)),(9,.c (.int .i64 i.1))],fob [(28,.row 44 32 ((fP (d.l.take i.1)).map dg))])) 200 (fun i=>d.l.length-i.1) ⟨0,by omega⟩ (aM (by omega) (by simp[aW,fin_at,finA_at,upd_at,HV.men,HV.menL,HV.norm,HV.toC,HV.toCL,fP]) (by simp[aX,fob_at,upd_at,none0_at,bI,HO.men,HV.men,HV.menL,HV.norm,HV.toC,HV.toCL,fP])) ?_;rintro⟨i,hi⟩;refine aC fun K hK=>aD (by kernel_rfl) ?_;simp (maxSteps:=4000000) only[↓sP,sA,tyS,simprocAttr];repeat refine AI ?_
 refine hK _ _ _ ?_;clear hK K;refine aC fun K hK=>?_;refine aJ (b:=decide ((i:Int)<d.l.length)) rfl (fun hb=>?_) (fun hb=>?_)
 ·
  have hlt:i<d.l.length:=by have:=of_decide_eq_true hb;omega
  have hle:=docsL_le d.l (i+1);rw[qR hlt,List.length_append]at hle;have hcd:(∀v∈d.l[i].d.map dg,v.cells=32)=True:=eq_true fun v hv=>by
   obtain⟨x,_,rfl⟩:=List.mem_map.1 hv;exact dg_cells x
  clear hb;refine aN ?_;simp (maxSteps:=4000000) only[↓sP,sA,tyS,simprocAttr];repeat refine AI ?_
  refine hK _ _ _ ?_;clear hK K;refine aC fun K hK=>?_;refine aO ?_;refine aC fun K hK=>aD (by kernel_rfl) ?_;simp only[sR,simprocAttr];iterate 4
   (refine aE (g:=none) rfl rfl fun K' hK'=>?_;simp only[sH,↓sP,sA,tyS,simprocAttr,Int.natCast_nonneg,Int.ofNat_lt,hlt,aU hlt];(repeat refine AI ?_);refine hK' _ _ ?_;clear hK' K')
  simp only[sE,↓reduceIte,simprocAttr];repeat refine AI ?_
  refine hK _ _ _ ?_;clear hK K;refine aD (by kernel_rfl) ?_;simp only[sR,simprocAttr];iterate 5
   (refine aE (g:=none) rfl rfl fun K' hK'=>?_;simp only[sH,↓sP,sA,tyS,simprocAttr,List.length_map,hcd];(repeat refine AI ?_);refine hK' _ _ ?_;clear hK' K')
  simp only[sE,↓reduceIte,simprocAttr];repeat refine AI ?_
  refine hK _ _ _ ?_;clear hK K;refine aD (by kernel_rfl) ?_;simp (maxSteps:=4000000) only[↓sP,sA,tyS,simprocAttr,IntWalk.i64_in _ (show-9223372036854775808≤(i:Int)+1∧(i:Int)+1≤9223372036854775807 by omega)];refine⟨⟨i+1,by omega⟩,(aM (by omega) (by simp[aW,fin_at,finA_at,upd_at,HV.men,HV.menL,HV.norm,HV.toC,HV.toCL,qR hlt,List.map_append,List.length_append]) (by simp[aX,fob_at,upd_at,none0_at,bI,HO.men,HV.men,HV.menL,HV.norm,HV.toC,HV.toCL,qR hlt,List.map_append,List.length_append])),?_⟩;show d.l.length-(i+1)<d.l.length-i;omega
 have hie:i=d.l.length:=by have:=of_decide_eq_false hb;omega
 subst hie;clear hb;rw[List.take_length];refine bB ?_;simp (maxSteps:=4000000) only[↓sP,sA,tyS,simprocAttr];clear hK K;repeat refine AI ?_
 refine hK _ _ _ ?_;clear hK K;refine aC fun K hK=>aD (by kernel_rfl) ?_;simp only[sR,simprocAttr];refine aE (g:=none) rfl rfl fun K' hK'=>?_;simp (maxSteps:=4000000) only[sH,↓sP,sA,tyS,simprocAttr];repeat refine AI ?_
 refine hK' _ _ ?_;clear hK' K';refine aE (g:=none) rfl rfl fun K' hK'=>?_;simp (maxSteps:=4000000) only[sH,↓sP,sA,tyS,simprocAttr];refine aY2 (bZ2 (fP d.l) (by omega)) rfl (by simp) (by simp) ⟨rfl,rfl,rfl,rfl⟩ ?_;rintro s hp hs;have hsl:=hp.length_eq;repeat refine AI ?_
 refine hK' _ _ ?_;clear hK' K';simp only[sE,↓reduceIte,simprocAttr];repeat refine AI ?_
 refine hK _ _ _ ?_;clear hK K;refine aC fun K hK=>aD (by kernel_rfl) ?_;simp only[sR,simprocAttr];refine aE (g:=none) rfl rfl fun K' hK'=>?_;simp (maxSteps:=4000000) only[sH,↓sP,sA,tyS,simprocAttr];repeat refine AI ?_
 refine hK' _ _ ?_;clear hK' K';refine aE (g:=none) rfl rfl fun K' hK'=>?_;simp (maxSteps:=4000000) only[sH,↓sP,sA,tyS,simprocAttr];refine bP9 (aR6 s (by omega)) (by simp[HV.menL]) (by simp[HV.renL]) rfl (by simp;omega) (by simp) ⟨rfl,rfl,rfl,rfl⟩ ?_;rintro l' ⟨Q,rfl,hQ⟩;repeat refine AI ?_
 refine hK' _ _ ?_;clear hK' K';refine aE (g:=none) rfl rfl fun K' hK'=>?_;simp (maxSteps:=4000000) only[sH,↓sP,sA,tyS,simprocAttr];repeat refine AI ?_
 refine hK' _ _ ?_;clear hK' K';simp only[sE,↓reduceIte,simprocAttr];repeat refine AI ?_
 refine hK _ _ _ ?_;clear hK K;refine aH ?_;simp (maxSteps:=4000000) only[bK,Tryz.results24,bH,bJ,bG,↓sP,sA,tyS,simprocAttr];refine aK [216] (.slc (Q.map dg)) (by simp[HV.close,fob_at,upd_at,cA7,HV.norm,HV.toC]) ⟨Q,rfl,?_⟩;rw[hQ,bW5];refine bL0 hp (hs.imp fun {a b} h=>?_);rw[←cN6];exact h
end Go.Proofs.YthedbjfipmkpiaaGreatDoor
namespace Go.Pl
open Go Go.Hl
def tr1 :List Nd:=[⟨1,0,0,⟨1,1,0,[]⟩⟩]
def sp1 :List Sp:=[⟨true,[dg1 4],0⟩]
def ln1 :List Ln:=[⟨1,0,[dg1 4],[]⟩,⟨5,0,[],[0]⟩]
def dv1 :Dv:={dv0 with l:=ln1}
theorem cJ3 :eD tr1 (cG sp1)=true:=by decide+kernel
theorem cN7 :eG tr1 sp1=ln1:=by
 have h:nS tr1 sp1=[⟨1,0,[dg1 4],[]⟩]:=rfl;unfold eG;rw[if_pos cJ3,h];rfl
theorem aY3 :jC dv1=[[wDer,[],[],jB zdg,[48],jB zdg,[48]],[wOrg,jB zdg,[],[]],[sB,[48]],[pC,jB (dg1 4)],[bU5,[48],[48]]]:=by
 simp only[jC,mU,dv1,dv0,qs0,og0,ln1,List.flatMap_cons,List.flatMap_nil,fK,firstL,wordK,bI5,List.map_cons,List.map_nil,mZ,List.cons_append,List.nil_append,if_true];rfl
theorem cN8 :dvE dv1=0:=by
 unfold dvE;rw[if_pos (by decide+kernel),aY3];decide+kernel
theorem qS :ddE (dvO dv1)=0∧(ddO (dvO dv1)).l.length=2:=by
 obtain⟨h1,h2,h3⟩:=bU8 cN8 rfl;rw[h2,h3];exact⟨rfl,rfl⟩
end Go.Pl
namespace Go.Proofs.YthedbjfipmkpiaaGreatDoor
open Go Go.Hl Go.Pl
set_option maxRecDepth 10000
set_option maxHeartbeats 16000000
theorem cS2 :DvW dv1:=by
 refine⟨by decide,by decide,fun x hx=>?_,by rw[aY3];decide,by decide⟩;simp only[dv1,ln1,List.mem_cons,List.not_mem_nil,or_false]at hx;rcases hx with rfl|rfl
 · exact⟨by decide,by decide,by simp,by simp,by simp⟩
 exact⟨by decide,by decide,fun n hn=>by obtain rfl:=List.mem_singleton.1 hn;decide,by simp,by simp⟩
theorem cH3 :(dvO dv1).length<2^40:=by
 have h:dvO dv1=vI (jC dv1):=(bU6 cN8).2.2;rw[h,aY3];decide+kernel
theorem cS3 :(bW5 dv1.l).length=1:=by decide+kernel
theorem bZ3 :qA Tryz.prog 17 tabs [] (fun v=>v= .bool true):=by
 refine bQ (args:=[]) Tryz.func17 rfl (by kernel_rfl) (gA tabs []) (Nat.le_of_ble_eq_true rfl) ?_;unfold fV;refine aC fun K hK=>aD (by kernel_rfl) ?_;simp (maxSteps:=4000000) only[↓sP,sA,tyS,simprocAttr];repeat refine AI ?_
 refine hK _ _ _ ?_;clear hK K;refine aC fun K hK=>cH (by kernel_rfl) ?_;simp only[sR,simprocAttr];iterate 2
  (refine aZ (g:=none) rfl rfl fun K' hK'=>?_;simp only[sH,↓sP,sA,tyS,simprocAttr];(repeat refine AI ?_);refine hK' _ _ ?_;clear hK' K')
 refine dU (g:=none) 13 rfl rfl fun K' hK'=>?_;simp (maxSteps:=4000000) only[iT,lK,sH,↓sP,sA,tyS,simprocAttr];repeat refine AI ?_
 refine dX (by first|rfl|simp) ?_;try simp (maxSteps:=4000000) only[sH,↓sP,sA,tyS,simprocAttr]
 repeat refine AI ?_
 refine hK' _ _ ?_;clear hK' K';refine aZ (g:=none) rfl rfl fun K' hK'=>?_;simp (maxSteps:=4000000) only[sH,↓sP,sA,tyS,simprocAttr];repeat refine AI ?_
 refine hK' _ _ ?_;clear hK' K';simp only[sE,↓reduceIte,simprocAttr];repeat refine AI ?_
 refine hK _ _ _ ?_;clear hK K;refine aC fun K hK=>cH (by kernel_rfl) ?_;simp only[sR,simprocAttr];iterate 2
  (refine aZ (g:=none) rfl rfl fun K' hK'=>?_;simp only[sH,↓sP,sA,tyS,simprocAttr];(repeat refine AI ?_);refine hK' _ _ ?_;clear hK' K')
 refine dU (g:=none) 29 rfl rfl fun K' hK'=>?_;simp (maxSteps:=4000000) only[iT,lK,sH,↓sP,sA,tyS,simprocAttr];repeat refine AI ?_
 refine dX (by first|rfl|simp) ?_;try simp (maxSteps:=4000000) only[sH,↓sP,sA,tyS,simprocAttr]
 repeat refine AI ?_
 refine hK' _ _ ?_;clear hK' K';refine aZ (g:=none) rfl rfl fun K' hK'=>?_;simp (maxSteps:=4000000) only[sH,↓sP,sA,tyS,simprocAttr];repeat refine AI ?_
 refine hK' _ _ ?_;clear hK' K';refine dU (g:=none) 37 rfl rfl fun K' hK'=>?_;simp (maxSteps:=4000000) only[iT,lK,sH,↓sP,sA,tyS,simprocAttr];repeat refine AI ?_
 refine dX (by first|rfl|simp) ?_;try simp (maxSteps:=4000000) only[sH,↓sP,sA,tyS,simprocAttr]
 repeat refine AI ?_
 refine hK' _ _ ?_;clear hK' K';refine aZ (g:=none) rfl rfl fun K' hK'=>?_;simp (maxSteps:=4000000) only[sH,↓sP,sA,tyS,simprocAttr];refine eP (args:=[_,_]) (aR5 tr1 (by simp[tr1]) sp1 (by decide) (by simp[sp1])) ⟨rfl,rfl,rfl,rfl⟩ ?_;rintro u v ⟨rfl,rfl⟩;rw[cJ3,cN7];repeat refine AI ?_
 refine hK' _ _ ?_;clear hK' K';iterate 5
  (refine aZ (g:=none) rfl rfl fun K' hK'=>?_;simp only[sH,↓sP,sA,tyS,simprocAttr];(repeat refine AI ?_);refine hK' _ _ ?_;clear hK' K')
 simp only[sE,↓reduceIte,simprocAttr];repeat refine AI ?_
 refine hK _ _ _ ?_;clear hK K;refine aC fun K hK=>aD (by kernel_rfl) ?_;simp only[sR,simprocAttr];iterate 4
  (refine aE (g:=none) rfl rfl fun K' hK'=>?_;simp only[sH,↓sP,sA,tyS,simprocAttr,dH,dI];(repeat refine AI ?_);refine hK' _ _ ?_;clear hK' K')
 simp only[sE,↓reduceIte,simprocAttr];repeat refine AI ?_
 refine hK _ _ _ ?_;clear hK K;refine bO (fr2:=fin [(2,.c (.slc (ln1.map Ln.cv))),(3,.c (.bool true)),(4,.ptr 73 0)]) (ob2:=fob [(0,.tab tabs),(73,.box 50 (.c dv1.cv))]) (nx2:=100) (aM (by omega) (by simp[aW,fin_at,finA_at,upd_at,HV.men,HV.menL,HV.norm,HV.toC,HV.toCL]) (by simp[aX,fob_at,upd_at,none0_at,bI,HO.men,HV.men,HV.menL,HV.norm,HV.toC,HV.toCL];rfl)) ?_;refine aC fun K hK=>aD (by kernel_rfl) ?_;simp only[sR,simprocAttr];refine aE (g:=none) rfl rfl fun K' hK'=>?_;simp (maxSteps:=4000000) only[sH,↓sP,sA,tyS,simprocAttr];repeat refine AI ?_
 refine hK' _ _ ?_;clear hK' K';refine aE (g:=none) rfl rfl fun K' hK'=>?_;simp (maxSteps:=4000000) only[sH,↓sP,sA,tyS,simprocAttr];refine fW (args:=[_]) 0 (aP8 dv1 cS2) rfl (by simp) ⟨rfl,rfl,rfl,rfl⟩ ?_;rintro u v ⟨rfl,rfl⟩;rw[cN8];repeat refine AI ?_
 refine hK' _ _ ?_;clear hK' K';iterate 5
  (refine aE (g:=none) rfl rfl fun K' hK'=>?_;simp only[sH,↓sP,sA,tyS,simprocAttr];(repeat refine AI ?_);refine hK' _ _ ?_;clear hK' K')
 simp only[sE,↓reduceIte,simprocAttr];repeat refine AI ?_
 refine hK _ _ _ ?_;clear hK K;refine aC fun K hK=>aD (by kernel_rfl) ?_;simp only[sR,simprocAttr];refine aE (g:=none) rfl rfl fun K' hK'=>?_;simp (maxSteps:=4000000) only[sH,↓sP,sA,tyS,simprocAttr,cO];repeat refine AI ?_
 refine hK' _ _ ?_;clear hK' K';refine aE (g:=none) rfl rfl fun K' hK'=>?_;simp (maxSteps:=4000000) only[sH,↓sP,sA,tyS,simprocAttr,cO];refine fW (args:=[_]) 0 (cG3 (dvO dv1) cH3) rfl (by simp) ⟨rfl,rfl,rfl,rfl⟩ ?_;rintro u v ⟨rfl,rfl⟩;rw[qS.1];repeat refine AI ?_
 refine hK' _ _ ?_;clear hK' K';iterate 6
  (refine aE (g:=none) rfl rfl fun K' hK'=>?_;simp only[sH,↓sP,sA,tyS,simprocAttr,cO];(repeat refine AI ?_);refine hK' _ _ ?_;clear hK' K')
 simp only[sE,↓reduceIte,simprocAttr];repeat refine AI ?_
 refine hK _ _ _ ?_;clear hK K;refine aC fun K hK=>aD (by kernel_rfl) ?_;simp only[sR,simprocAttr];iterate 2
  (refine aE (g:=none) rfl rfl fun K' hK'=>?_;simp only[sH,↓sP,sA,tyS,simprocAttr,List.length_map,(show((ln1.length:Int)==2)=true from rfl),qS.2,(show(((2:Nat):Int)==2)=true from rfl),(show(((1:Nat):Int)==1)=true from rfl)];(repeat refine AI ?_);refine hK' _ _ ?_;clear hK' K')
 iterate 3
  (refine aE (g:=some (34,true)) rfl rfl fun K' hK'=>?_;simp only[sH,↓sP,sA,tyS,simprocAttr,List.length_map,(show((ln1.length:Int)==2)=true from rfl),qS.2,(show(((2:Nat):Int)==2)=true from rfl),(show(((1:Nat):Int)==1)=true from rfl)];(repeat refine AI ?_);refine hK' _ _ ?_;clear hK' K')
 iterate 2
  (refine aE (g:=none) rfl rfl fun K' hK'=>?_;simp only[sH,↓sP,sA,tyS,simprocAttr,List.length_map,(show((ln1.length:Int)==2)=true from rfl),qS.2,(show(((2:Nat):Int)==2)=true from rfl),(show(((1:Nat):Int)==1)=true from rfl)];(repeat refine AI ?_);refine hK' _ _ ?_;clear hK' K')
 refine aE (g:=some (39,true)) rfl rfl fun K' hK'=>?_;simp (maxSteps:=4000000) only[sH,↓sP,sA,tyS,simprocAttr,List.length_map,(show((ln1.length:Int)==2)=true from rfl),qS.2,(show(((2:Nat):Int)==2)=true from rfl),(show(((1:Nat):Int)==1)=true from rfl)];repeat refine AI ?_
 refine hK' _ _ ?_;clear hK' K';refine aE (g:=some (39,true)) rfl rfl fun K' hK'=>?_;simp (maxSteps:=4000000) only[sH,↓sP,sA,tyS,simprocAttr,List.length_map,(show((ln1.length:Int)==2)=true from rfl),qS.2,(show(((2:Nat):Int)==2)=true from rfl),(show(((1:Nat):Int)==1)=true from rfl)];refine cB (args:=[_]) (cH2 dv1 (by decide) (by decide)) ⟨rfl,rfl,rfl,rfl⟩ ?_;rintro u ⟨D0,rfl,hD0⟩;have hD1:D0.length=1:=by rw[←fO,hD0,cS3]
 repeat refine AI ?_
 refine hK' _ _ ?_;clear hK' K';refine aE (g:=some (39,true)) rfl rfl fun K' hK'=>?_;simp (maxSteps:=4000000) only[sH,↓sP,sA,tyS,simprocAttr,List.length_map,(show((ln1.length:Int)==2)=true from rfl),qS.2,(show(((2:Nat):Int)==2)=true from rfl),(show(((1:Nat):Int)==1)=true from rfl)];rw[hD1];repeat refine AI ?_
 refine hK' _ _ ?_;clear hK' K';refine aE (g:=some (39,true)) rfl rfl fun K' hK'=>?_;simp (maxSteps:=4000000) only[sH,↓sP,sA,tyS,simprocAttr,List.length_map,(show((ln1.length:Int)==2)=true from rfl),qS.2,(show(((2:Nat):Int)==2)=true from rfl),(show(((1:Nat):Int)==1)=true from rfl)];repeat refine AI ?_
 refine hK' _ _ ?_;clear hK' K';iterate 2
  (refine aE (g:=none) rfl rfl fun K' hK'=>?_;simp only[sH,↓sP,sA,tyS,simprocAttr,List.length_map,(show((ln1.length:Int)==2)=true from rfl),qS.2,(show(((2:Nat):Int)==2)=true from rfl),(show(((1:Nat):Int)==1)=true from rfl)];(repeat refine AI ?_);refine hK' _ _ ?_;clear hK' K')
 iterate 2
  (refine aE (g:=some (45,true)) rfl rfl fun K' hK'=>?_;simp only[sH,↓sP,sA,tyS,simprocAttr,List.length_map,(show((ln1.length:Int)==2)=true from rfl),qS.2,(show(((2:Nat):Int)==2)=true from rfl),(show(((1:Nat):Int)==1)=true from rfl)];(repeat refine AI ?_);refine hK' _ _ ?_;clear hK' K')
 iterate 2
  (refine aE (g:=none) rfl rfl fun K' hK'=>?_;simp only[sH,↓sP,sA,tyS,simprocAttr,List.length_map,(show((ln1.length:Int)==2)=true from rfl),qS.2,(show(((2:Nat):Int)==2)=true from rfl),(show(((1:Nat):Int)==1)=true from rfl)];(repeat refine AI ?_);refine hK' _ _ ?_;clear hK' K')
 iterate 2
  (refine aE (g:=some (49,true)) rfl rfl fun K' hK'=>?_;simp only[sH,↓sP,sA,tyS,simprocAttr,List.length_map,(show((ln1.length:Int)==2)=true from rfl),qS.2,(show(((2:Nat):Int)==2)=true from rfl),(show(((1:Nat):Int)==1)=true from rfl)];(repeat refine AI ?_);refine hK' _ _ ?_;clear hK' K')
 iterate 2
  (refine aE (g:=none) rfl rfl fun K' hK'=>?_;simp only[sH,↓sP,sA,tyS,simprocAttr,List.length_map,(show((ln1.length:Int)==2)=true from rfl),qS.2,(show(((2:Nat):Int)==2)=true from rfl),(show(((1:Nat):Int)==1)=true from rfl)];(repeat refine AI ?_);refine hK' _ _ ?_;clear hK' K')
 iterate 4
  (refine aE (g:=some (53,true)) rfl rfl fun K' hK'=>?_;simp only[sH,↓sP,sA,tyS,simprocAttr,List.length_map,(show((ln1.length:Int)==2)=true from rfl),qS.2,(show(((2:Nat):Int)==2)=true from rfl),(show(((1:Nat):Int)==1)=true from rfl)];(repeat refine AI ?_);refine hK' _ _ ?_;clear hK' K')
 iterate 2
  (refine aE (g:=none) rfl rfl fun K' hK'=>?_;simp only[sH,↓sP,sA,tyS,simprocAttr,List.length_map,(show((ln1.length:Int)==2)=true from rfl),qS.2,(show(((2:Nat):Int)==2)=true from rfl),(show(((1:Nat):Int)==1)=true from rfl)];(repeat refine AI ?_);refine hK' _ _ ?_;clear hK' K')
 simp only[sE,↓reduceIte,simprocAttr];repeat refine AI ?_
 refine hK _ _ _ ?_;clear hK K;refine aH ?_;simp (maxSteps:=4000000) only[bK,Tryz.results17,bH,bJ,bG,↓sP,sA,tyS,simprocAttr];exact qB [] (.bool true) rfl rfl (by simp) rfl
structure DvT (d:Dv):Prop where
 t:I64 d.t
 r:I64 d.r
 l: ∀x∈d.l,I64 x.k∧I64 x.n∧ ∀n∈x.f,I64 n
 ll:d.l.length<2^63
theorem iY {α:Type}{f:α→CV}{Q:α→Prop}: ∀(l:List CV),(∀x∈l,∃y,x=f y∧Q y)→ ∃m:List α,l=m.map f∧ ∀y∈m,Q y
 |[],_=>⟨[],rfl,by simp⟩
 |x::l,h=>by
  obtain⟨y,rfl,hy⟩:=h x (by simp);obtain⟨m,rfl,hm⟩:=iY l (fun x hx=>h x (by simp[hx]));exact⟨y::m,rfl,fun z hz=>by rcases List.mem_cons.1 hz with rfl|hz;exact hy;exact hm z hz⟩
theorem cV0 {n:Int}(h:(Lit.int .i64 n).wf=true):I64 n:=by
 simpa[Lit.wf,IntKind.min,IntKind.max,IntKind.signed,IntKind.bits]using h
variable {c:CV}
theorem cH4 (h:HasTy Tryz.prog 5 c): ∃b:UInt8,c= .int .u8 b.toNat∧True:=by
 obtain⟨n,rfl,hw⟩:=h.of_int Tryz.underlying5;have hb:0≤n∧n≤255:=by simpa[Lit.wf,IntKind.min,IntKind.max,IntKind.signed,IntKind.bits]using hw
 refine⟨UInt8.ofNat n.toNat,?_,trivial⟩;congr 1;have:(UInt8.ofNat n.toNat).toNat=n.toNat:=by rw[UInt8.toNat_ofNat'];exact Nat.mod_eq_of_lt (by omega)
 rw[this];omega
theorem cN9 (h:HasTy Tryz.prog 44 c): ∃d:Dig,c=dg d:=by
 obtain⟨l,rfl,hl,hn⟩:=h.of_arr Tryz.underlying44;obtain⟨m,rfl,_⟩:=iY (f:=fun b:UInt8=>CV.int .u8 b.toNat) (Q:=fun _=>True) l (fun x hx=>cH4 (hl x hx));exact⟨⟨m,by simpa using hn⟩,rfl⟩
theorem cH5 (h:HasTy Tryz.prog 39 c): ∃l:List Dig,c= .slc (l.map dg)∧l.length≤maxLen:=by
 obtain⟨l,rfl,hl,hn⟩:=h.of_slc Tryz.underlying39;obtain⟨m,rfl,_⟩:=iY (f:=dg) (Q:=fun _=>True) l (fun x hx=>by obtain⟨d,rfl⟩:=cN9 (hl x hx);exact⟨d,rfl,trivial⟩);exact⟨m,rfl,by simpa using hn⟩
theorem cH6 (h:HasTy Tryz.prog 22 c): ∃L:List Int,c= .slc (L.map (.int .i64))∧(∀n∈L,I64 n)∧L.length≤maxLen:=by
 obtain⟨l,rfl,hl,hn⟩:=h.of_slc Tryz.underlying22;obtain⟨m,rfl,hm⟩:=iY (f:=CV.int .i64) (Q:=I64) l (fun x hx=>by obtain⟨n,rfl,hw⟩:=(hl x hx).of_int Tryz.underlying3;exact⟨n,rfl,cV0 hw⟩);exact⟨m,rfl,hm,by simpa using hn⟩
theorem own :ownKnob Tryz.prog.godebug=none:=by kernel_rfl
theorem cS4 :Kids Tryz.prog (· <Tryz.prog.types.size):=kids_rows (by kernel_rfl) (by kernel_rfl)
theorem aY4 : ∀t e,t<Tryz.prog.types.size→Tryz.prog.underlying t=some (.slice e)→0<Tryz.prog.cellsOf e:=slices_full_of Tryz.prog (by kernel_rfl)
def tp (L:List Int)(a:Nat):CV:= .agg [.slc (L.map (.int .i64)),.int .i64 a]
attribute [local simp] tp
theorem dQ (L:List Int)(a:Nat)(n:Int)(ha:a<2^40)(hn:n<2^62):bF3 Tryz.prog 13 76 (tp L a) [.int .i64 n] (fun u v'=> ∃(x:Int) (a':Nat),u= .int .i64 x∧v'=tp L a'∧a'≤a+1∧0≤x∧(n<1→x=0)∧(1≤n→x<n)):=by
 refine bQ Tryz.func13 rfl (by kernel_rfl) (jO _ _ _) (Nat.le_of_ble_eq_true rfl) ?_;refine R0 ?_;refine aC fun K hK=>?_;refine R0 ?_;refine aJ (b:=decide (n<1)) rfl (fun hb=>?_) (fun hb=>?_)
 · refine R0 ?_;refine aH (RT Tryz.results13 ?_);refine lM [] (.int .i64 0) (tp L a) rfl rfl ?_ (by simp) ⟨0,a,rfl,rfl,by omega,by omega,fun _=>rfl,fun h=>by omega⟩;simp[HV.close,tp,CV.denil,CV.denilL,denilL_int,HV.norm,HV.toC]
 refine aN ?_;refine T0 (hK _ _ _ ?_);clear hK K;refine aC fun K hK=>Rg ?_;iterate 7 refine S0 ?_ (e:=fun _ h_=>by simp only[sH,↓sP,sA,tyS,simprocAttr,tp];exact AX h_)
 refine T2 (hK _ _ _ ?_);clear hK K;refine aC fun K hK=>?_;have key: ∀(v:Int) fr ob nx,Fits 1 fr ob (fin [(0,.ptr 0 0),(1,.c (.int .i64 n)),(5,.c (.int .i64 v))]) (fob [(0,.box 76 (.c (tp L a)))]) 300→K fr ob nx:=by
  intro v fr ob nx hf;refine hK _ _ _ (bO hf ?_);clear hf hK K;have hn1:1≤n:=by simp at hb;omega
  have e0:=Int.tmod_lt_of_pos v (b:=n) (by omega);have e1: -n<v.tmod n:=Int.lt_tmod_of_pos v (by omega);refine aC fun K hK=>Rg ?_;iterate 8 refine S0 ?_ (e:=fun _ h_=>by simp only[sH,↓sP,sA,tyS,simprocAttr,tp];exact AX h_)
  refine T2 (hK _ _ _ ?_);clear hK K;refine aC fun K hK=>Rg ?_;iterate 8 refine S0 ?_ (e:=fun _ h_=>by simp only[sH,↓sP,sA,tyS,simprocAttr,tp];exact AX h_)
  refine T2 (hK _ _ _ ?_);clear hK K;refine aH (RT Tryz.results13 ?_);have e2:IntKind.i64.wrap (v.tmod n+n)=v.tmod n+n:=IntWalk.i64_in _ (by omega);have e3:IntKind.i64.wrap ((a:Int)+1)=((a+1:Nat):Int):=IntWalk.i64_in _ (by omega);refine lM [] (.int .i64 ((v.tmod n+n).tmod n)) (tp L (a+1)) (by rw[e2];rfl) rfl ?_ (by simp) ⟨_,a+1,rfl,rfl,by omega,Int.tmod_nonneg _ (by omega),fun h=>by omega,fun _=>Int.tmod_lt_of_pos _ (by omega)⟩;simp[HV.close,HV.closeL,tp,CV.denil,CV.denilL,denilL_int,HV.norm,HV.toC,HV.toCL,e3]
 refine aC fun K hK=>QR ?_;iterate 10 refine S0 ?_ (e:=fun _ h_=>by simp only[sH,↓sP,sA,tyS,simprocAttr,tp];exact AX h_)
 refine T2 (hK _ _ _ ?_);clear hK K;refine aJ (b:=decide ((a:Int)<L.length)) rfl (fun hb=>?_) (fun hb=>?_)
 ·
  refine QW ?_;simp only[sR,simprocAttr];iterate 11 refine S0 ?_ (e:=fun _ h_=>by simp only[sH,↓sP,sA,tyS,simprocAttr,tp,Int.natCast_nonneg,(by simpa using hb:(a:Int)<L.length),aU (show a<L.length by simpa using hb)];exact AX h_)
  refine T4 ?_;exact key (L[a]'(by simpa using hb)) _ _ _ (fF)
 refine aN (T3 ?_);exact key (IntKind.i64.wrap (IntKind.i64.wrap (↑a*7)+3)) _ _ _ (fF)
theorem cH7 (L:List Int)(a:Nat)(l:List aL)(ha:a<2^40)(hl:1≤l.length∧l.length<2^40):bF3 Tryz.prog 91 76 (tp L a) [.slc (l.map .str)] (fun u v'=> ∃(w:aL) (a':Nat),u= .str w∧w∈l∧v'=tp L a'∧a'≤a+1):=by
 refine bQ Tryz.func91 rfl (by kernel_rfl) (jO _ _ _) (Nat.le_of_ble_eq_true rfl) ?_;refine R0 ?_;refine aC fun K hK=>aD (by kernel_rfl) ?_;simp only[↓sP,sA,tyS,simprocAttr];refine cN (args:=[_]) (dQ L a l.length ha (by omega)) rfl (by simp) ⟨rfl,rfl,rfl,rfl⟩ ?_;rintro u v' ⟨x,a',rfl,rfl,h1,h2,h3,h4⟩;obtain⟨i,rfl⟩: ∃i:Nat,x=i:=⟨x.toNat,by omega⟩;have hlt:i<l.length:=by omega
 simp only[↓sP,sA,tyS,simprocAttr,Int.natCast_nonneg,Int.ofNat_lt,hlt,aU hlt];refine AX (hK _ _ _ ?_);clear hK K;refine aH (RT Tryz.results91 ?_);exact lM [] (.str l[i]) (tp L a') rfl rfl (by simp[HV.close,HV.closeL,tp,CV.denil,CV.denilL,denilL_int,HV.norm,HV.toC,HV.toCL]) (by simp) ⟨_,a',rfl,List.getElem_mem _,rfl,h1⟩
end Go.Proofs.YthedbjfipmkpiaaGreatDoor
