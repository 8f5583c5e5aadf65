/- The typed arguments of the laws of chapter 31, by content. By an AI agent. -/
import Derived.Test.YthedbjfipmkpiaaGreatDoorHdSk
import Derived.Test.YthedbjfipmkpiaaGreatDoorHdSb
import Derived.Test.YthedbjfipmkpiaaGreatDoorHdX3
import Derived.Test.YthedbjfipmkpiaaGreatDoorHdFm
import Derived.Test.YthedbjfipmkpiaaGreatDoorPl02g
import Derived.Test.YthedbjfipmkpiaaGreatDoorHdU2
import Derived.Test.YthedbjfipmkpiaaGreatDoorPl18e
import Derived.Test.YthedbjfipmkpiaaGreatDoorHdW9
import Derived.Test.YthedbjfipmkpiaaGreatDoorHlTlaw
import Derived.Test.YthedbjfipmkpiaaGreatDoorRows
set_option linter.unusedSimpArgs false
set_option linter.unusedVariables false
set_option linter.defProp false
namespace Go.Proofs.YthedbjfipmkpiaaGreatDoor
open Go Go.Hl Go.Pl
set_option maxRecDepth 10000
set_option maxHeartbeats 16000000
theorem rJ {X:List Ln}{i:Nat}(h:i<X.length):fZ (X.take (i+1))=fZ (X.take i)++X[i].d:=by
 unfold fZ;rw[List.take_succ_eq_append_getElem h,List.flatMap_append];simp only[List.flatMap_cons,List.flatMap_nil,List.append_nil]
theorem docsL_le (X:List Ln)(i:Nat):(fZ (X.take i)).length≤(fZ X).length:=by
 have h:fZ X=fZ (X.take i)++fZ (X.drop i):=by
  unfold fZ;rw[←List.flatMap_append,List.take_append_drop]
 rw[h,List.length_append];omega
open Go.Sort Go.RowKit Go.Shelf in
theorem cS1 (a b:Dig):ltOf (fun x y:Dig=>kO x.1 y.1) a b=slt a.1 b.1:=by
 show decide (kO a.1 b.1<0)=slt a.1 b.1;unfold kO;by_cases h:slt a.1 b.1=true
 · simp[h]
 have h':slt a.1 b.1=false:=by simpa using h
 rw[h'];by_cases h2:a.1=b.1<;>simp[h2]
theorem cL4 (d:Dv)(hl:d.l.length<2^38)(hd:(fZ d.l).length<2^38):cJ Tryz.prog 24 [d.cv] (fun v=> ∃K:List Dig,v= .slc (K.map dg)∧dws K=cB0 d.l):=by
 refine cI Tryz.func24 rfl (by kernel_rfl) (dT _) (Nat.le_of_ble_eq_true rfl) ?_;refine aB fun K hK=>aD (by kernel_rfl) ?_;simp (maxSteps:=4000000) only[↓sP,sA,tyS,simprocAttr];repeat refine AI ?_
 refine hK _ _ _ ?_;clear hK K;refine aB fun K hK=>aD (by kernel_rfl) ?_;simp (maxSteps:=4000000) only[↓sP,sA,tyS,simprocAttr];repeat refine AI ?_
 refine hK _ _ _ ?_;clear hK K;refine aB fun K hK=>?_;refine aB fun K hK=>aD (by kernel_rfl) ?_;simp only[sR,simprocAttr];iterate 4
  (refine aE (g:=none) rfl rfl fun K' hK'=>?_;simp only[sH,↓sP,sA,tyS,simprocAttr];(repeat refine AI ?_);refine hK' _ _ ?_;clear hK' K')
 simp only[sE,↓reduceIte,simprocAttr];repeat refine AI ?_
 refine hK _ _ _ ?_;clear hK K;refine aN ?_;refine gQ 3 0 44 32 rfl rfl rfl rfl ?_;refine bF (α:={i:Nat//i≤d.l.length}) (fun i=>(fin [(3,.own 28 (fZ (d.l.take i.1)).length),(7,.c (.slc (d.l.map Ln.cv))),(8,.c (.int .i64 d.l.length)),(9,.c (.int .i64 i.1))],fob [(28,.row 44 32 ((fZ (d.l.take i.1)).map dg))])) 200 (fun i=>d.l.length-i.1) ⟨0,by omega⟩ (aM (by omega) (by simp[aW,fin_at,finA_at,upd_at,HV.men,HV.menL,HV.norm,HV.toC,HV.toCL,fZ]) (by simp[aX,fob_at,upd_at,none0_at,bT,HO.men,HV.men,HV.menL,HV.norm,HV.toC,HV.toCL,fZ])) ?_;rintro⟨i,hi⟩;refine aB fun K hK=>aD (by kernel_rfl) ?_;simp (maxSteps:=4000000) only[↓sP,sA,tyS,simprocAttr];repeat refine AI ?_
 refine hK _ _ _ ?_;clear hK K;refine aB fun K hK=>?_;refine aH (b:=decide ((i:Int)<d.l.length)) rfl (fun hb=>?_) (fun hb=>?_)
 ·
  have hlt:i<d.l.length:=by have:=of_decide_eq_true hb;omega
  have hle:=docsL_le d.l (i+1);rw[rJ hlt,List.length_append]at hle;have hcd:(∀v∈d.l[i].d.map dg,v.cells=32)=True:=eq_true fun v hv=>by
   obtain⟨x,_,rfl⟩:=List.mem_map.1 hv;exact dg_cells x
  clear hb;refine aK ?_;simp (maxSteps:=4000000) only[↓sP,sA,tyS,simprocAttr];repeat refine AI ?_
  refine hK _ _ _ ?_;clear hK K;refine aB fun K hK=>?_;refine aN ?_;refine aB fun K hK=>aD (by kernel_rfl) ?_;simp only[sR,simprocAttr];iterate 4
   (refine aE (g:=none) rfl rfl fun K' hK'=>?_;simp only[sH,↓sP,sA,tyS,simprocAttr,Int.natCast_nonneg,Int.ofNat_lt,hlt,bP hlt];(repeat refine AI ?_);refine hK' _ _ ?_;clear hK' K')
  simp only[sE,↓reduceIte,simprocAttr];repeat refine AI ?_
  refine hK _ _ _ ?_;clear hK K;refine aD (by kernel_rfl) ?_;simp only[sR,simprocAttr];iterate 5
   (refine aE (g:=none) rfl rfl fun K' hK'=>?_;simp only[sH,↓sP,sA,tyS,simprocAttr,List.length_map,hcd];(repeat refine AI ?_);refine hK' _ _ ?_;clear hK' K')
  simp only[sE,↓reduceIte,simprocAttr];repeat refine AI ?_
  refine hK _ _ _ ?_;clear hK K;refine aD (by kernel_rfl) ?_;simp (maxSteps:=4000000) only[↓sP,sA,tyS,simprocAttr,IntWalk.i64_in _ (show-9223372036854775808≤(i:Int)+1∧(i:Int)+1≤9223372036854775807 by omega)];refine⟨⟨i+1,by omega⟩,(aM (by omega) (by simp[aW,fin_at,finA_at,upd_at,HV.men,HV.menL,HV.norm,HV.toC,HV.toCL,rJ hlt,List.map_append,List.length_append]) (by simp[aX,fob_at,upd_at,none0_at,bT,HO.men,HV.men,HV.menL,HV.norm,HV.toC,HV.toCL,rJ hlt,List.map_append,List.length_append])),?_⟩;show d.l.length-(i+1)<d.l.length-i;omega
 have hie:i=d.l.length:=by have:=of_decide_eq_false hb;omega
 subst hie;clear hb;rw[List.take_length];refine bA ?_;simp (maxSteps:=4000000) only[↓sP,sA,tyS,simprocAttr];clear hK K;repeat refine AI ?_
 refine hK _ _ _ ?_;clear hK K;refine aB fun K hK=>aD (by kernel_rfl) ?_;simp only[sR,simprocAttr];refine aE (g:=none) rfl rfl fun K' hK'=>?_;simp (maxSteps:=4000000) only[sH,↓sP,sA,tyS,simprocAttr];repeat refine AI ?_
 refine hK' _ _ ?_;clear hK' K';refine aE (g:=none) rfl rfl fun K' hK'=>?_;simp (maxSteps:=4000000) only[sH,↓sP,sA,tyS,simprocAttr];refine bB4 (cD4 (fZ d.l) (by omega)) rfl (by simp) (by simp) ⟨rfl,rfl,rfl,rfl⟩ ?_;rintro s hp hs;have hsl:=hp.length_eq;repeat refine AI ?_
 refine hK' _ _ ?_;clear hK' K';simp only[sE,↓reduceIte,simprocAttr];repeat refine AI ?_
 refine hK _ _ _ ?_;clear hK K;refine aB fun K hK=>aD (by kernel_rfl) ?_;simp only[sR,simprocAttr];refine aE (g:=none) rfl rfl fun K' hK'=>?_;simp (maxSteps:=4000000) only[sH,↓sP,sA,tyS,simprocAttr];repeat refine AI ?_
 refine hK' _ _ ?_;clear hK' K';refine aE (g:=none) rfl rfl fun K' hK'=>?_;simp (maxSteps:=4000000) only[sH,↓sP,sA,tyS,simprocAttr];refine bU4 (aU7 s (by omega)) (by simp[HV.menL]) (by simp[HV.renL]) rfl (by simp;omega) (by simp) ⟨rfl,rfl,rfl,rfl⟩ ?_;rintro l' ⟨Q,rfl,hQ⟩;repeat refine AI ?_
 refine hK' _ _ ?_;clear hK' K';refine aE (g:=none) rfl rfl fun K' hK'=>?_;simp (maxSteps:=4000000) only[sH,↓sP,sA,tyS,simprocAttr];repeat refine AI ?_
 refine hK' _ _ ?_;clear hK' K';simp only[sE,↓reduceIte,simprocAttr];repeat refine AI ?_
 refine hK _ _ _ ?_;clear hK K;refine aF ?_;simp (maxSteps:=4000000) only[bS,Tryz.results24,bN,bR,bM,↓sP,sA,tyS,simprocAttr];refine aJ [216] (.slc (Q.map dg)) (by simp[HV.close,fob_at,upd_at,cF6,HV.norm,HV.toC]) ⟨Q,rfl,?_⟩;rw[hQ,cB0];refine bO6 hp (hs.imp fun {a b} h=>?_);rw[←cS1];exact h
end Go.Proofs.YthedbjfipmkpiaaGreatDoor
namespace Go.Pl
open Go Go.Hl
def tr1 :List Nd:=[⟨1,0,0,⟨1,1,0,[]⟩⟩]
def sp1 :List Sp:=[⟨true,[dg1 4],0⟩]
def ln1 :List Ln:=[⟨1,0,[dg1 4],[]⟩,⟨5,0,[],[0]⟩]
def dv1 :Dv:={dv0 with l:=ln1}
theorem cN9 :mF tr1 (eD sp1)=true:=by decide+kernel
theorem cS2 :qR tr1 sp1=ln1:=by
 have h:aP8 tr1 sp1=[⟨1,0,[dg1 4],[]⟩]:=rfl;unfold qR;rw[if_pos cN9,h];rfl
theorem bB5 :iZ dv1=[[wDer,[],[],jO zdg,[48],jO zdg,[48]],[wOrg,jO zdg,[],[]],[lF,[48]],[jW,jO (dg1 4)],[vE,[48],[48]]]:=by
 simp only[iZ,lG,dv1,dv0,qs0,og0,ln1,List.flatMap_cons,List.flatMap_nil,dV,firstL,wordK,aF2,List.map_cons,List.map_nil,lW,List.cons_append,List.nil_append,if_true];rfl
theorem cS3 :dvE dv1=0:=by
 unfold dvE;rw[if_pos (by decide+kernel),bB5];decide+kernel
theorem rK :ddE (dvO dv1)=0∧(ddO (dvO dv1)).l.length=2:=by
 obtain⟨h1,h2,h3⟩:=aS4 cS3 rfl;rw[h2,h3];exact⟨rfl,rfl⟩
end Go.Pl
namespace Go.Proofs.YthedbjfipmkpiaaGreatDoor
open Go Go.Hl Go.Pl
set_option maxRecDepth 10000
set_option maxHeartbeats 16000000
theorem cW3 :DvW dv1:=by
 refine⟨by decide,by decide,fun x hx=>?_,by rw[bB5];decide,by decide⟩;simp only[dv1,ln1,List.mem_cons,List.not_mem_nil,or_false]at hx;rcases hx with rfl|rfl
 · exact⟨by decide,by decide,by simp,by simp,by simp⟩
 exact⟨by decide,by decide,fun n hn=>by obtain rfl:=List.mem_singleton.1 hn;decide,by simp,by simp⟩
theorem cL5 :(dvO dv1).length<2^40:=by
 have h:dvO dv1=sW (iZ dv1):=(bZ1 cS3).2.2;rw[h,bB5];decide+kernel
theorem cW4 :(cB0 dv1.l).length=1:=by decide+kernel
theorem aV1 :oH Tryz.prog 17 tabs [] (fun v=>v= .bool true):=by
 refine cI (args:=[]) Tryz.func17 rfl (by kernel_rfl) (gJ tabs []) (Nat.le_of_ble_eq_true rfl) ?_;unfold gE;refine aB fun K hK=>aD (by kernel_rfl) ?_;simp (maxSteps:=4000000) only[↓sP,sA,tyS,simprocAttr];repeat refine AI ?_
 refine hK _ _ _ ?_;clear hK K;refine aB fun K hK=>bY (by kernel_rfl) ?_;simp only[sR,simprocAttr];iterate 2
  (refine aZ (g:=none) rfl rfl fun K' hK'=>?_;simp only[sH,↓sP,sA,tyS,simprocAttr];(repeat refine AI ?_);refine hK' _ _ ?_;clear hK' K')
 refine eB (g:=none) 13 rfl rfl fun K' hK'=>?_;simp (maxSteps:=4000000) only[iT,kW,sH,↓sP,sA,tyS,simprocAttr];repeat refine AI ?_
 refine dO (by first|rfl|simp) ?_;try simp (maxSteps:=4000000) only[sH,↓sP,sA,tyS,simprocAttr]
 repeat refine AI ?_
 refine hK' _ _ ?_;clear hK' K';refine aZ (g:=none) rfl rfl fun K' hK'=>?_;simp (maxSteps:=4000000) only[sH,↓sP,sA,tyS,simprocAttr];repeat refine AI ?_
 refine hK' _ _ ?_;clear hK' K';simp only[sE,↓reduceIte,simprocAttr];repeat refine AI ?_
 refine hK _ _ _ ?_;clear hK K;refine aB fun K hK=>bY (by kernel_rfl) ?_;simp only[sR,simprocAttr];iterate 2
  (refine aZ (g:=none) rfl rfl fun K' hK'=>?_;simp only[sH,↓sP,sA,tyS,simprocAttr];(repeat refine AI ?_);refine hK' _ _ ?_;clear hK' K')
 refine eB (g:=none) 29 rfl rfl fun K' hK'=>?_;simp (maxSteps:=4000000) only[iT,kW,sH,↓sP,sA,tyS,simprocAttr];repeat refine AI ?_
 refine dO (by first|rfl|simp) ?_;try simp (maxSteps:=4000000) only[sH,↓sP,sA,tyS,simprocAttr]
 repeat refine AI ?_
 refine hK' _ _ ?_;clear hK' K';refine aZ (g:=none) rfl rfl fun K' hK'=>?_;simp (maxSteps:=4000000) only[sH,↓sP,sA,tyS,simprocAttr];repeat refine AI ?_
 refine hK' _ _ ?_;clear hK' K';refine eB (g:=none) 37 rfl rfl fun K' hK'=>?_;simp (maxSteps:=4000000) only[iT,kW,sH,↓sP,sA,tyS,simprocAttr];repeat refine AI ?_
 refine dO (by first|rfl|simp) ?_;try simp (maxSteps:=4000000) only[sH,↓sP,sA,tyS,simprocAttr]
 repeat refine AI ?_
 refine hK' _ _ ?_;clear hK' K';refine aZ (g:=none) rfl rfl fun K' hK'=>?_;simp (maxSteps:=4000000) only[sH,↓sP,sA,tyS,simprocAttr];refine iK (args:=[_,_]) (cD2 tr1 (by simp[tr1]) sp1 (by decide) (by simp[sp1])) ⟨rfl,rfl,rfl,rfl⟩ ?_;rintro u v ⟨rfl,rfl⟩;rw[cN9,cS2];repeat refine AI ?_
 refine hK' _ _ ?_;clear hK' K';iterate 5
  (refine aZ (g:=none) rfl rfl fun K' hK'=>?_;simp only[sH,↓sP,sA,tyS,simprocAttr];(repeat refine AI ?_);refine hK' _ _ ?_;clear hK' K')
 simp only[sE,↓reduceIte,simprocAttr];repeat refine AI ?_
 refine hK _ _ _ ?_;clear hK K;refine aB fun K hK=>aD (by kernel_rfl) ?_;simp only[sR,simprocAttr];iterate 4
  (refine aE (g:=none) rfl rfl fun K' hK'=>?_;simp only[sH,↓sP,sA,tyS,simprocAttr,bH,bI];(repeat refine AI ?_);refine hK' _ _ ?_;clear hK' K')
 simp only[sE,↓reduceIte,simprocAttr];repeat refine AI ?_
 refine hK _ _ _ ?_;clear hK K;refine bE (fr2:=fin [(2,.c (.slc (ln1.map Ln.cv))),(3,.c (.bool true)),(4,.ptr 73 0)]) (ob2:=fob [(0,.tab tabs),(73,.box 50 (.c dv1.cv))]) (nx2:=100) (aM (by omega) (by simp[aW,fin_at,finA_at,upd_at,HV.men,HV.menL,HV.norm,HV.toC,HV.toCL]) (by simp[aX,fob_at,upd_at,none0_at,bT,HO.men,HV.men,HV.menL,HV.norm,HV.toC,HV.toCL];rfl)) ?_;refine aB fun K hK=>aD (by kernel_rfl) ?_;simp only[sR,simprocAttr];refine aE (g:=none) rfl rfl fun K' hK'=>?_;simp (maxSteps:=4000000) only[sH,↓sP,sA,tyS,simprocAttr];repeat refine AI ?_
 refine hK' _ _ ?_;clear hK' K';refine aE (g:=none) rfl rfl fun K' hK'=>?_;simp (maxSteps:=4000000) only[sH,↓sP,sA,tyS,simprocAttr];refine fL (args:=[_]) 0 (aT2 dv1 cW3) rfl (by simp) ⟨rfl,rfl,rfl,rfl⟩ ?_;rintro u v ⟨rfl,rfl⟩;rw[cS3];repeat refine AI ?_
 refine hK' _ _ ?_;clear hK' K';iterate 5
  (refine aE (g:=none) rfl rfl fun K' hK'=>?_;simp only[sH,↓sP,sA,tyS,simprocAttr];(repeat refine AI ?_);refine hK' _ _ ?_;clear hK' K')
 simp only[sE,↓reduceIte,simprocAttr];repeat refine AI ?_
 refine hK _ _ _ ?_;clear hK K;refine aB fun K hK=>aD (by kernel_rfl) ?_;simp only[sR,simprocAttr];refine aE (g:=none) rfl rfl fun K' hK'=>?_;simp (maxSteps:=4000000) only[sH,↓sP,sA,tyS,simprocAttr,bU];repeat refine AI ?_
 refine hK' _ _ ?_;clear hK' K';refine aE (g:=none) rfl rfl fun K' hK'=>?_;simp (maxSteps:=4000000) only[sH,↓sP,sA,tyS,simprocAttr,bU];refine fL (args:=[_]) 0 (bH3 (dvO dv1) cL5) rfl (by simp) ⟨rfl,rfl,rfl,rfl⟩ ?_;rintro u v ⟨rfl,rfl⟩;rw[rK.1];repeat refine AI ?_
 refine hK' _ _ ?_;clear hK' K';iterate 6
  (refine aE (g:=none) rfl rfl fun K' hK'=>?_;simp only[sH,↓sP,sA,tyS,simprocAttr,bU];(repeat refine AI ?_);refine hK' _ _ ?_;clear hK' K')
 simp only[sE,↓reduceIte,simprocAttr];repeat refine AI ?_
 refine hK _ _ _ ?_;clear hK K;refine aB fun K hK=>aD (by kernel_rfl) ?_;simp only[sR,simprocAttr];iterate 2
  (refine aE (g:=none) rfl rfl fun K' hK'=>?_;simp only[sH,↓sP,sA,tyS,simprocAttr,List.length_map,(show((ln1.length:Int)==2)=true from rfl),rK.2,(show(((2:Nat):Int)==2)=true from rfl),(show(((1:Nat):Int)==1)=true from rfl)];(repeat refine AI ?_);refine hK' _ _ ?_;clear hK' K')
 iterate 3
  (refine aE (g:=some (34,true)) rfl rfl fun K' hK'=>?_;simp only[sH,↓sP,sA,tyS,simprocAttr,List.length_map,(show((ln1.length:Int)==2)=true from rfl),rK.2,(show(((2:Nat):Int)==2)=true from rfl),(show(((1:Nat):Int)==1)=true from rfl)];(repeat refine AI ?_);refine hK' _ _ ?_;clear hK' K')
 iterate 2
  (refine aE (g:=none) rfl rfl fun K' hK'=>?_;simp only[sH,↓sP,sA,tyS,simprocAttr,List.length_map,(show((ln1.length:Int)==2)=true from rfl),rK.2,(show(((2:Nat):Int)==2)=true from rfl),(show(((1:Nat):Int)==1)=true from rfl)];(repeat refine AI ?_);refine hK' _ _ ?_;clear hK' K')
 refine aE (g:=some (39,true)) rfl rfl fun K' hK'=>?_;simp (maxSteps:=4000000) only[sH,↓sP,sA,tyS,simprocAttr,List.length_map,(show((ln1.length:Int)==2)=true from rfl),rK.2,(show(((2:Nat):Int)==2)=true from rfl),(show(((1:Nat):Int)==1)=true from rfl)];repeat refine AI ?_
 refine hK' _ _ ?_;clear hK' K';refine aE (g:=some (39,true)) rfl rfl fun K' hK'=>?_;simp (maxSteps:=4000000) only[sH,↓sP,sA,tyS,simprocAttr,List.length_map,(show((ln1.length:Int)==2)=true from rfl),rK.2,(show(((2:Nat):Int)==2)=true from rfl),(show(((1:Nat):Int)==1)=true from rfl)];refine dN (args:=[_]) (cL4 dv1 (by decide) (by decide)) ⟨rfl,rfl,rfl,rfl⟩ ?_;rintro u ⟨D0,rfl,hD0⟩;have hD1:D0.length=1:=by rw[←jY,hD0,cW4]
 repeat refine AI ?_
 refine hK' _ _ ?_;clear hK' K';refine aE (g:=some (39,true)) rfl rfl fun K' hK'=>?_;simp (maxSteps:=4000000) only[sH,↓sP,sA,tyS,simprocAttr,List.length_map,(show((ln1.length:Int)==2)=true from rfl),rK.2,(show(((2:Nat):Int)==2)=true from rfl),(show(((1:Nat):Int)==1)=true from rfl)];rw[hD1];repeat refine AI ?_
 refine hK' _ _ ?_;clear hK' K';refine aE (g:=some (39,true)) rfl rfl fun K' hK'=>?_;simp (maxSteps:=4000000) only[sH,↓sP,sA,tyS,simprocAttr,List.length_map,(show((ln1.length:Int)==2)=true from rfl),rK.2,(show(((2:Nat):Int)==2)=true from rfl),(show(((1:Nat):Int)==1)=true from rfl)];repeat refine AI ?_
 refine hK' _ _ ?_;clear hK' K';iterate 2
  (refine aE (g:=none) rfl rfl fun K' hK'=>?_;simp only[sH,↓sP,sA,tyS,simprocAttr,List.length_map,(show((ln1.length:Int)==2)=true from rfl),rK.2,(show(((2:Nat):Int)==2)=true from rfl),(show(((1:Nat):Int)==1)=true from rfl)];(repeat refine AI ?_);refine hK' _ _ ?_;clear hK' K')
 iterate 2
  (refine aE (g:=some (45,true)) rfl rfl fun K' hK'=>?_;simp only[sH,↓sP,sA,tyS,simprocAttr,List.length_map,(show((ln1.length:Int)==2)=true from rfl),rK.2,(show(((2:Nat):Int)==2)=true from rfl),(show(((1:Nat):Int)==1)=true from rfl)];(repeat refine AI ?_);refine hK' _ _ ?_;clear hK' K')
 iterate 2
  (refine aE (g:=none) rfl rfl fun K' hK'=>?_;simp only[sH,↓sP,sA,tyS,simprocAttr,List.length_map,(show((ln1.length:Int)==2)=true from rfl),rK.2,(show(((2:Nat):Int)==2)=true from rfl),(show(((1:Nat):Int)==1)=true from rfl)];(repeat refine AI ?_);refine hK' _ _ ?_;clear hK' K')
 iterate 2
  (refine aE (g:=some (49,true)) rfl rfl fun K' hK'=>?_;simp only[sH,↓sP,sA,tyS,simprocAttr,List.length_map,(show((ln1.length:Int)==2)=true from rfl),rK.2,(show(((2:Nat):Int)==2)=true from rfl),(show(((1:Nat):Int)==1)=true from rfl)];(repeat refine AI ?_);refine hK' _ _ ?_;clear hK' K')
 iterate 2
  (refine aE (g:=none) rfl rfl fun K' hK'=>?_;simp only[sH,↓sP,sA,tyS,simprocAttr,List.length_map,(show((ln1.length:Int)==2)=true from rfl),rK.2,(show(((2:Nat):Int)==2)=true from rfl),(show(((1:Nat):Int)==1)=true from rfl)];(repeat refine AI ?_);refine hK' _ _ ?_;clear hK' K')
 iterate 4
  (refine aE (g:=some (53,true)) rfl rfl fun K' hK'=>?_;simp only[sH,↓sP,sA,tyS,simprocAttr,List.length_map,(show((ln1.length:Int)==2)=true from rfl),rK.2,(show(((2:Nat):Int)==2)=true from rfl),(show(((1:Nat):Int)==1)=true from rfl)];(repeat refine AI ?_);refine hK' _ _ ?_;clear hK' K')
 iterate 2
  (refine aE (g:=none) rfl rfl fun K' hK'=>?_;simp only[sH,↓sP,sA,tyS,simprocAttr,List.length_map,(show((ln1.length:Int)==2)=true from rfl),rK.2,(show(((2:Nat):Int)==2)=true from rfl),(show(((1:Nat):Int)==1)=true from rfl)];(repeat refine AI ?_);refine hK' _ _ ?_;clear hK' K')
 simp only[sE,↓reduceIte,simprocAttr];repeat refine AI ?_
 refine hK _ _ _ ?_;clear hK K;refine aF ?_;simp (maxSteps:=4000000) only[bS,Tryz.results17,bN,bR,bM,↓sP,sA,tyS,simprocAttr];exact nC [] (.bool true) rfl rfl (by simp) rfl
theorem aV2 (w:aG)(hl:w.length<2^40):cJ Tryz.prog 72 [.str w] (fun v=>v= .str (jC w)):=by
 refine FW Tryz.func72 ?_;refine R0 ?_;refine aB fun K hK=>?_;refine R0 ?_;refine aH (b:=w==[]) rfl (fun hb=>?_) (fun hb=>?_)
 · refine R0 ?_;refine aF (RT Tryz.results72 ?_);exact aJ [] (.str [126]) rfl (by rw[jC,if_pos (by simpa using hb)])
 refine aK ?_;refine T0 (hK _ _ _ ?_);clear hK K;have hne:w≠[]:=by simpa using hb
 clear hb;refine R0 ?_;refine R0 ?_;refine aB fun K hK=>?_;refine R0 ?_;refine aN ?_;refine gQ 4 0 5 1 rfl rfl rfl rfl ?_;refine bF (α:={i:Nat//i≤w.length}) (fun i=>(fin [(0,.c (.str w)),(3,.c (.str [48,49,50,51,52,53,54,55,56,57,65,66,67,68,69,70])),(4,.own 24 (dB (w.take i.1)).length),(5,.c (.int .i64 i.1))],fob [(24,.row 5 1 ((dB (w.take i.1)).map dG))])) 100 (fun i=>w.length-i.1) ⟨0,by omega⟩ (fF) ?_;rintro⟨i,hi⟩;have hle:=lV w i;have hle3:=sS w;refine aB fun K hK=>?_;refine aB fun K hK=>Rg ?_;iterate 4 refine S0 ?_
 refine T2 (hK _ _ _ ?_);clear hK K;refine aH (b:=decide ((i:Int)<w.length)) rfl (fun hb=>?_) (fun hb=>?_)
 ·
  have hlt:i<w.length:=by simpa using hb
  have hgd:w.getD i 0=w[i]:=by simp[hlt]
  have hs:=qS hlt;refine aK ?_;refine T0 (hK _ _ _ ?_);clear hK K;refine aB fun K hK=>?_;refine aN ?_;refine aB fun K hK=>Rg ?_;iterate 3 refine S0 ?_ (e:=fun _ h_=>by simp only[sH,↓sP,sA,tyS,simprocAttr,Int.natCast_nonneg,Int.ofNat_lt,hlt,hgd];exact AX h_)
  refine HS rfl rfl fun K' hK'=>?_;simp only[sH,↓sP,sA,tyS,simprocAttr,Int.natCast_nonneg,Int.ofNat_lt,hlt,hgd];refine C1 (vF w[i]) ?_;rintro u rfl;refine AX (hK' _ _ ?_);clear hK' K';refine T2 (hK _ _ _ ?_);clear hK K;refine aH (b:=cT w[i]) rfl (fun hb=>?_) (fun hb=>?_)
  ·
   refine Rg ?_;iterate 7 refine S0 ?_ (e:=fun _ h_=>by simp only[sH,↓sP,sA,tyS,simprocAttr,Int.natCast_nonneg,Int.ofNat_lt,hlt,hgd,List.length_append,List.length_map];exact AX h_)
   refine T2 (hK _ _ _ ?_);clear hK K;refine aD (by kernel_rfl) ?_;refine TQ (fA i) ?_;refine⟨⟨i+1,hlt⟩,aM (by omega) ?_ ?_,?_⟩
   · rw[hs,jV,if_pos hb];simp[aW,upd_at,fin_at,HV.men]
   · rw[hs,jV,if_pos hb,List.map_append];exact⟨rfl,by omega,trivial,trivial⟩
   show w.length-(i+1)<w.length-i;omega
  have h16:((w[i].toNat/16:Nat):Int)<16:=by have:=w[i].toNat_lt;omega
  have h15:((w[i].toNat%16:Nat):Int)<16:=by omega
  refine DW [(0,[],[]),(1,[],[]),(2,[],[]),(3,[],[]),(4,[],[]),(5,[],[]),(6,[],[]),(7,[],[]),(8,[],[]),(9,[],[]),(10,[],[]),(11,[],[]),(12,[],[]),(13,[],[]),(14,[],[]),(15,[],[])] [0,0,0,0,12,28,62,0,0,0,768,1792,3968,8190,16383,32767] ?_;iterate 16 refine W0 ?_ (e:=fun _ h_=>by simp only[sH,↓sP,sA,tyS,simprocAttr,Int.natCast_nonneg,Int.ofNat_lt,hlt,hgd,List.length_append,List.length_map,cP7,bV8,h16,h15];exact AX h_)
  refine T2 (hK _ _ _ ?_);clear hK K;refine aD (by kernel_rfl) ?_;refine TQ (fA i) ?_;refine⟨⟨i+1,hlt⟩,aM (by omega) ?_ ?_,?_⟩
  · rw[hs,jV,if_neg (by rw[hb];simp)];simp[aW,upd_at,fin_at,HV.men]
  · rw[hs,jV,if_neg (by rw[hb];simp),List.map_append];exact⟨rfl,by omega,trivial,trivial⟩
  show w.length-(i+1)<w.length-i;omega
 refine bA (T3 ?_);clear hK K;refine AX (hK _ _ _ ?_);clear hK K;refine cR [24] (bE (fr2:=fin [(4,.c (.slc ((dB (w.take i)).map dG)))]) (ob2:=fob []) (nx2:=200) (aM (by omega) (by simp[aW,dA,fin_at,finA_at,upd_at,fob_at,HV.close,HV.closeL,CV.denil,CV.denilL,bU,HV.men,HV.menL,HV.norm,HV.toC,HV.toCL]) (by simp[aX,dL,fob_at,upd_at,none0_at,bT,HO.close,HV.close,HV.closeL,HO.men,HV.men,HV.menL,HV.norm,HV.toC,HV.toCL])) ?_);have F:=@bytesC_map;refine RF ?_;refine aF (RT Tryz.results72 ?_);have hei:i=w.length:=by simp at hb;omega
 subst hei;exact aJ [] (.str (dB w)) (by rw[List.take_length];rfl) (by rw[jC,if_neg hne])
theorem bH8 (ls:List (List aG))(h0:ls.length<2^40)(h1: ∀l∈ls,l.length<2^40):eU Tryz.prog 35 [.slc (ls.map fun l=> .slc (l.map .str))] (fun u v=>u= .slc ((sW ls).map dG)∧v= .int .i64 (kY ls)):=by
 refine FW Tryz.func35 ?_;refine R0 ?_;refine aB fun K hK=>?_;refine R0 ?_;refine aH (b:=decide ((1000:Int)<ls.length)) rfl (fun hb=>?_) (fun hb=>?_)
 · refine R0 ?_;refine aF (RT Tryz.results35 ?_);have hE:=uS (ls:=ls) (by simp at hb;omega);refine aR [] (.slc []) (.int .i64 3) ?_ ⟨by rw[jM (by rw[hE];decide)];rfl,by rw[hE]⟩;simp[HV.close,HV.closeL,CV.denil,CV.denilL,HV.norm,HV.toC,HV.toCL]
 refine aK ?_;refine T0 (hK _ _ _ ?_);clear hK K;have hn:ls.length≤1000:=by simp at hb;omega
 clear hb;refine R0 ?_;refine aB fun K hK=>?_;refine R0 ?_;refine aN ?_;refine gQ 4 0 5 1 rfl rfl rfl rfl ?_;refine bF (α:={i:Nat//i≤ls.length∧ ∀x∈ls.take i,okL x=true}) (fun i=>(fin [(0,.c (.slc (ls.map fun l=> .slc (l.map .str)))),(4,.own 28 (gK (ls.take i.1)).length),(5,.c (.int .i64 i.1))],fob [(28,.row 5 1 ((gK (ls.take i.1)).map dG))])) 100 (fun i=>ls.length-i.1) ⟨0,by omega,by simp⟩ (fF) ?_;rintro⟨i,hi,hk⟩;refine aB fun K hK=>?_;refine aB fun K hK=>Rg ?_;iterate 4 refine S0 ?_
 refine T2 (hK _ _ _ ?_);clear hK K;refine aH (b:=decide ((i:Int)<ls.length)) rfl (fun hb=>?_) (fun hb=>?_)
 ·
  have hlt:i<ls.length:=by simpa using hb
  clear hb;have hl1:=h1 ls[i] (List.getElem_mem hlt);have hne: ∀l∈ls.take i,l≠[]:=fun l hl=>((jH l).1 (hk l hl)).1;have hsd:=bE3 hk;rw[List.length_take]at hsd;have hdl:=sU hne;have hdt1:=aE2 hlt;obtain⟨l,hl⟩: ∃l,l=ls[i]:=⟨_,rfl⟩;have hln:nth (ls.map fun l=>CV.slc (l.map .str)) i= .slc (l.map .str):=by rw[bP hlt,hl]
  rw[←hl]at hdt1 hl1;have hlti:(i:Int)<ls.length:=by omega
  refine aK ?_;refine T0 (hK _ _ _ ?_);clear hK K;refine aB fun K hK=>?_;refine aN ?_;refine aB fun K hK=>?_;refine aB fun K hK=>Rg ?_;have F:=aI @Int.natCast_nonneg (aI @Int.ofNat_lt (aI hlt hln));iterate 6 refine SF ?_
  refine T2 (hK _ _ _ ?_);clear hK K;refine aH (b:=(l.length:Int)==0) rfl (fun hb=>?_) (fun hb=>?_)
  ·
   refine R0 ?_;refine aF (RT Tryz.results35 ?_);have hc:nD l=1:=by rw[nD,if_pos (by simp at hb;simp[hb])]
   have hE:=sX hn hlt hk (by rw[←hl,okL,hc];rfl);rw[←hl,hc]at hE;refine aR [] (.slc []) (.int .i64 1) ?_ ⟨by rw[jM (by rw[hE];decide)];rfl,by rw[hE]⟩;simp[HV.close,HV.closeL,CV.denil,CV.denilL,HV.norm,HV.toC,HV.toCL]
  refine aK ?_;refine T0 (hK _ _ _ ?_);clear hK K;refine aB fun K hK=>?_;have hn0:l.length≠0:=by simp at hb;simp[hb]
  clear hb;refine aB fun K hK=>Rg ?_;iterate 6 refine SF ?_
  refine T2 (hK _ _ _ ?_);clear hK K;refine aH (b:=decide ((120:Int)<l.length)) rfl (fun hb=>?_) (fun hb=>?_)
  ·
   refine R0 ?_;refine aF (RT Tryz.results35 ?_);have hc:nD l=3:=by rw[nD,if_neg hn0,if_pos (by simp at hb;omega)]
   have hE:=sX hn hlt hk (by rw[←hl,okL,hc];rfl);rw[←hl,hc]at hE;refine aR [] (.slc []) (.int .i64 3) ?_ ⟨by rw[jM (by rw[hE];decide)];rfl,by rw[hE]⟩;simp[HV.close,HV.closeL,CV.denil,CV.denilL,HV.norm,HV.toC,HV.toCL]
  refine aK ?_;refine T0 (hK _ _ _ ?_);clear hK K;refine aB fun K hK=>?_;have hn1:l.length≤120:=by simp at hb;omega
  clear hb;refine R0 ?_;refine aN ?_;refine bF (α:={k:Nat//k≤l.length∧ ∀x∈l.take k,x.length≤32768}) (fun k=>(fin [(0,.c (.slc (ls.map fun l=> .slc (l.map .str)))),(4,.own 28 (gK (ls.take i)++iL (l.take k.1)).length),(5,.c (.int .i64 i)),(6,.c (.int .i64 k.1))],fob [(28,.row 5 1 ((gK (ls.take i)++iL (l.take k.1)).map dG))])) 200 (fun k=>l.length-k.1) ⟨0,by omega,by simp⟩ (fF) ?_;rintro⟨k,hk',hkw⟩;have hsw:=bW0 (l.take k) hkw;rw[List.length_take]at hsw;refine aB fun K hK=>?_;refine aB fun K hK=>Rg ?_;have F:=aI @Int.natCast_nonneg (aI hlti hln);iterate 7 refine SF ?_
  refine T2 (hK _ _ _ ?_);clear hK K;refine aH (b:=decide ((k:Int)<l.length)) rfl (fun hb=>?_) (fun hb=>?_)
  ·
   have hlk:k<l.length:=by simpa using hb
   clear hb;refine aK ?_;refine T0 (hK _ _ _ ?_);clear hK K;refine aB fun K hK=>?_;refine aN ?_;refine aB fun K hK=>?_;refine aB fun K hK=>Rg ?_;have F:=aI @Int.natCast_nonneg (aI @Int.ofNat_lt (aI hlt (aI hln (aI hlk (nM hlk)))));iterate 9 refine SF ?_
   refine T2 (hK _ _ _ ?_);clear hK K;refine aH (b:=decide ((32768:Int)<l[k].length)) rfl (fun hb=>?_) (fun hb=>?_)
   ·
    refine R0 ?_;refine aF (RT Tryz.results35 ?_);have hc:nD l=3:=by rw[nD,if_neg hn0,if_neg (by omega),if_pos];simp only[List.any_eq_true,decide_eq_true_eq];exact⟨_,List.getElem_mem hlk,by simp at hb;omega⟩
    have hE:=sX hn hlt hk (by rw[←hl,okL,hc];rfl);rw[←hl,hc]at hE;refine aR [] (.slc []) (.int .i64 3) ?_ ⟨by rw[jM (by rw[hE];decide)];rfl,by rw[hE]⟩;simp[HV.close,HV.closeL,CV.denil,CV.denilL,HV.norm,HV.toC,HV.toCL]
   refine aK ?_;refine T0 (hK _ _ _ ?_);clear hK K;refine aB fun K hK=>?_;have hw2:l[k].length≤32768:=by simp at hb;omega
   clear hb;have hel:=sT l[k];have hsz:=eI l[k];have hsp:=aE0 l[k];have hpe:0<(jC l[k]).length:=by omega
   have htk:=aE1 hlk;have hbe:(gK (ls.take i)).length+(iL (l.take k)).length+(jC l[k]).length≤140737488355328:=by omega
   have hbe1:(gK (ls.take i)).length+(iL (l.take k)).length+1+(jC l[k]).length≤140737488355328:=by omega
   refine R0 ?_;refine aH (b:=decide ((0:Int)<k)) rfl (fun hb=>?_) (fun hb=>?_)
   ·
    refine Rg ?_;have F:=aI @List.length_append.{0} @List.length_map.{0,0};iterate 4 refine SF ?_
    refine T2 (hK _ _ _ ?_);clear hK K;refine Rg ?_;iterate 8 refine S0 ?_ (e:=fun _ h_=>by simp only[sH,↓sP,sA,tyS,simprocAttr,Int.natCast_nonneg,Int.ofNat_lt,hlt,hln,hlk,bP hlk,List.length_append,List.length_map,hpe,hbe,hbe1];exact AX h_)
    refine HS rfl rfl fun K' hK'=>?_;simp only[sH,↓sP,sA,tyS,simprocAttr,Int.natCast_nonneg,Int.ofNat_lt,hlt,hln,hlk,bP hlk,List.length_append,List.length_map,hpe,hbe,hbe1];refine C1 (aV2 l[k] (by omega)) ?_;rintro u rfl;refine AX (hK' _ _ ?_);clear hK' K';iterate 2 refine S0 ?_ (e:=fun _ h_=>by simp only[sH,↓sP,sA,tyS,simprocAttr,Int.natCast_nonneg,Int.ofNat_lt,hlt,hln,hlk,bP hlk,List.length_append,List.length_map,hpe,hbe,hbe1];exact AX h_)
    refine T2 (hK _ _ _ ?_);clear hK K;refine aD (by kernel_rfl) ?_;refine TQ (fA k) ?_;have hk0:k≠0:=by simp at hb;omega
    refine⟨⟨k+1,hlk,uR (p:=fun x=>x.length≤32768) hlk hw2 hkw⟩,aM (by omega) ?_ ?_,?_⟩
    · rw[htk,if_neg hk0];simp[aW,upd_at,fin_at,HV.men];omega
    · rw[htk,if_neg hk0];simp only[List.map_append,←List.append_assoc];exact⟨rfl,by omega,trivial,trivial⟩
    show l.length-(k+1)<l.length-k;omega
   refine aK ?_;refine T0 (hK _ _ _ ?_);clear hK K;refine Rg ?_;iterate 8 refine S0 ?_ (e:=fun _ h_=>by simp only[sH,↓sP,sA,tyS,simprocAttr,Int.natCast_nonneg,Int.ofNat_lt,hlt,hln,hlk,bP hlk,List.length_append,List.length_map,hpe,hbe,hbe1];exact AX h_)
   refine HS rfl rfl fun K' hK'=>?_;simp only[sH,↓sP,sA,tyS,simprocAttr,Int.natCast_nonneg,Int.ofNat_lt,hlt,hln,hlk,bP hlk,List.length_append,List.length_map,hpe,hbe,hbe1];refine C1 (aV2 l[k] (by omega)) ?_;rintro u rfl;refine AX (hK' _ _ ?_);clear hK' K';iterate 2 refine S0 ?_ (e:=fun _ h_=>by simp only[sH,↓sP,sA,tyS,simprocAttr,Int.natCast_nonneg,Int.ofNat_lt,hlt,hln,hlk,bP hlk,List.length_append,List.length_map,hpe,hbe,hbe1];exact AX h_)
   refine T2 (hK _ _ _ ?_);clear hK K;refine aD (by kernel_rfl) ?_;refine TQ (fA k) ?_;have hk0:k=0:=by simp at hb;omega
   refine⟨⟨k+1,hlk,uR (p:=fun x=>x.length≤32768) hlk hw2 hkw⟩,aM (by omega) ?_ ?_,?_⟩
   · rw[htk,if_pos hk0];simp[aW,upd_at,fin_at,HV.men];omega
   · rw[htk,if_pos hk0,List.nil_append];simp only[List.map_append,←List.append_assoc];exact⟨rfl,by omega,trivial,trivial⟩
   show l.length-(k+1)<l.length-k;omega
  have hek:k=l.length:=by simp at hb;omega
  subst hek;clear hb;rw[List.take_length]at*;have hokl:okL l=true:=(jH l).2 ⟨fun h=>hn0 (by rw[h];rfl),hn1,hkw⟩;refine bA (T3 ?_);clear hK K;refine AX (hK _ _ _ ?_);clear hK K;refine Rg ?_;have F:=aI @List.length_append.{0} (aI @List.length_map.{0,0} @List.take_length.{0});iterate 4 refine SF ?_
  refine T2 (hK _ _ _ ?_);clear hK K;refine aD (by kernel_rfl) ?_;refine TQ (fA i) ?_;refine⟨⟨i+1,hlt,uR (p:=fun x=>okL x=true) hlt (by rw[←hl];exact hokl) hk⟩,aM (by omega) ?_ ?_,?_⟩
  · rw[hdt1,aA7];simp[aW,upd_at,fin_at,HV.men];try omega
  · rw[hdt1,aA7];simp only[List.map_append,←List.append_assoc,List.take_length];exact⟨rfl,by omega,trivial,trivial⟩
  show ls.length-(i+1)<ls.length-i;omega
 have hei:i=ls.length:=by simp at hb;omega
 subst hei;clear hb;rw[List.take_length]at hk;have hE:=aK0 hn hk;refine bA (T3 ?_);clear hK K;refine AX (hK _ _ _ ?_);clear hK K;refine aB fun K hK=>?_;have F:=aI @List.take_length.{0} @List.length_map.{0,0};refine RF ?_;refine aH (b:=decide ((262144:Int)<(gK ls).length)) rfl (fun hb=>?_) (fun hb=>?_)
 · refine R0 ?_;refine aF (RT Tryz.results35 ?_);rw[if_pos (by simp at hb;omega)]at hE;refine aR [] (.slc []) (.int .i64 3) ?_ ⟨by rw[jM (by rw[hE];decide)];rfl,by rw[hE]⟩;simp[HV.close,HV.closeL,CV.denil,CV.denilL,HV.norm,HV.toC,HV.toCL]
 refine aK ?_;refine T0 (hK _ _ _ ?_);clear hK K;refine R0 ?_;refine aF (RT Tryz.results35 ?_);rw[if_neg (by simp at hb;omega)]at hE;refine aR [28] (.slc ((gK ls).map dG)) (.int .i64 0) ?_ ⟨by rw[aK1 hE],by rw[hE]⟩;simp[HV.close,fob_at,upd_at,HV.norm,HV.toC,HV.closeL,HV.toCL,List.take_of_length_le,CV.denil,bU]
theorem lL (n:Int):inN n=eY n:=rfl
def rwK (k:Int):aG:=if k=2 then rA else if k=3 then tF else if k=4 then vD else if k=5 then vE else []
variable {k:Int}
theorem cD5 (h:k≠1):rwK k=wordK k:=by unfold rwK wordK;rw[if_neg h]
theorem cD6 (h:k≠1):(rwK k !=[])=inB k 1 5:=by
 by_cases h1:1≤k∧k≤5
 ·
  obtain rfl|rfl|rfl|rfl:k=2∨k=3∨k=4∨k=5:=by omega
  all_goals decide
 have e1:rwK k=[]:=by
  unfold rwK;rw[if_neg (by omega),if_neg (by omega),if_neg (by omega),if_neg (by omega)]
 have e2:inB k 1 5=false:=by unfold inB;simp;omega
 rw[e1,e2];rfl
theorem tT (k:Int):cJ Tryz.prog 86 [.int .i64 k] (fun v=>v= .str (rwK k)):=by
 refine FW Tryz.func86 ?_;refine R0 ?_;refine aB fun K hK=>?_;refine R0 ?_;refine aN ?_;refine R0 ?_;refine aH (b:=(k==2)) rfl (fun hb=>?_) (fun hb=>?_)
 · have h2:k=2:=eq_of_beq hb;refine R0 ?_;refine aF (RT Tryz.results86 ?_);first|exact aJ [] (.str rA) rfl (by rw[rwK,if_pos h2])|exact aJ [] (.str tF) rfl (by rw[rwK,if_neg h2,if_pos h3])|exact aJ [] (.str vD) rfl (by rw[rwK,if_neg h2,if_neg h3,if_pos h4])|exact aJ [] (.str vE) rfl (by rw[rwK,if_neg h2,if_neg h3,if_neg h4,if_pos h5])|exact aJ [] (.str []) rfl (by rw[rwK,if_neg h2,if_neg h3,if_neg h4,if_neg h5])
 have h2:k≠2:=by simpa using hb
 refine R0 ?_;refine aH (b:=(k==3)) rfl (fun hb=>?_) (fun hb=>?_)
 · have h3:k=3:=eq_of_beq hb;refine R0 ?_;refine aF (RT Tryz.results86 ?_);first|exact aJ [] (.str rA) rfl (by rw[rwK,if_pos h2])|exact aJ [] (.str tF) rfl (by rw[rwK,if_neg h2,if_pos h3])|exact aJ [] (.str vD) rfl (by rw[rwK,if_neg h2,if_neg h3,if_pos h4])|exact aJ [] (.str vE) rfl (by rw[rwK,if_neg h2,if_neg h3,if_neg h4,if_pos h5])|exact aJ [] (.str []) rfl (by rw[rwK,if_neg h2,if_neg h3,if_neg h4,if_neg h5])
 have h3:k≠3:=by simpa using hb
 refine R0 ?_;refine aH (b:=(k==4)) rfl (fun hb=>?_) (fun hb=>?_)
 · have h4:k=4:=eq_of_beq hb;refine R0 ?_;refine aF (RT Tryz.results86 ?_);first|exact aJ [] (.str rA) rfl (by rw[rwK,if_pos h2])|exact aJ [] (.str tF) rfl (by rw[rwK,if_neg h2,if_pos h3])|exact aJ [] (.str vD) rfl (by rw[rwK,if_neg h2,if_neg h3,if_pos h4])|exact aJ [] (.str vE) rfl (by rw[rwK,if_neg h2,if_neg h3,if_neg h4,if_pos h5])|exact aJ [] (.str []) rfl (by rw[rwK,if_neg h2,if_neg h3,if_neg h4,if_neg h5])
 have h4:k≠4:=by simpa using hb
 refine R0 ?_;refine aH (b:=(k==5)) rfl (fun hb=>?_) (fun hb=>?_)
 · have h5:k=5:=eq_of_beq hb;refine R0 ?_;refine aF (RT Tryz.results86 ?_);first|exact aJ [] (.str rA) rfl (by rw[rwK,if_pos h2])|exact aJ [] (.str tF) rfl (by rw[rwK,if_neg h2,if_pos h3])|exact aJ [] (.str vD) rfl (by rw[rwK,if_neg h2,if_neg h3,if_pos h4])|exact aJ [] (.str vE) rfl (by rw[rwK,if_neg h2,if_neg h3,if_neg h4,if_pos h5])|exact aJ [] (.str []) rfl (by rw[rwK,if_neg h2,if_neg h3,if_neg h4,if_neg h5])
 have h5:k≠5:=by simpa using hb
 refine aK ?_;refine T0 (hK _ _ _ ?_);clear hK K;refine R0 ?_;refine aF (RT Tryz.results86 ?_);first|exact aJ [] (.str rA) rfl (by rw[rwK,if_pos h2])|exact aJ [] (.str tF) rfl (by rw[rwK,if_neg h2,if_pos h3])|exact aJ [] (.str vD) rfl (by rw[rwK,if_neg h2,if_neg h3,if_pos h4])|exact aJ [] (.str vE) rfl (by rw[rwK,if_neg h2,if_neg h3,if_neg h4,if_pos h5])|exact aJ [] (.str []) rfl (by rw[rwK,if_neg h2,if_neg h3,if_neg h4,if_neg h5])
variable {x:Ln}
theorem cD7 (h:eY x.n=false):cU x=false:=by unfold cU;rw[h];simp
theorem bQ0 (h:x.f.all eY=false):cU x=false:=by
 unfold cU;split
 ·
  have:(x.f==[])=false:=by
   cases hf:x.f with
   |nil=>rw[hf]at h;simp at h
   |cons a l=>rfl
  rw[this];simp
 rw[h];simp
theorem cW5 {α:Type}[BEq α](l:List α):(l==[])=((l.length:Int)==0):=by
 cases l with
 |nil=>rfl
 |cons a l=>
  have:(((a::l).length:Int)==0)=false:=beq_eq_false_iff_ne.2 (by simp only[List.length_cons];omega);rw[this];rfl
theorem cL6 (x:Ln)(hx:x.f.length<2^38):cJ Tryz.prog 50 [x.cv] (fun v=>v= .bool (cU x)):=by
 refine FW Tryz.func50 ?_;refine R0 ?_;refine aB fun K hK=>?_;refine aB fun K hK=>Rg ?_;iterate 2 refine S0 ?_
 refine HS rfl rfl fun K' hK'=>T5 ?_;refine C1 (kP x.n) ?_;rintro u rfl;refine AX (hK' _ _ ?_);clear hK' K';refine S0 ?_;refine T2 (hK _ _ _ ?_);clear hK K;refine aH (b:=!inN x.n) rfl (fun hb=>?_) (fun hb=>?_)
 · refine R0 ?_;refine aF (RT Tryz.results50 ?_);exact aJ [] (.bool false) rfl (by rw[cD7 (by rw[←lL];simpa using hb)])
 have h40:eY x.n=true:=by rw[←lL];simpa using hb
 clear hb;refine aK ?_;refine T0 (hK _ _ _ ?_);clear hK K;refine aB fun K hK=>?_;refine R0 ?_;refine aN ?_;refine bF (α:={i:Nat//i≤x.f.length∧(x.f.take i).all eY=true}) (fun i=>(fin [(1,.ptr 0 0),(3,.c (.int .i64 i.1))],fob [(0,.box 41 (.c x.cv))])) 200 (fun i=>x.f.length-i.1) ⟨0,by omega,by simp⟩ (fF) ?_;rintro⟨i,hi,hall⟩;refine aB fun K hK=>?_;refine aB fun K hK=>Rg ?_;have F:=@List.length_map.{0,0};iterate 5 refine SF ?_
 refine T2 (hK _ _ _ ?_);clear hK K;refine aH (b:=decide ((i:Int)<x.f.length)) rfl (fun hb=>?_) (fun hb=>?_)
 ·
  have hlt:i<x.f.length:=by have:=of_decide_eq_true hb;omega
  clear hb;refine aK ?_;refine T0 (hK _ _ _ ?_);clear hK K;refine aB fun K hK=>?_;refine aN ?_;refine aB fun K hK=>Rg ?_;have F:=aI @Int.natCast_nonneg (aI @Int.ofNat_lt (aI hlt (nM hlt)));iterate 5 refine SF ?_
  refine HS rfl rfl fun K' hK'=>T6 ?_;refine C1 (kP x.f[i]) ?_;rintro u rfl;refine AX (hK' _ _ ?_);clear hK' K';refine SF ?_;refine T2 (hK _ _ _ ?_);clear hK K;refine aH (b:=!inN x.f[i]) rfl (fun hb=>?_) (fun hb=>?_)
  · refine R0 ?_;refine aF (RT Tryz.results50 ?_);exact aJ [] (.bool false) rfl (by rw[bQ0 (bG4 hlt (by rw[←lL];simpa using hb))])
  have hf40:eY x.f[i]=true:=by rw[←lL];simpa using hb
  clear hb;refine aK ?_;refine T0 (hK _ _ _ ?_);clear hK K;refine aD (by kernel_rfl) ?_;refine TQ (fA i) ?_;refine⟨⟨i+1,by omega,all_take hlt hall hf40⟩,fF,?_⟩;show x.f.length-(i+1)<x.f.length-i;omega
 have hie:i=x.f.length:=by have:=of_decide_eq_false hb;omega
 subst hie;rw[List.take_length]at hall;clear hb;refine bA (T3 ?_);clear hK K;refine AX (hK _ _ _ ?_);clear hK K;refine aB fun K hK=>?_;refine R0 ?_;refine aH (b:=(x.k==1)) rfl (fun hb=>?_) (fun hb=>?_)
 ·
  have hk:x.k=1:=eq_of_beq hb;clear hb;refine aB fun K hK=>Rg ?_;iterate 5 refine SF ?_
  refine T2 (hK _ _ _ ?_);clear hK K;refine aF (RT Tryz.results50 ?_);exact aJ [] (.bool ((x.f.length:Int)==0)) rfl (by rw[cU,h40,if_pos hk,cW5,hk];rfl)
 have hk:x.k≠1:=by simpa using hb
 clear hb;have hrw:(!(rwK x.k==[]))=inB x.k 1 5:=cD6 hk;refine aK ?_;refine T0 (hK _ _ _ ?_);clear hK K;by_cases hin:inB x.k 1 5=true
 ·
  refine aB fun K hK=>Rg ?_;have F:=aI @List.length_map.{0,0} (aI hrw hin);iterate 2 refine SF ?_
  refine HS rfl rfl fun K' hK'=>T6 ?_;refine C1 (tT x.k) ?_;rintro u rfl;refine AX (hK' _ _ ?_);clear hK' K';iterate 8 refine SF ?_
  refine T2 (hK _ _ _ ?_);clear hK K;refine aF (RT Tryz.results50 ?_);exact aJ [] (.bool ((x.d.length:Int)==0)) rfl (by rw[cU,h40,if_neg hk,hin,hall,cW5];rfl)
 have hin':inB x.k 1 5=false:=by simpa using hin
 refine aB fun K hK=>Rg ?_;have F:=aI hrw hin';iterate 2 refine SF ?_
 refine HS rfl rfl fun K' hK'=>T6 ?_;refine C1 (tT x.k) ?_;rintro u rfl;refine AX (hK' _ _ ?_);clear hK' K';iterate 8 refine SF ?_
 refine T2 (hK _ _ _ ?_);clear hK K;refine aF (RT Tryz.results50 ?_);exact aJ [] (.bool false) rfl (by rw[cU,hin'];rfl)
theorem cS4 (h:cU x=true):0≤x.n∧x.n≤1099511627776∧ ∀n∈x.f,0≤n∧n≤1099511627776:=by
 obtain⟨_,h2⟩:=bG8 h;exact⟨(h2 _ List.mem_cons_self).1,(h2 _ List.mem_cons_self).2,fun n hn=>h2 n (List.mem_cons_of_mem _ hn)⟩
theorem bQ1 (x:Ln)(hx:LnW x)(hf:cU x=true):cJ Tryz.prog 53 [x.cv] (fun v=>v= .slc ((dV x).map lsC)):=by
 obtain⟨hn0,hn1,hfn⟩:=cS4 hf;refine FW Tryz.func53 ?_;refine R0 ?_;refine aB fun K hK=>?_;refine R0 ?_;refine aH (b:=!(x.k==1)) rfl (fun hb=>?_) (fun hb=>?_)
 ·
  have hk:x.k≠1:=by simpa using hb
  have hd0:x.d=[]:=by
   unfold cU at hf;rw[if_neg hk]at hf;simp at hf;exact hf.2.2
  clear hb;refine aB fun K hK=>DW [(0,[],[]),(1,[],[]),(3,[],[]),(4,[],[]),(2,[],[3,4]),(5,[],[]),(6,[],[]),(7,[],[])] [0,1,3,0,8,31,63,127] ?_;iterate 4 refine W0 ?_
  refine bL (g:=none) rfl rfl fun K' hK'=>T5 ?_;refine C1 (tT x.k) ?_;rintro u rfl;rw[cD5 hk];refine AX (hK' _ _ ?_);clear hK' K';refine bL (g:=none) rfl rfl fun K' hK'=>T5 ?_;refine C1 (tH x.n ⟨by omega,by omega⟩) ?_;rintro u rfl;refine AX (hK' _ _ ?_);clear hK' K';iterate 2 refine W0 ?_
  refine T2 (hK _ _ _ ?_);clear hK K;refine aB fun K hK=>?_;refine R0 ?_;refine aN ?_;refine bF (α:={i:Nat//i≤x.f.length}) (fun i=>(fin [(1,.ptr 0 0),(3,.own 44 (2+i.1)),(4,.c (.int .i64 i.1))],fob [(0,.box 41 (.c x.cv)),(44,.row 9 1 ((wordK x.k::fB x.n::(x.f.take i.1).map fB).map .str))])) 2000 (fun i=>x.f.length-i.1) ⟨0,by omega⟩ (fF) ?_;rintro⟨i,hi⟩;refine aB fun K hK=>?_;refine aB fun K hK=>Rg ?_;have F:=@List.length_map.{0,0};iterate 5 refine SF ?_
  refine T2 (hK _ _ _ ?_);clear hK K;refine aH (b:=decide ((i:Int)<x.f.length)) rfl (fun hb=>?_) (fun hb=>?_)
  ·
   have hlt:i<x.f.length:=by have:=of_decide_eq_true hb;omega
   have hfl:=hx.fl;have hti:(x.f.take i).length=i:=by simp;omega
   have hfi:=hfn _ (List.getElem_mem hlt);clear hb;refine aK ?_;refine T0 (hK _ _ _ ?_);clear hK K;refine aB fun K hK=>?_;refine aN ?_;refine Rg ?_;have F:=aI @Int.natCast_nonneg (aI @Int.ofNat_lt (aI hlt (aI (nM hlt) (aI @List.length_cons.{0} (aI @List.length_map.{0,0} hti)))));iterate 6 refine SF ?_
   refine HS rfl rfl fun K' hK'=>T6 ?_;refine C1 (tH x.f[i] ⟨by omega,by omega⟩) ?_;rintro u rfl;refine AX (hK' _ _ ?_);clear hK' K';iterate 3 refine SF ?_
   refine T2 (hK _ _ _ ?_);clear hK K;refine aD (by kernel_rfl) ?_;refine TQ (fA i) ?_;have hmn:min i x.f.length+1+1+1=2+(i+1):=by omega
   refine⟨⟨i+1,by omega⟩,(aM (by omega) (by simp[aW,fin_at,finA_at,upd_at,HV.men,HV.menL,HV.norm,HV.toC,HV.toCL,lK hlt,List.map_append,hti,hmn]) (by simp[aX,fob_at,upd_at,none0_at,bT,HO.men,HV.men,HV.menL,HV.norm,HV.toC,HV.toCL,lK hlt,List.map_append,hti,hmn])),?_⟩;show x.f.length-(i+1)<x.f.length-i;omega
  have hie:i=x.f.length:=by have:=of_decide_eq_false hb;omega
  subst hie;clear hb;refine bA (T3 ?_);clear hK K;refine AX (hK _ _ _ ?_);clear hK K;have hfl2:2+x.f.length=x.f.length+1+1:=by omega
  refine cR [44] (bE (fr2:=fin [(3,.c (lsC (firstL x)))]) (ob2:=fob []) (nx2:=3000) (aM (by omega) (by simp[aW,dA,fin_at,finA_at,upd_at,fob_at,HV.close,HV.closeL,CV.denil,CV.denilL,denilL_str,hfl2,lsC,firstL,HV.men,HV.menL,HV.norm,HV.toC,HV.toCL]) (by simp[aX,dL,fob_at,upd_at,none0_at,bT,HO.close,HV.close,HV.closeL,Ln.denil,HO.men,HV.men,HV.menL,HV.norm,HV.toC,HV.toCL])) ?_);refine R0 ?_;refine aF (RT Tryz.results53 ?_);exact aJ [3004] (.slc ((dV x).map lsC)) (by simp[HV.close,HV.closeL,fob_at,upd_at,CV.denil,HV.norm,HV.toC,HV.toCL,dV,hd0,mI]) rfl
 have hk:x.k=1:=by simpa using hb
 have hf0:x.f=[]:=by
  unfold cU at hf;rw[if_pos hk]at hf;simp at hf;exact hf.2
 have hfirst:firstL x=[lF,fB x.n]:=by unfold firstL;rw[hf0,hk];rfl
 clear hb;refine aK ?_;refine T0 (hK _ _ _ ?_);clear hK K;refine aB fun K hK=>bY (by kernel_rfl) ?_;simp only[sR,simprocAttr];iterate 2 refine SG0 ?_
 refine aZ (g:=none) rfl rfl fun K' hK'=>T5 ?_;refine C1 (tH x.n ⟨by omega,by omega⟩) ?_;rintro u rfl;refine AX (hK' _ _ ?_);clear hK' K';refine eB (g:=none) 32 rfl rfl fun K' hK'=>?_;simp only[iT,kW,sH,↓sP,sA,tyS,simprocAttr];repeat refine AI ?_
 refine dO (by first|rfl|simp) ?_;try simp only[sH,↓sP,sA,tyS,simprocAttr]
 refine AX (hK' _ _ ?_);clear hK' K';iterate 2 refine SG0 ?_
 refine T2 (hK _ _ _ ?_);clear hK K;refine aB fun K hK=>?_;refine R0 ?_;refine aN ?_;refine bF (α:={i:Nat//i≤x.d.length}) (fun i=>(fin [(1,.ptr 0 0),(5,.own 36 (1+i.1)),(6,.c (.int .i64 i.1))],fob [(0,.box 41 (.c x.cv)),(36,.row 71 1 ((firstL x::(x.d.take i.1).map lW).map lsC))])) 5000 (fun i=>x.d.length-i.1) ⟨0,by omega⟩ (aM (by omega) (by simp[aW,fin_at,finA_at,upd_at,HV.men,HV.menL,HV.norm,HV.toC,HV.toCL,hfirst,lsC,lF,CV.denil,CV.denilL,denilL_str]) (by simp[aX,fob_at,upd_at,none0_at,bT,HO.men,HV.men,HV.menL,HV.norm,HV.toC,HV.toCL,hfirst,lsC,lF,CV.denil,CV.denilL,denilL_str])) ?_;rintro⟨i,hi⟩;refine aB fun K hK=>?_;refine aB fun K hK=>Rg ?_;have F:=@List.length_map.{0,0};iterate 5 refine SF ?_
 refine T2 (hK _ _ _ ?_);clear hK K;refine aH (b:=decide ((i:Int)<x.d.length)) rfl (fun hb=>?_) (fun hb=>?_)
 ·
  have hlt:i<x.d.length:=by have:=of_decide_eq_true hb;omega
  have hdl:=hx.dl;have hti:(x.d.take i).length=i:=by simp;omega
  clear hb;refine aK ?_;refine T0 (hK _ _ _ ?_);clear hK K;refine aB fun K hK=>?_;refine aN ?_;refine bY (by kernel_rfl) ?_;simp only[sR,simprocAttr];have F:=aI @Int.natCast_nonneg (aI @Int.ofNat_lt (aI hlt (aI (nM hlt) (aI @List.length_cons.{0} (aI @List.length_map.{0,0} hti)))));iterate 6 refine SGF ?_
  refine aZ (g:=none) rfl rfl fun K' hK'=>T6 ?_;refine C1 (tI x.d[i]) ?_;rintro u rfl;refine AX (hK' _ _ ?_);clear hK' K';refine eB (g:=none) 5048 rfl rfl fun K' hK'=>?_;simp only[iT,kW,sH,↓sP,sA,tyS,simprocAttr,Int.natCast_nonneg,Int.ofNat_lt,hlt,bP hlt,List.length_cons,List.length_map,hti];repeat refine AI ?_
  refine dO (by first|rfl|simp) ?_;try simp only[sH,↓sP,sA,tyS,simprocAttr,Int.natCast_nonneg,Int.ofNat_lt,hlt,bP hlt,List.length_cons,List.length_map,hti]
  refine AX (hK' _ _ ?_);clear hK' K';iterate 3 refine SGF ?_
  refine T2 (hK _ _ _ ?_);clear hK K;refine aD (by kernel_rfl) ?_;refine TQ (fA i) ?_;have hmn2:min i x.d.length+1+1=1+(i+1):=by omega
  refine⟨⟨i+1,by omega⟩,(aM (by omega) (by simp[aW,fin_at,finA_at,upd_at,HV.men,HV.menL,HV.norm,HV.toC,HV.toCL,pQ hlt,List.map_append,hti,lW,lsC,jW,hmn2]) (by simp[aX,fob_at,upd_at,none0_at,bT,HO.men,HV.men,HV.menL,HV.norm,HV.toC,HV.toCL,pQ hlt,List.map_append,hti,lW,lsC,jW,hmn2])),?_⟩;show x.d.length-(i+1)<x.d.length-i;omega
 have hie:i=x.d.length:=by have:=of_decide_eq_false hb;omega
 subst hie;clear hb;refine bA (T3 ?_);clear hK K;refine AX (hK _ _ _ ?_);clear hK K;refine R0 ?_;refine aF (RT Tryz.results53 ?_);have hdl2:1+x.d.length=x.d.length+1:=by omega
 rw[List.take_length];exact aJ [36] (.slc ((dV x).map lsC)) (by simp[HV.close,HV.closeL,fob_at,upd_at,CV.denil,HV.norm,HV.toC,HV.toCL,dV,hdl2,mI]) rfl
theorem cD8 (d:Dv):jQ d=(eY d.t&&eY d.r&&d.l.all cU):=rfl
theorem aB2 {l:List Ln}{i:Nat}(h:i<l.length):(l.take (i+1)).all cU=((l.take i).all cU&&cU l[i]):=by
 rw[List.take_succ_eq_append_getElem h,List.all_append];simp
theorem bQ2 (d:Dv)(hd:DvW d):eU Tryz.prog 22 [d.cv] (fun u v=>u= .slc ((dvO d).map dG)∧v= .int .i64 (dvE d)):=by
 refine FW Tryz.func22 ?_;refine R0 ?_;refine aB fun K hK=>?_;have key: ∀(b:Bool) fr ob nx,b=(eY d.t&&eY d.r)→Fits 0 fr ob (fin [(1,.ptr 0 0),(2,.c .nils),(3,.c (.int .i64 0)),(4,.c (.bool b))]) (fob [(0,.box 50 (.c d.cv))]) 200→K fr ob nx:=by
  rintro b fr ob nx hbb hf;refine hK _ _ _ (bE hf ?_);clear hf hK K;refine aB fun K hK=>?_;refine R0 ?_;refine aN ?_;refine bF (α:={i:Nat//i≤d.l.length}) (fun i=>(fin [(1,.ptr 0 0),(4,.c (.bool (b&&(d.l.take i.1).all cU))),(5,.c (.int .i64 i.1))],fob [(0,.box 50 (.c d.cv))])) 500 (fun i=>d.l.length-i.1) ⟨0,by omega⟩ (aM (by omega) (by simp[aW,fin_at,finA_at,upd_at,HV.men,HV.menL,HV.norm,HV.toC,HV.toCL,List.take_zero,List.all_nil,Bool.and_true]) (by simp[aX,fob_at,upd_at,none0_at,bT,HO.men,HV.men,HV.menL,HV.norm,HV.toC,HV.toCL,List.take_zero,List.all_nil,Bool.and_true])) ?_;rintro⟨i,hi⟩;refine aB fun K hK=>?_;refine aB fun K hK=>Rg ?_;have F:=@List.length_map.{0,0};iterate 5 refine SF ?_
  refine T2 (hK _ _ _ ?_);clear hK K;refine aH (b:=decide ((i:Int)<d.l.length)) rfl (fun hb=>?_) (fun hb=>?_)
  ·
   have hlt:i<d.l.length:=by have:=of_decide_eq_true hb;omega
   have hfl:=(hd.l _ (List.getElem_mem hlt)).fl;have hll:=hd.ll;clear hb;obtain⟨c,hc⟩: ∃c,c=(b&&(d.l.take i).all cU):=⟨_,rfl⟩;have hcs:(b&&(d.l.take (i+1)).all cU)=(c&&cU d.l[i]):=by rw[aB2 hlt,hc,Bool.and_assoc]
   rw[←hc];refine aK ?_;refine T0 (hK _ _ _ ?_);clear hK K;refine aB fun K hK=>?_;refine aN ?_;by_cases hct:c=true
   ·
    refine Rg ?_;have F:=aI hct (aI @Int.natCast_nonneg (aI @Int.ofNat_lt (aI hlt (nM hlt))));iterate 7 refine SF ?_
    refine aE (g:=some (24,true)) rfl rfl fun K' hK'=>T6 ?_;refine C1 (cL6 d.l[i] hfl) ?_;rintro u rfl;refine AX (hK' _ _ ?_);clear hK' K';iterate 2 refine SF ?_
    refine T2 (hK _ _ _ ?_);clear hK K;refine aD (by kernel_rfl) ?_;refine TQ (fA i) ?_;first|exact⟨⟨i+1,by omega⟩,(aM (by omega) (by simp[aW,fin_at,finA_at,upd_at,HV.men,HV.menL,HV.norm,HV.toC,HV.toCL,hcs,hct,Bool.true_and]) (by simp[aX,fob_at,upd_at,none0_at,bT,HO.men,HV.men,HV.menL,HV.norm,HV.toC,HV.toCL,hcs,hct,Bool.true_and])),(show d.l.length-(i+1)<d.l.length-i by omega)⟩|exact⟨⟨i+1,by omega⟩,(aM (by omega) (by simp[aW,fin_at,finA_at,upd_at,HV.men,HV.menL,HV.norm,HV.toC,HV.toCL,hcs,hcf,Bool.false_and]) (by simp[aX,fob_at,upd_at,none0_at,bT,HO.men,HV.men,HV.menL,HV.norm,HV.toC,HV.toCL,hcs,hcf,Bool.false_and])),(show d.l.length-(i+1)<d.l.length-i by omega)⟩
   have hcf:c=false:=by simpa using hct
   refine Rg ?_;have F:=hcf;iterate 10 refine SF ?_
   refine T2 (hK _ _ _ ?_);clear hK K;refine aD (by kernel_rfl) ?_;refine TQ (fA i) ?_;first|exact⟨⟨i+1,by omega⟩,(aM (by omega) (by simp[aW,fin_at,finA_at,upd_at,HV.men,HV.menL,HV.norm,HV.toC,HV.toCL,hcs,hct,Bool.true_and]) (by simp[aX,fob_at,upd_at,none0_at,bT,HO.men,HV.men,HV.menL,HV.norm,HV.toC,HV.toCL,hcs,hct,Bool.true_and])),(show d.l.length-(i+1)<d.l.length-i by omega)⟩|exact⟨⟨i+1,by omega⟩,(aM (by omega) (by simp[aW,fin_at,finA_at,upd_at,HV.men,HV.menL,HV.norm,HV.toC,HV.toCL,hcs,hcf,Bool.false_and]) (by simp[aX,fob_at,upd_at,none0_at,bT,HO.men,HV.men,HV.menL,HV.norm,HV.toC,HV.toCL,hcs,hcf,Bool.false_and])),(show d.l.length-(i+1)<d.l.length-i by omega)⟩
  have hie:i=d.l.length:=by have:=of_decide_eq_false hb;omega
  subst hie;clear hb;rw[List.take_length];have hfd:(b&&d.l.all cU)=jQ d:=by rw[hbb];rfl
  rw[hfd];refine bA (T3 ?_);clear hK K;refine AX (hK _ _ _ ?_);clear hK K;refine aB fun K hK=>?_;refine R0 ?_;refine aH (b:=!jQ d) rfl (fun hb=>?_) (fun hb=>?_)
  ·
   refine R0 ?_;refine aF (RT Tryz.results22 ?_);have hf:jQ d=false:=by simpa using hb
   exact aR [] (.slc []) (.int .i64 1) (by simp[HV.close,HV.closeL,CV.denil,CV.denilL,HV.norm,HV.toC,HV.toCL]) ⟨by rw[dvO,hf];rfl,by rw[dvE,hf];rfl⟩
  have hfine:jQ d=true:=by simpa using hb
  have hfa:d.l.all cU=true∧eY d.t=true∧eY d.r=true:=by
   rw[cD8]at hfine;simp only[Bool.and_eq_true]at hfine;exact⟨hfine.2,hfine.1.1,hfine.1.2⟩
  have ht:=(iY _).1 hfa.2.1;have hr:=(iY _).1 hfa.2.2;clear hb;refine aK ?_;refine T0 (hK _ _ _ ?_);clear hK K;refine bE (fr2:=fin [(1,.ptr 0 0)]) (ob2:=fob [(0,.box 50 (.c d.cv))]) (nx2:=1000) (fF) ?_;refine aB fun K hK=>dM mixed [(0,[],[]),(1,[],[]),(2,[],[]),(3,[],[]),(4,[],[]),(5,[],[]),(6,[],[]),(7,[],[]),(8,[],[]),(10,[],[]),(11,[],[]),(13,[],[]),(14,[],[]),(16,[],[]),(17,[],[]),(20,[],[]),(21,[],[]),(22,[],[]),(24,[],[]),(25,[],[]),(26,[],[]),(27,[],[]),(28,[],[]),(29,[],[]),(9,[],[0,1,2,3,4,5,10,11,13,14,16,17,20,21,22,24,25,26,27,28,29]),(12,[],[0,1,2,3,4,5,13,14,16,17,20,21,22,24,25,26,27,28,29]),(15,[],[0,1,2,3,4,5,16,17,20,21,22,24,25,26,27,28,29]),(18,[],[0,1,2,3,4,5,20,21,22,24,25,26,27,28,29]),(19,[],[]),(23,[19],[0,1,2,3,4,5,24,25,26,27,28,29,19]),(30,[19],[]),(31,[],[]),(32,[],[])] [0,1,3,0,8,24,0,64,192,448,0,1024,4032,0,8192,32704,0,65536,262080,524287,0,1048576,3145728,7864256,0,16777216,50331648,0,134217728,402653184,1073217472,2147483647,4294967295] (by kernel_rfl) (by kernel_rfl) (by kernel_rfl) (by kernel_rfl) rfl (by kernel_rfl) ?_;have F:=aI @qB (aI @qC (aI @qD (aI @qE (aI @qF @qG))));iterate 24 refine WGF ?_
  refine cF (g:=none) rfl rfl fun K' hK'=>T6 ?_;refine C1 (tI d.q.a) ?_;rintro u rfl;refine AX (hK' _ _ ?_);clear hK' K';refine cF (g:=none) rfl rfl fun K' hK'=>T6 ?_;refine C1 (tH d.t ⟨by omega,by omega⟩) ?_;rintro u rfl;refine AX (hK' _ _ ?_);clear hK' K';refine cF (g:=none) rfl rfl fun K' hK'=>T6 ?_;refine C1 (tI d.p) ?_;rintro u rfl;refine AX (hK' _ _ ?_);clear hK' K';refine cF (g:=none) rfl rfl fun K' hK'=>T6 ?_;refine C1 (tH d.r ⟨by omega,by omega⟩) ?_;rintro u rfl;refine AX (hK' _ _ ?_);clear hK' K';refine gV (g:=none) 1076 rfl rfl fun K' hK'=>?_;simp only[iT,kW,sH,↓sP,sA,tyS,simprocAttr,qB,qC,qD,qE,qF,qG];repeat refine AI ?_
  refine dO (by first|rfl|simp) ?_;try simp only[sH,↓sP,sA,tyS,simprocAttr,qB,qC,qD,qE,qF,qG]
  refine AX (hK' _ _ ?_);clear hK' K';refine cF (g:=none) rfl rfl fun K' hK'=>T6 ?_;refine C1 (tI d.o.v) ?_;rintro u rfl;refine AX (hK' _ _ ?_);clear hK' K';refine gV (g:=none) 1120 rfl rfl fun K' hK'=>?_;simp only[iT,kW,sH,↓sP,sA,tyS,simprocAttr,qB,qC,qD,qE,qF,qG];repeat refine AI ?_
  refine dO (by first|rfl|simp) ?_;try simp only[sH,↓sP,sA,tyS,simprocAttr,qB,qC,qD,qE,qF,qG]
  refine AX (hK' _ _ ?_);clear hK' K';iterate 2 refine WGF ?_
  refine T2 (hK _ _ _ ?_);clear hK K;refine aB fun K hK=>?_;refine R0 ?_;refine aN ?_;refine bF (α:={i:Nat//i≤d.l.length}) (fun i=>(fin [(1,.ptr 0 0),(6,.own 1124 (dvT d i.1).length),(7,.c (.int .i64 i.1))],fob [(0,.box 50 (.c d.cv)),(1124,.row 71 1 ((dvT d i.1).map lsC))])) 3000 (fun i=>d.l.length-i.1) ⟨0,by omega⟩ (aM (by omega) (by simp[aW,fin_at,finA_at,upd_at,HV.men,HV.menL,HV.norm,HV.toC,HV.toCL,dvT,lG,lsC,wDer,wOrg]) (by simp[aX,fob_at,upd_at,none0_at,bT,HO.men,HV.men,HV.menL,HV.norm,HV.toC,HV.toCL,dvT,lG,lsC,wDer,wOrg])) ?_;rintro⟨i,hi⟩;refine aB fun K hK=>?_;refine aB fun K hK=>Rg ?_;have F:=@List.length_map.{0,0};iterate 5 refine SF ?_
  refine T2 (hK _ _ _ ?_);clear hK K;refine aH (b:=decide ((i:Int)<d.l.length)) rfl (fun hb=>?_) (fun hb=>?_)
  ·
   have hlt:i<d.l.length:=by have:=of_decide_eq_true hb;omega
   have hll:=hd.ll;have hle:=cA8 d (i+1);have hlen:=hd.len;rw[mK hlt,List.length_append]at hle;have hfl:cU d.l[i]=true:=List.all_eq_true.1 hfa.1 _ (List.getElem_mem hlt);have hcl:(∀v∈(dV d.l[i]).map lsC,v.cells=1)=True:=eq_true fun v hv=>by
    obtain⟨y,_,rfl⟩:=List.mem_map.1 hv;rfl
   clear hb;refine aK ?_;refine T0 (hK _ _ _ ?_);clear hK K;refine aB fun K hK=>?_;refine aN ?_;refine Rg ?_;have F:=aI @Int.natCast_nonneg (aI @Int.ofNat_lt (aI hlt (aI (nM hlt) (aI @List.length_map.{0,0} hcl))));iterate 6 refine SF ?_
   refine HS rfl rfl fun K' hK'=>T6 ?_;refine C1 (bQ1 d.l[i] (hd.l _ (List.getElem_mem hlt)) hfl) ?_;rintro u rfl;refine AX (hK' _ _ ?_);clear hK' K';iterate 2 refine SF ?_
   refine T2 (hK _ _ _ ?_);clear hK K;refine aD (by kernel_rfl) ?_;refine TQ (fA i) ?_;refine⟨⟨i+1,by omega⟩,(aM (by omega) (by simp[aW,fin_at,finA_at,upd_at,HV.men,HV.menL,HV.norm,HV.toC,HV.toCL,mK hlt,List.map_append,List.length_append]) (by simp[aX,fob_at,upd_at,none0_at,bT,HO.men,HV.men,HV.menL,HV.norm,HV.toC,HV.toCL,mK hlt,List.map_append,List.length_append])),?_⟩;show d.l.length-(i+1)<d.l.length-i;omega
  have hie:i=d.l.length:=by have:=of_decide_eq_false hb;omega
  subst hie;clear hb;rw[bG5];have hlen:=hd.len;refine bA (T3 ?_);clear hK K;refine AX (hK _ _ _ ?_);clear hK K;refine cR [1124] (bE (fr2:=fin [(6,.c (.slc ((iZ d).map lsC)))]) (ob2:=fob []) (nx2:=4000) (aM (by omega) (by simp[aW,dA,fin_at,finA_at,upd_at,fob_at,HV.close,HV.closeL,CV.denil,CV.denilL,dE,HV.men,HV.menL,HV.norm,HV.toC,HV.toCL]) (by simp[aX,dL,fob_at,upd_at,none0_at,bT,HO.close,HV.close,HV.closeL,HO.men,HV.men,HV.menL,HV.norm,HV.toC,HV.toCL])) ?_);refine aB fun K hK=>Rg ?_;have F:=@dE;refine SF ?_;refine HS rfl rfl fun K' hK'=>T6 ?_;refine D1 (bH8 (iZ d) (by omega) (cA7 hd)) ?_;rintro u v ⟨rfl,rfl⟩;refine AX (hK' _ _ ?_);clear hK' K';iterate 4 refine SF ?_
  refine T2 (hK _ _ _ ?_);clear hK K;refine aF (RT Tryz.results22 ?_);exact aR [] (.slc ((sW (iZ d)).map dG)) (.int .i64 (kY (iZ d))) (by simp[HV.close,HV.closeL,CV.denil,CV.denilL,bU,HV.norm,HV.toC,HV.toCL]) ⟨by rw[dvO,if_pos hfine],by rw[dvE,if_pos hfine]⟩
 by_cases h0:eY d.t=true
 ·
  refine Rg ?_;have F:=aI @lL h0;iterate 2 refine SF ?_
  refine HS rfl rfl fun K' hK'=>T6 ?_;refine C1 (kP d.t) ?_;rintro u rfl;refine AX (hK' _ _ ?_);clear hK' K';iterate 3 refine SF ?_
  refine aE (g:=some (11,true)) rfl rfl fun K' hK'=>T6 ?_;refine C1 (kP d.r) ?_;rintro u rfl;refine AX (hK' _ _ ?_);clear hK' K';iterate 2 refine SF ?_
  refine T4 ?_;exact key (eY d.r) _ _ _ (by rw[h0];rfl) (aM (by omega) (by simp[aW,fin_at,finA_at,upd_at,HV.men,HV.menL,HV.norm,HV.toC,HV.toCL,lL]) (by simp[aX,fob_at,upd_at,none0_at,bT,HO.men,HV.men,HV.menL,HV.norm,HV.toC,HV.toCL,lL]))
 have h0':eY d.t=false:=by simpa using h0
 refine Rg ?_;have F:=aI @lL h0';iterate 2 refine SF ?_
 refine HS rfl rfl fun K' hK'=>T6 ?_;refine C1 (kP d.t) ?_;rintro u rfl;refine AX (hK' _ _ ?_);clear hK' K';iterate 6 refine SF ?_
 refine T4 ?_;exact key false _ _ _ (by rw[h0'];rfl) (fF)
structure DvT (d:Dv):Prop where
 t:I64 d.t
 r:I64 d.r
 l: ∀x∈d.l,I64 x.k∧I64 x.n∧ ∀n∈x.f,I64 n
 ll:d.l.length<2^63
theorem wL {α:Type}{f:α→CV}{Q:α→Prop}: ∀(l:List CV),(∀x∈l,∃y,x=f y∧Q y)→ ∃m:List α,l=m.map f∧ ∀y∈m,Q y
 |[],_=>⟨[],rfl,by simp⟩
 |x::l,h=>by
  obtain⟨y,rfl,hy⟩:=h x (by simp);obtain⟨m,rfl,hm⟩:=wL l (fun x hx=>h x (by simp[hx]));exact⟨y::m,rfl,fun z hz=>by rcases List.mem_cons.1 hz with rfl|hz;exact hy;exact hm z hz⟩
variable {c:CV}
theorem cL7 (h:HasTy Tryz.prog 5 c): ∃b:UInt8,c= .int .u8 b.toNat∧True:=by
 obtain⟨n,rfl,hw⟩:=h.of_int Tryz.underlying5;have hb:0≤n∧n≤255:=by simpa[Lit.wf,IntKind.min,IntKind.max,IntKind.signed,IntKind.bits]using hw
 refine⟨UInt8.ofNat n.toNat,?_,trivial⟩;congr 1;have:(UInt8.ofNat n.toNat).toNat=n.toNat:=by rw[UInt8.toNat_ofNat'];exact Nat.mod_eq_of_lt (by omega)
 rw[this];omega
theorem bQ3 (h:HasTy Tryz.prog 52 c): ∃b:aG,c= .slc (b.map u8):=by
 obtain⟨l,rfl,hl,hn⟩:=h.of_slc Tryz.underlying52;obtain⟨q,rfl,_⟩:=wL (f:=u8) (Q:=fun _=>True) l (fun x hx=>cL7 (hl x hx));exact⟨q,rfl⟩
theorem own :ownKnob Tryz.prog.godebug=none:=by kernel_rfl
theorem cW6 :Kids Tryz.prog (· <Tryz.prog.types.size):=kids_rows (by kernel_rfl) (by kernel_rfl)
theorem bB6 : ∀t e,t<Tryz.prog.types.size→Tryz.prog.underlying t=some (.slice e)→0<Tryz.prog.cellsOf e:=slices_full_of Tryz.prog (by kernel_rfl)
end Go.Proofs.YthedbjfipmkpiaaGreatDoor
