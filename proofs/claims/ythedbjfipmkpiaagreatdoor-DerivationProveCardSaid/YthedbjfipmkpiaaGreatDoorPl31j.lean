/- Plain Lean: how large a derivation is that was read (31.5). By an AI agent. -/
import Derived.Test.YthedbjfipmkpiaaGreatDoorHdUq
import Derived.Test.YthedbjfipmkpiaaGreatDoorHlTop
import Derived.Test.YthedbjfipmkpiaaGreatDoorPl31
import Derived.Test.YthedbjfipmkpiaaGreatDoorPl11c
import Derived.Test.YthedbjfipmkpiaaGreatDoorHdU6
import Derived.Test.YthedbjfipmkpiaaGreatDoorPl31g
set_option linter.unusedSimpArgs false
set_option linter.unusedVariables false
set_option linter.defProp false
namespace Go.Proofs.YthedbjfipmkpiaaGreatDoor
open Go Go.Hl Go.Pl
set_option maxRecDepth 10000
set_option maxHeartbeats 16000000
section
variable (x:Dv)
theorem pL :CV.getAt 0 1 false x.cv=some (.str x.q.n):=by simp[Dv.cv,Qs.cv,Og.cv,CV.getAt,CV.getAtL,CV.cells,CV.cellsL,dg_cells,dg_getAt]
theorem pM :CV.getAt 1 1 false x.cv=some (.str x.q.i):=by simp[Dv.cv,Qs.cv,Og.cv,CV.getAt,CV.getAtL,CV.cells,CV.cellsL,dg_cells,dg_getAt]
theorem pN :CV.getAt 2 32 true x.cv=some (dg x.q.a):=by simp[Dv.cv,Qs.cv,Og.cv,CV.getAt,CV.getAtL,CV.cells,CV.cellsL,dg_cells,dg_getAt]
theorem pO :CV.getAt 68 32 true x.cv=some (dg x.o.v):=by simp[Dv.cv,Qs.cv,Og.cv,CV.getAt,CV.getAtL,CV.cells,CV.cellsL,dg_cells,dg_getAt]
theorem pP :CV.getAt 100 1 false x.cv=some (.str x.o.l):=by simp[Dv.cv,Qs.cv,Og.cv,CV.getAt,CV.getAtL,CV.cells,CV.cellsL,dg_cells,dg_getAt]
theorem pQ :CV.getAt 101 1 false x.cv=some (.str x.o.r):=by simp[Dv.cv,Qs.cv,Og.cv,CV.getAt,CV.getAtL,CV.cells,CV.cellsL,dg_cells,dg_getAt]
end
structure DvW (d:Dv):Prop where
 t:I64 d.t
 r:I64 d.r
 l: ∀x∈d.l,LnW x
 len:(jC d).length<2^38
 ll:d.l.length<2^38
variable {d:Dv}
theorem cM8 (h:DvW d): ∀l∈jC d,l.length<2^40:=fun l hl=>by
 rcases List.mem_append.1 hl with hl|hl
 · simp only[mU,List.mem_cons,List.not_mem_nil,or_false]at hl;rcases hl with rfl|rfl<;>simp
 obtain⟨x,hx,hl⟩:=List.mem_flatMap.1 hl;have:=(h.l x hx).fl;rcases List.mem_cons.1 hl with rfl|hl
 · simp only[firstL,List.length_cons,List.length_map];omega
 obtain⟨a,_,rfl⟩:=List.mem_map.1 hl;simp[mZ]
def sI (d:Dv):Bool:=(!iQ d.r||decide (d.t<0))||decide (d.t>1099511627776)
theorem qL :nZ d=(!sI d&&d.l.all fX):=by
 have e:iQ d.t=(!decide (d.t<0)&&!decide (d.t>1099511627776)):=by
  simp only[iQ,inB,←decide_not];rw[Bool.eq_iff_iff];simp
 unfold nZ sI;rw[e];cases iQ d.r<;>cases decide (d.t<0)<;>cases decide (d.t>1099511627776)<;>simp
def dvT (d:Dv)(i:Nat):List (List aL):=mU d++(d.l.take i).flatMap fK
theorem cE8 (d:Dv):dvT d d.l.length=jC d:=by rw[dvT,List.take_length];rfl
variable {i:Nat}
theorem yF (h:i<d.l.length):dvT d (i+1)=dvT d i++fK d.l[i]:=by
 rw[dvT,List.take_succ_eq_append_getElem h,List.flatMap_append,dvT,List.append_assoc];simp
theorem cM9 (d:Dv)(i:Nat):(dvT d i).length≤(jC d).length:=by
 have h1:jC d=dvT d i++(d.l.drop i).flatMap fK:=by
  rw[dvT,List.append_assoc,←List.flatMap_append,List.take_append_drop];rfl
 rw[h1,List.length_append];omega
theorem bK8 {l:List Ln}(h:i<l.length)(h0:(l.take i).all fX=true)(h1:fX l[i]=true):(l.take (i+1)).all fX=true:=by
 rw[List.take_succ_eq_append_getElem h,List.all_append,h0];simp[h1]
theorem aP8 (d:Dv)(hd:DvW d):rO Tryz.prog 21 tabs [d.cv] (fun u v=>u= .slc ((dvO d).map eR)∧v= .int .i64 (dvE d)):=by
 refine bQ (args:=[.c d.cv]) Tryz.func21 rfl (by kernel_rfl) (gA tabs [d.cv]) (Nat.le_of_ble_eq_true rfl) ?_;unfold fV;have hno: ∀{ob:Ob} {r:HV},nZ d=false→r= .tup [.c .nils,.c (.int .i64 1)]→ob 0=some (.tab tabs)→iK 1 r ob (fun r ob'=> ∃u v,r= .tup [.c u,.c v]∧ob'=fob [(0,.tab tabs)]∧(u= .slc ((dvO d).map eR)∧v= .int .i64 (dvE d))):=fun {ob r} hf hr h0=>by
  subst hr;exact eW [] (.slc []) (.int .i64 1) (by simp[HV.close,HV.closeL,CV.denil,CV.denilL,HV.norm,HV.toC,HV.toCL]) h0 (by simp) ⟨by rw[dvO,hf];rfl,by rw[dvE,hf];rfl⟩
 refine aC fun K hK=>aD (by kernel_rfl) ?_;simp (maxSteps:=4000000) only[↓sP,sA,tyS,simprocAttr];repeat refine AI ?_
 refine hK _ _ _ ?_;clear hK K;refine aC fun K hK=>aD (by kernel_rfl) ?_;simp only[sR,simprocAttr];iterate 2
  (refine aE (g:=none) rfl rfl fun K' hK'=>?_;simp only[sH,↓sP,sA,tyS,simprocAttr];(repeat refine AI ?_);refine hK' _ _ ?_;clear hK' K')
 refine aE (g:=none) rfl rfl fun K' hK'=>?_;simp (maxSteps:=4000000) only[sH,↓sP,sA,tyS,simprocAttr];refine fW (args:=[_]) 0 (aH5 d.r hd.r) rfl (by simp) ⟨rfl,rfl,rfl,rfl⟩ ?_;rintro u v ⟨rfl,rfl⟩;repeat refine AI ?_
 refine hK' _ _ ?_;clear hK' K';iterate 5
  (refine aE (g:=none) rfl rfl fun K' hK'=>?_;simp only[sH,↓sP,sA,tyS,simprocAttr];(repeat refine AI ?_);refine hK' _ _ ?_;clear hK' K')
 simp only[sE,↓reduceIte,simprocAttr];repeat refine AI ?_
 refine hK _ _ _ ?_;clear hK K;refine aC fun K hK=>?_;refine aC fun K hK=>?_;have key: ∀(b:Bool) fr ob nx,b=sI d→Fits 1 fr ob (fin [(1,.ptr 1 0),(4,.c (.str (gD d.r))),(28,.c (.bool b))]) (fob [(0,.tab tabs),(1,.box 50 (.c d.cv))]) 600→K fr ob nx:=by
  rintro b fr ob nx rfl hf;refine hK _ _ _ (bO hf ?_);clear hf hK K;refine aJ (b:=sI d) rfl (fun hb=>?_) (fun hb=>?_)
  ·
   refine aC fun K hK=>aD (by kernel_rfl) ?_;simp (maxSteps:=4000000) only[↓sP,sA,tyS,simprocAttr];repeat refine AI ?_
   refine hK _ _ _ ?_;clear hK K;refine aH ?_;simp (maxSteps:=4000000) only[bK,Tryz.results21,bH,bJ,bG,↓sP,sA,tyS,simprocAttr];exact hno (by rw[qL,hb];rfl) rfl rfl
  have hbad:sI d=false:=hb;clear hb;refine aN ?_;simp (maxSteps:=4000000) only[↓sP,sA,tyS,simprocAttr];repeat refine AI ?_
  refine hK _ _ _ ?_;clear hK K;refine aC fun K hK=>dW mixed [(0,[],[]),(1,[],[]),(2,[],[]),(3,[],[]),(4,[],[]),(5,[],[]),(6,[],[]),(7,[],[]),(8,[],[]),(10,[],[]),(11,[],[]),(13,[],[]),(14,[],[]),(16,[],[]),(18,[],[]),(19,[],[]),(20,[],[]),(22,[],[]),(23,[],[]),(24,[],[]),(25,[],[]),(26,[],[]),(27,[],[]),(9,[],[0,1,2,3,4,5,10,11,13,14,16,18,19,20,22,23,24,25,26,27]),(12,[],[0,1,2,3,4,5,13,14,16,18,19,20,22,23,24,25,26,27]),(15,[],[0,1,2,3,4,5,16,18,19,20,22,23,24,25,26,27]),(17,[],[]),(21,[17],[0,1,2,3,4,5,16,22,23,24,25,26,27,17]),(28,[17],[]),(29,[],[]),(30,[],[])] [0,1,3,0,8,24,0,64,192,448,0,1024,4032,0,8192,32704,0,131071,0,262144,786432,1900480,0,4194304,12582912,0,33554432,100663296,268238784,536870911,1073741823] (by kernel_rfl) (by kernel_rfl) (by kernel_rfl) (by kernel_rfl) rfl (by kernel_rfl) ?_;iterate 23
   (refine cC (g:=none) rfl rfl fun K' hK'=>?_;simp only[sH,↓sP,sA,tyS,simprocAttr,pL,pM,pN,pO,pP,pQ];(repeat refine AI ?_);refine hK' _ _ ?_;clear hK' K')
  refine cC (g:=none) rfl rfl fun K' hK'=>?_;simp (maxSteps:=4000000) only[sH,↓sP,sA,tyS,simprocAttr,pL,pM,pN,pO,pP,pQ];refine cB (args:=[_]) (vP d.q.a) ⟨rfl,rfl,rfl,rfl⟩ ?_;rintro u rfl;repeat refine AI ?_
  refine hK' _ _ ?_;clear hK' K';refine cC (g:=none) rfl rfl fun K' hK'=>?_;simp (maxSteps:=4000000) only[sH,↓sP,sA,tyS,simprocAttr,pL,pM,pN,pO,pP,pQ];refine mJ (args:=[_]) 0 (bU9 d.t hd.t) rfl (by simp) ⟨rfl,rfl,rfl,rfl⟩ ?_;rintro u rfl;repeat refine AI ?_
  refine hK' _ _ ?_;clear hK' K';refine cC (g:=none) rfl rfl fun K' hK'=>?_;simp (maxSteps:=4000000) only[sH,↓sP,sA,tyS,simprocAttr,pL,pM,pN,pO,pP,pQ];refine cB (args:=[_]) (vP d.p) ⟨rfl,rfl,rfl,rfl⟩ ?_;rintro u rfl;repeat refine AI ?_
  refine hK' _ _ ?_;clear hK' K';refine lB (g:=none) 668 rfl rfl fun K' hK'=>?_;simp (maxSteps:=4000000) only[iT,lK,sH,↓sP,sA,tyS,simprocAttr,pL,pM,pN,pO,pP,pQ];repeat refine AI ?_
  refine dX (by first|rfl|simp) ?_;try simp (maxSteps:=4000000) only[sH,↓sP,sA,tyS,simprocAttr,pL,pM,pN,pO,pP,pQ]
  repeat refine AI ?_
  refine hK' _ _ ?_;clear hK' K';refine cC (g:=none) rfl rfl fun K' hK'=>?_;simp (maxSteps:=4000000) only[sH,↓sP,sA,tyS,simprocAttr,pL,pM,pN,pO,pP,pQ];refine cB (args:=[_]) (vP d.o.v) ⟨rfl,rfl,rfl,rfl⟩ ?_;rintro u rfl;repeat refine AI ?_
  refine hK' _ _ ?_;clear hK' K';refine lB (g:=none) 712 rfl rfl fun K' hK'=>?_;simp (maxSteps:=4000000) only[iT,lK,sH,↓sP,sA,tyS,simprocAttr,pL,pM,pN,pO,pP,pQ];repeat refine AI ?_
  refine dX (by first|rfl|simp) ?_;try simp (maxSteps:=4000000) only[sH,↓sP,sA,tyS,simprocAttr,pL,pM,pN,pO,pP,pQ]
  repeat refine AI ?_
  refine hK' _ _ ?_;clear hK' K';iterate 2
   (refine cC (g:=none) rfl rfl fun K' hK'=>?_;simp only[sH,↓sP,sA,tyS,simprocAttr,pL,pM,pN,pO,pP,pQ];(repeat refine AI ?_);refine hK' _ _ ?_;clear hK' K')
  simp only[sE,↓reduceIte,simprocAttr];repeat refine AI ?_
  refine hK _ _ _ ?_;clear hK K;refine aC fun K hK=>?_;refine aC fun K hK=>aD (by kernel_rfl) ?_;simp only[sR,simprocAttr];iterate 4
   (refine aE (g:=none) rfl rfl fun K' hK'=>?_;simp only[sH,↓sP,sA,tyS,simprocAttr];(repeat refine AI ?_);refine hK' _ _ ?_;clear hK' K')
  simp only[sE,↓reduceIte,simprocAttr];repeat refine AI ?_
  refine hK _ _ _ ?_;clear hK K;refine aO ?_;refine bP (α:={i:Nat//i≤d.l.length∧(d.l.take i).all fX=true}) (fun i=>(fin [(6,.own 716 (dvT d i.1).length),(60,.c (.slc (d.l.map Ln.cv))),(61,.c (.int .i64 d.l.length)),(62,.c (.int .i64 i.1))],fob [(0,.tab tabs),(716,.row 71 1 ((dvT d i.1).map lsC))])) 2000 (fun i=>d.l.length-i.1) ⟨0,by omega,by simp⟩ (aM (by omega) (by simp[aW,fin_at,finA_at,upd_at,HV.men,HV.menL,HV.norm,HV.toC,HV.toCL,dvT,mU,lsC,wDer,wOrg]) (by simp[aX,fob_at,upd_at,none0_at,bI,HO.men,HV.men,HV.menL,HV.norm,HV.toC,HV.toCL,dvT,mU,lsC,wDer,wOrg])) ?_;rintro⟨i,hi,hall⟩;refine aC fun K hK=>aD (by kernel_rfl) ?_;simp (maxSteps:=4000000) only[↓sP,sA,tyS,simprocAttr];repeat refine AI ?_
  refine hK _ _ _ ?_;clear hK K;refine aC fun K hK=>?_;refine aJ (b:=decide ((i:Int)<d.l.length)) rfl (fun hb=>?_) (fun hb=>?_)
  ·
   have hlt:i<d.l.length:=by have:=of_decide_eq_true hb;omega
   have hll:=hd.ll;have hle:=cM9 d (i+1);have hlen:=hd.len;rw[yF hlt,List.length_append]at hle;clear hb;refine aN ?_;simp (maxSteps:=4000000) only[↓sP,sA,tyS,simprocAttr];repeat refine AI ?_
   refine hK _ _ _ ?_;clear hK K;refine aC fun K hK=>?_;refine aO ?_;refine aC fun K hK=>aD (by kernel_rfl) ?_;simp only[sR,simprocAttr];iterate 4
    (refine aE (g:=none) rfl rfl fun K' hK'=>?_;simp only[sH,↓sP,sA,tyS,simprocAttr,Int.natCast_nonneg,Int.ofNat_lt,hlt,aU hlt];(repeat refine AI ?_);refine hK' _ _ ?_;clear hK' K')
   simp only[sE,↓reduceIte,simprocAttr];repeat refine AI ?_
   refine hK _ _ _ ?_;clear hK K;refine aC fun K hK=>aD (by kernel_rfl) ?_;simp only[sR,simprocAttr];refine aE (g:=none) rfl rfl fun K' hK'=>?_;simp (maxSteps:=4000000) only[sH,↓sP,sA,tyS,simprocAttr];repeat refine AI ?_
   refine hK' _ _ ?_;clear hK' K';refine aE (g:=none) rfl rfl fun K' hK'=>?_;simp (maxSteps:=4000000) only[sH,↓sP,sA,tyS,simprocAttr];refine fW (args:=[_]) 0 (lines_ok d.l[i] (hd.l _ (List.getElem_mem hlt))) rfl (by simp) ⟨rfl,rfl,rfl,rfl⟩ ?_;rintro u v ⟨rfl,rfl⟩;repeat refine AI ?_
   refine hK' _ _ ?_;clear hK' K';iterate 5
    (refine aE (g:=none) rfl rfl fun K' hK'=>?_;simp only[sH,↓sP,sA,tyS,simprocAttr];(repeat refine AI ?_);refine hK' _ _ ?_;clear hK' K')
   simp only[sE,↓reduceIte,simprocAttr];repeat refine AI ?_
   refine hK _ _ _ ?_;clear hK K;refine aC fun K hK=>?_;refine aC fun K hK=>aD (by kernel_rfl) ?_;simp (maxSteps:=4000000) only[↓sP,sA,tyS,simprocAttr];repeat refine AI ?_
   refine hK _ _ _ ?_;clear hK K;refine aJ (b:=!fX d.l[i]) rfl (fun hb=>?_) (fun hb=>?_)
   ·
    refine aC fun K hK=>aD (by kernel_rfl) ?_;simp (maxSteps:=4000000) only[↓sP,sA,tyS,simprocAttr];repeat refine AI ?_
    refine hK _ _ _ ?_;clear hK K;refine aH ?_;simp (maxSteps:=4000000) only[bK,Tryz.results21,bH,bJ,bG,↓sP,sA,tyS,simprocAttr];exact hno (by rw[qL,List.all_eq_false.2 ⟨_,List.getElem_mem hlt,by simpa using hb⟩,Bool.and_false]) rfl rfl
   have hfl:fX d.l[i]=true:=by simpa using hb
   clear hb;have hlv:yE d.l[i]=fK d.l[i]:=if_pos hfl;rw[hlv];have hcl:(∀v∈(fK d.l[i]).map lsC,v.cells=1)=True:=eq_true fun v hv=>by
    obtain⟨y,_,rfl⟩:=List.mem_map.1 hv;rfl
   refine aN ?_;simp (maxSteps:=4000000) only[↓sP,sA,tyS,simprocAttr];repeat refine AI ?_
   refine hK _ _ _ ?_;clear hK K;refine aD (by kernel_rfl) ?_;simp only[sR,simprocAttr];iterate 4
    (refine aE (g:=none) rfl rfl fun K' hK'=>?_;simp only[sH,↓sP,sA,tyS,simprocAttr,List.length_map,hcl];(repeat refine AI ?_);refine hK' _ _ ?_;clear hK' K')
   simp only[sE,↓reduceIte,simprocAttr];repeat refine AI ?_
   refine hK _ _ _ ?_;clear hK K;refine aD (by kernel_rfl) ?_;simp (maxSteps:=4000000) only[↓sP,sA,tyS,simprocAttr,IntWalk.i64_in _ (show-9223372036854775808≤(i:Int)+1∧(i:Int)+1≤9223372036854775807 by omega)];refine⟨⟨i+1,by omega,bK8 hlt hall hfl⟩,(aM (by omega) (by simp[aW,fin_at,finA_at,upd_at,HV.men,HV.menL,HV.norm,HV.toC,HV.toCL,yF hlt,List.map_append,List.length_append]) (by simp[aX,fob_at,upd_at,none0_at,bI,HO.men,HV.men,HV.menL,HV.norm,HV.toC,HV.toCL,yF hlt,List.map_append,List.length_append])),?_⟩;show d.l.length-(i+1)<d.l.length-i;omega
  have hie:i=d.l.length:=by have:=of_decide_eq_false hb;omega
  subst hie;rw[List.take_length]at hall;clear hb;rw[cE8];have hfine:nZ d=true:=by rw[qL,hbad,hall];rfl
  have hlen:=hd.len;refine bB ?_;simp (maxSteps:=4000000) only[↓sP,sA,tyS,simprocAttr];clear hK K;repeat refine AI ?_
  refine hK _ _ _ ?_;clear hK K;refine fC [716] (bO (fr2:=fin [(6,.c (.slc ((jC d).map lsC)))]) (ob2:=fob [(0,.tab tabs)]) (nx2:=3000) (aM (by omega) (by simp[aW,fJ,fin_at,finA_at,upd_at,fob_at,HV.close,HV.closeL,CV.denil,CV.denilL,fY,HV.men,HV.menL,HV.norm,HV.toC,HV.toCL]) (by simp[aX,gZ,fob_at,upd_at,none0_at,bI,HO.close,HV.close,HV.closeL,HO.men,HV.men,HV.menL,HV.norm,HV.toC,HV.toCL])) ?_);refine aC fun K hK=>aD (by kernel_rfl) ?_;simp only[sR,simprocAttr];refine aE (g:=none) rfl rfl fun K' hK'=>?_;simp (maxSteps:=4000000) only[sH,↓sP,sA,tyS,simprocAttr,fY];repeat refine AI ?_
  refine hK' _ _ ?_;clear hK' K';refine aE (g:=none) rfl rfl fun K' hK'=>?_;simp (maxSteps:=4000000) only[sH,↓sP,sA,tyS,simprocAttr,fY];refine eP (args:=[_]) (cM1 (jC d) (by omega) (cM8 hd)) ⟨rfl,rfl,rfl,rfl⟩ ?_;rintro u v ⟨rfl,rfl⟩;repeat refine AI ?_
  refine hK' _ _ ?_;clear hK' K';iterate 4
   (refine aE (g:=none) rfl rfl fun K' hK'=>?_;simp only[sH,↓sP,sA,tyS,simprocAttr,fY];(repeat refine AI ?_);refine hK' _ _ ?_;clear hK' K')
  simp only[sE,↓reduceIte,simprocAttr];repeat refine AI ?_
  refine hK _ _ _ ?_;clear hK K;refine aH ?_;simp (maxSteps:=4000000) only[bK,Tryz.results21,bH,bJ,bG,↓sP,sA,tyS,simprocAttr];exact eW [] (.slc ((vI (jC d)).map eR)) (.int .i64 (qD (jC d))) (by simp[HV.close,HV.closeL,CV.denil,CV.denilL,cO,HV.norm,HV.toC,HV.toCL]) rfl (by simp) ⟨by rw[dvO,if_pos hfine],by rw[dvE,if_pos hfine]⟩
 refine aD (by kernel_rfl) ?_;simp only[sR,simprocAttr];iterate 3
  (refine aE (g:=none) rfl rfl fun K' hK'=>?_;simp only[sH,↓sP,sA,tyS,simprocAttr];(repeat refine AI ?_);refine hK' _ _ ?_;clear hK' K')
 refine aG 17 rfl (fun h2_17=>?_) (fun h2_17=>?_)
 ·
  iterate 3
   (refine aE (g:=some (19,false)) rfl rfl fun K' hK'=>?_;simp only[sH,↓sP,sA,tyS,simprocAttr,h2_17];(repeat refine AI ?_);refine hK' _ _ ?_;clear hK' K')
  iterate 2
   (refine aE (g:=none) rfl rfl fun K' hK'=>?_;simp only[sH,↓sP,sA,tyS,simprocAttr,h2_17];(repeat refine AI ?_);refine hK' _ _ ?_;clear hK' K')
  refine aG 22 rfl (fun h2_22=>?_) (fun h2_22=>?_)
  ·
   iterate 3
    (refine aE (g:=some (24,false)) rfl rfl fun K' hK'=>?_;simp only[sH,↓sP,sA,tyS,simprocAttr,h2_17,h2_22];(repeat refine AI ?_);refine hK' _ _ ?_;clear hK' K')
   refine aE (g:=none) rfl rfl fun K' hK'=>?_;simp (maxSteps:=4000000) only[sH,↓sP,sA,tyS,simprocAttr,h2_17,h2_22];repeat refine AI ?_
   refine hK' _ _ ?_;clear hK' K';simp only[sE,↓reduceIte,simprocAttr];exact key true _ _ _ (by simp only[sI,h2_17,h2_22,Bool.not_true,Bool.not_false,Bool.true_or,Bool.false_or]) (aM (by omega) (by simp[aW,fin_at,finA_at,upd_at,HV.men,HV.menL,HV.norm,HV.toC,HV.toCL]) (by simp[aX,fob_at,upd_at,none0_at,bI,HO.men,HV.men,HV.menL,HV.norm,HV.toC,HV.toCL]))
  iterate 3
   (refine aE (g:=some (24,false)) rfl rfl fun K' hK'=>?_;simp only[sH,↓sP,sA,tyS,simprocAttr,h2_17,h2_22];(repeat refine AI ?_);refine hK' _ _ ?_;clear hK' K')
  refine aE (g:=none) rfl rfl fun K' hK'=>?_;simp (maxSteps:=4000000) only[sH,↓sP,sA,tyS,simprocAttr,h2_17,h2_22];repeat refine AI ?_
  refine hK' _ _ ?_;clear hK' K';refine aG 27 rfl (fun h2_27=>?_) (fun h2_27=>?_)
  · simp only[h2_27];simp only[sE,↓reduceIte,simprocAttr];exact key true _ _ _ (by simp only[sI,h2_17,h2_22,h2_27,Bool.not_true,Bool.not_false,Bool.true_or,Bool.false_or]) (aM (by omega) (by simp[aW,fin_at,finA_at,upd_at,HV.men,HV.menL,HV.norm,HV.toC,HV.toCL]) (by simp[aX,fob_at,upd_at,none0_at,bI,HO.men,HV.men,HV.menL,HV.norm,HV.toC,HV.toCL]))
  simp only[h2_27];simp only[sE,↓reduceIte,simprocAttr];exact key false _ _ _ (by simp only[sI,h2_17,h2_22,h2_27,Bool.not_true,Bool.not_false,Bool.true_or,Bool.false_or]) (aM (by omega) (by simp[aW,fin_at,finA_at,upd_at,HV.men,HV.menL,HV.norm,HV.toC,HV.toCL]) (by simp[aX,fob_at,upd_at,none0_at,bI,HO.men,HV.men,HV.menL,HV.norm,HV.toC,HV.toCL]))
 iterate 3
  (refine aE (g:=some (19,false)) rfl rfl fun K' hK'=>?_;simp only[sH,↓sP,sA,tyS,simprocAttr,h2_17];(repeat refine AI ?_);refine hK' _ _ ?_;clear hK' K')
 iterate 2
  (refine aE (g:=none) rfl rfl fun K' hK'=>?_;simp only[sH,↓sP,sA,tyS,simprocAttr,h2_17];(repeat refine AI ?_);refine hK' _ _ ?_;clear hK' K')
 iterate 3
  (refine aE (g:=some (24,false)) rfl rfl fun K' hK'=>?_;simp only[sH,↓sP,sA,tyS,simprocAttr,h2_17];(repeat refine AI ?_);refine hK' _ _ ?_;clear hK' K')
 refine aE (g:=none) rfl rfl fun K' hK'=>?_;simp (maxSteps:=4000000) only[sH,↓sP,sA,tyS,simprocAttr,h2_17];repeat refine AI ?_
 refine hK' _ _ ?_;clear hK' K';simp only[sE,↓reduceIte,simprocAttr];exact key true _ _ _ (by simp only[sI,h2_17,Bool.not_true,Bool.not_false,Bool.true_or,Bool.false_or]) (aM (by omega) (by simp[aW,fin_at,finA_at,upd_at,HV.men,HV.menL,HV.norm,HV.toC,HV.toCL]) (by simp[aX,fob_at,upd_at,none0_at,bI,HO.men,HV.men,HV.menL,HV.norm,HV.toC,HV.toCL]))
end Go.Proofs.YthedbjfipmkpiaaGreatDoor
namespace Go.Pl
open Go Go.Hl
def kF (L:List Ln):List Int:=L.flatMap Ln.f
theorem gX (a b:List Ln):kF (a++b)=kF a++kF b:=by simp[kF]
structure Blk (o:Nat)(L:List Ln)(F:List Int)(a b:Nat):Prop where
 node: ∀x∈L,(a:Int)≤x.n∧x.n<b
 dist:(L.map Ln.n).Nodup
 kind: ∀x∈L,x.k≠5
 back: ∀p (h:p<L.length),∀n∈L[p].f,(o:Int)≤n∧n<o+p
 free: ∀n∈F,(o:Int)≤n∧n<o+L.length
 size:(kF L).length+F.length=L.length
 once: ∀n:Int,(kF L++F).count n=if(o:Int)≤n∧n<o+L.length then 1 else 0
theorem Blk.nil (o a:Nat):Blk o [] [] a a:=⟨by simp,by simp,by simp,by simp,by simp,by simp[kF],fun n=>by simp[kF]⟩
variable {a c o:Nat}{F:List Int}{L:List Ln}
theorem Blk.wide {b:Nat}(h:Blk o L F a b)(hc:b≤c):Blk o L F a c:=
 ⟨fun x hx=>by have:=h.node x hx;omega,h.dist,h.kind,h.back,h.free,h.size,h.once⟩
theorem Blk.join {M:List Ln}{G:List Int}{b:Nat}(h:Blk o L F a b)(g:Blk (o+L.length) M G b c)(hab:a≤b)(hbc:b≤c):Blk o (L++M) (F++G) a c:=by
 refine⟨fun x hx=>?_,?_,fun x hx=>?_,fun p hp n hn=>?_,fun n hn=>?_,?_,fun n=>?_⟩
 ·
  rcases List.mem_append.1 hx with hx|hx
  · have:=h.node x hx;omega
  · have:=g.node x hx;omega
 · rw[List.map_append,List.nodup_append];refine⟨h.dist,g.dist,fun x hx y hy=>?_⟩;obtain⟨x',h1,rfl⟩:=List.mem_map.1 hx;obtain⟨y',h2,rfl⟩:=List.mem_map.1 hy;have:=h.node x' h1;have:=g.node y' h2;omega
 ·
  rcases List.mem_append.1 hx with hx|hx
  · exact h.kind x hx
  · exact g.kind x hx
 ·
  rw[List.getElem_append]at hn;split at hn
  · exact h.back p _ n hn
  · have h1:=g.back _ _ n hn;simp only[List.length_append]at hp;omega
 ·
  rw[List.length_append];rcases List.mem_append.1 hn with hn|hn
  · have:=h.free n hn;omega
  · have:=g.free n hn;omega
 · have h1:=h.size;have h2:=g.size;rw[gX];simp only[List.length_append];omega
 · have h1:=h.once n;have h2:=g.once n;rw[gX];simp only[List.count_append,List.length_append]at h1 h2⊢;grind
theorem Blk.line {o:Nat}{L:List Ln}{b:Nat}(h:Blk o L F (a+1) b)(x:Ln)(hn:x.n=a)(hf:x.f=F)(hk:x.k≠5)(hb:a<b):Blk o (L++[x]) [((o+L.length:Nat):Int)] a b:=by
 refine⟨fun y hy=>?_,?_,fun y hy=>?_,fun p hp n hn'=>?_,fun n hn'=>?_,?_,fun n=>?_⟩
 ·
  rcases List.mem_append.1 hy with hy|hy
  · have:=h.node y hy;omega
  · rw[List.mem_singleton]at hy;subst hy;omega
 · rw[List.map_append,List.nodup_append];refine⟨h.dist,by simp,fun u hu v hv=>?_⟩;obtain⟨u',h1,rfl⟩:=List.mem_map.1 hu;simp only[List.map_cons,List.map_nil,List.mem_singleton]at hv;have:=h.node u' h1;omega
 ·
  rcases List.mem_append.1 hy with hy|hy
  · exact h.kind y hy
  · rw[List.mem_singleton]at hy;subst hy;exact hk
 ·
  rw[List.getElem_append]at hn';split at hn'
  · exact h.back p _ n hn'
  ·
   rename_i hp2;simp only[List.length_append,List.length_cons,List.length_nil]at hp;have hpe:p=L.length:=by omega
   subst hpe;simp only[Nat.sub_self,List.getElem_cons_zero]at hn';rw[hf]at hn';exact h.free n hn'
 · rw[List.mem_singleton]at hn';subst hn';simp only[List.length_append,List.length_cons,List.length_nil];omega
 ·
  have h1:=h.size;rw[gX];have e:kF [x]=F:=by simp[kF,hf]
  rw[e];simp only[List.length_append,List.length_cons,List.length_nil];omega
 ·
  have h1:=h.once n;rw[gX];have e:kF [x]=F:=by simp[kF,hf]
  rw[e];simp only[List.count_append,List.length_append,List.length_cons,List.length_nil,List.count_cons,List.count_nil]at h1⊢;grind
theorem bW3 (n:Nd):eA n≠5∧eA n≠1:=by unfold eA;grind
theorem bC6 {l:List Nd}(ht:IsTree l)(S:List Sp): ∀(f i:Nat) (out:List Ln),i<l.length→l.length-i≤f→ ∃L,prv l S f i out=out++L∧Blk out.length L [((prv l S f i out).length:Int)-1] i (aft l i)
 |0,i,out,hi,hf=>by omega
 |f+1,i,out,hi,hf=>by
  have ha:=eZ ht hi;rcases Decidable.em ((l.getD i nd0).k=1)with h|h
  ·
   refine⟨[jE l S i],jX h,?_⟩;have h0:=((Blk.nil out.length (i+1)).line (a:=i) (jE l S i) rfl rfl (by simp[jE]) (by omega)).wide (c:=aft l i) (by omega);rw[jX h];simp only[List.nil_append,List.length_nil,Nat.add_zero,List.length_append,List.length_cons]at h0⊢
   rwa [show((out.length+(0+1):Nat):Int)-1=(out.length:Int)from by omega]
  ·
   have key: ∀j,j≤l[i].c.toNat→ ∃M,(gS l S f i j out).1=out++M∧Blk out.length M (gS l S f i j out).2 (i+1) (cA l j (i+1)):=by
    intro j;induction j with
    |zero=>intro _;exact⟨[],by simp[gS,cV],Blk.nil _ _⟩
    |succ j ih=>
     intro hj;obtain⟨M,h1,h2⟩:=ih (by omega);have h3:=gK ht hi (k:=j) (by omega);have h4:=eZ ht h3;have h6:=(fU ht hi j (by omega)).2.2;rw[eH,cI,mW];split
     ·
      obtain⟨N,g1,g2⟩:=bC6 ht S f _ (gS l S f i j out).1 h3 (by omega);refine⟨M++N,?_,?_⟩
      · show prv l S f _ _=_;rw[g1,h1,List.append_assoc]
      ·
       have hlen:(gS l S f i j out).1.length=out.length+M.length:=by rw[h1,List.length_append]
       rw[hlen]at g2;exact h2.join g2 h6 (by omega)
     · exact⟨M,h1,h2.wide (by omega)⟩
   obtain⟨M,h1,h2⟩:=key l[i].c.toNat (Nat.le_refl _);rw[iM ht hi]at h2;have e:prv l S (f+1) i out=out++(M++[⟨eA (l.getD i nd0),i,[],(gS l S f i l[i].c.toNat out).2⟩]):=by
    rw[lQ h,rL hi,h1,List.append_assoc]
   refine⟨_,e,?_⟩;have h0:=h2.line ⟨eA (l.getD i nd0),i,[],(gS l S f i l[i].c.toNat out).2⟩ rfl rfl (bW3 _).1 (by omega);rw[e];simp only[List.length_append,List.length_cons,List.length_nil]at h0⊢
   rwa [show((out.length+(M.length+(0+1)):Nat):Int)-1=((out.length+M.length:Nat):Int)from by omega]
structure NeedsV (X:List Ln):Prop where
 pos:0<X.length
 last:(X.getLast?.map Ln.k)=some 5
 back: ∀p (h:p<X.length),∀n∈X[p].f,0≤n∧n<p
 dist: ∀p (h:p<X.length),X[p].k≠5→ ∀q (h':q<p),X[q].n≠X[p].n
 size:(kF X).length<X.length
 once: ∀p:Nat,p+1<X.length→(kF X).count (p:Int)=1
variable {S:List Sp}{l:List Nd}
theorem aH8 (h:eD l (cG S)=true):NeedsV (eG l S):=by
 have ht:IsTree l:=eM (by unfold eD at h;simp only[Bool.and_eq_true]at h;exact h.1);obtain⟨L,h1,h2⟩:=bC6 ht S l.length 0 [] ht.ne (by omega);have e:nS l S=L:=by unfold nS;rw[h1];rfl
 rw[h1]at h2;simp only[List.nil_append,List.length_nil]at h2;unfold eG;rw[if_pos h,e];have hL:0<L.length:=by
  rcases Nat.eq_zero_or_pos L.length with h0|h0
  · have:=h2.free _ (List.mem_singleton.2 rfl);omega
  · exact h0
 refine⟨by simp,?_,fun p hp n hn=>?_,fun p hp hk q hq=>?_,?_,fun p hp=>?_⟩
 · simp
 ·
  rw[List.getElem_append]at hn;split at hn
  · have:=h2.back p _ n hn;omega
  ·
   simp only[List.length_append,List.length_cons,List.length_nil]at hp;have hpe:p=L.length:=by omega
   subst hpe;simp only[Nat.sub_self,List.getElem_cons_zero,List.mem_singleton]at hn;omega
 ·
  simp only[List.length_append,List.length_cons,List.length_nil]at hp;rcases Nat.lt_or_ge p L.length with hp2|hp2
  · rw[List.getElem_append_left hp2,List.getElem_append_left (by omega)];have hd:=List.pairwise_iff_getElem.1 h2.dist q p (by simp;omega) (by simpa using hp2) hq;simpa using hd
  ·
   have hpe:p=L.length:=by omega
   subst hpe;simp at hk
 · have h3:=h2.size;rw[gX];simp only[kF,List.flatMap_cons,List.flatMap_nil,List.length_append,List.length_cons,List.length_nil]at h3⊢;omega
 ·
  have h3:=h2.once p;rw[gX];simp only[List.length_append,List.length_cons,List.length_nil]at hp;have e2:kF [(⟨5,0,[],[(L.length:Int)-1]⟩:Ln)]=[(L.length:Int)-1]:=by simp[kF]
  rw[e2,h3,if_pos (by omega)]
variable {j:Nat}
theorem aP9 (hj:j<l.length)(hk:l[j].k=1):(dZ 0 l)[lv (l.take j)]? =some j:=by
 have e:dZ 0 l=dZ 0 (l.take j)++dZ j (l.drop j):=by
  conv=>lhs;rw[←List.take_append_drop j l,mG]
  rw[Nat.zero_add,List.length_take,Nat.min_eq_left (by omega)]
 rw[e,List.getElem?_append_right (by rw[fZ];exact Nat.le_refl _),fZ,Nat.sub_self,List.drop_eq_getElem_cons hj,dZ,if_pos hk];rfl
theorem aQ0 : ∀(l:List Nd) (o:Nat),(dZ o l).Pairwise (· <·)∧ ∀x∈dZ o l,o≤x
 |[],o=>by simp[dZ]
 |n::l,o=>by
  have h:=aQ0 l (o+1);rw[dZ];split
  ·
   refine⟨List.pairwise_cons.2 ⟨fun x hx=>?_,h.1⟩,fun x hx=>?_⟩
   · have:=h.2 x hx;omega
   ·
    rcases List.mem_cons.1 hx with rfl|hx
    · omega
    · have:=h.2 x hx;omega
  · exact⟨h.1,fun x hx=>by have:=h.2 x hx;omega⟩
variable {k:Nat}
theorem bK9 (hj:j<l.length)(hk:l[j].k=1)(h:(dZ 0 l)[k]? =some j):k=lv (l.take j):=by
 have h1:=aP9 hj hk;obtain⟨a1,a2⟩:=List.getElem?_eq_some_iff.1 h;obtain⟨b1,b2⟩:=List.getElem?_eq_some_iff.1 h1;have hp:=List.pairwise_iff_getElem.1 (aQ0 l 0).1;rcases Nat.lt_trichotomy k (lv (l.take j))with h2|h2|h2
 · have:=hp _ _ a1 b1 h2;omega
 · exact h2
 · have:=hp _ _ b1 a1 h2;omega
theorem yG {P:Nat→List Ln→List Ln}{v:Nat→Bool}{w:Nat}(hP: ∀j out,∃L,P j out=out++L): ∀(ks:List Nat) (st:List Ln×List Int),∃L,(ks.foldl (mW P v w) st).1=st.1++L
 |[],st=>⟨[],by simp⟩
 |k::ks,st=>by
  obtain⟨L,h⟩:=yG (v:=v) (w:=w) hP ks (mW P v w st k);obtain⟨M,g⟩:=hP k st.1;rw[List.foldl_cons,h,mW];split
  · exact⟨M++L,by simp only;rw[g,List.append_assoc]⟩
  · exact⟨L,rfl⟩
theorem bC7 (l:List Nd)(S:List Sp): ∀(f i:Nat) (out:List Ln),∃L,prv l S f i out=out++L
 |0,_,out=>⟨[],by simp[prv]⟩
 |f+1,i,out=>by
  rw[prv];split
  · exact⟨_,rfl⟩
  · obtain⟨L,h⟩:=yG (v:=dB l (cG S)) (w:=wantN (l.getD i nd0)) (fun j o=>bC7 l S f j o) (aG6 l i) (out,[]);simp only at h⊢;rw[h];exact⟨L++_,by rw[List.append_assoc]⟩
theorem bW4 (l:List Nd)(S:List Sp)(f i j:Nat)(out:List Ln): ∃L,(gS l S f i j out).1=out++L:=
 yG (fun j o=>bC7 l S f j o) _ _
def dws (l:List Dig):List aL:=l.map Subtype.val
theorem fO (l:List Dig):(dws l).length=l.length:=List.length_map _
theorem sJ (l:List Dig)(i:Nat)(h:i<(dws l).length):(dws l)[i]=(l[i]'(by rwa [fO]at h)).1:=by simp[dws]
theorem kG (l:List Dig)(i:Nat):dws (l.take i)=(dws l).take i:=List.map_take
theorem qM (a b:List Dig):dws (a++b)=dws a++dws b:=List.map_append
theorem mP (l:List Dig)(d:Dig):l.contains d=(dws l).contains d.1:=by
 rw[Bool.eq_iff_iff,List.contains_iff_mem,List.contains_iff_mem];exact⟨fun h=>List.mem_map.2 ⟨d,h,rfl⟩,fun h=>by obtain⟨x,h1,h2⟩:=List.mem_map.1 h;rwa [←Subtype.ext h2]⟩
theorem aH9 {l:List Dig}(h:k<l.length):((dws l)[k]'(by rwa [fO])==(dws l)[k-1]'(by rw[fO];omega))=(l[k]==l[k-1]):=by
 rw[sJ,sJ,Bool.eq_iff_iff,beq_iff_eq,beq_iff_eq,Subtype.ext_iff]
theorem cE9 {l:List Dig}(h0:1≤k)(h:k<l.length)(hne:(l[k]==l[k-1])=false)(hd:cK (dws (l.take k))=dws (l.take k)):cK (dws (l.take (k+1)))=dws (l.take (k+1)):=by
 rw[kG]at hd⊢;exact aW7 h0 (by rwa [fO]) (by rw[aH9 h];exact hne) hd
theorem bC8 {l:List Dig}(h0:1≤k)(h:k<l.length)(he:(l[k]==l[k-1])=true):cK (dws (l.take (k+1)))=cK (dws (l.take k)):=by
 rw[kG,kG];exact aW8 h0 (by rwa [fO]) (by rw[aH9 h];exact he)
variable {i:Nat}
theorem cN0 {l r:List Dig}(h0:1≤k)(h:k<l.length)(hne:(l[k]==l[k-1])=false)(hi:i<r.length)(hr:dws (r.take i)=cK (dws (l.take k))):dws ((r.set i l[k]).take (i+1))=cK (dws (l.take (k+1))):=by
 rw[kG l,bI7 h0 (by rwa [fO]) (by rw[aH9 h];exact hne),←kG,←hr,sJ];rw[List.take_succ_eq_append_getElem (by simpa using hi),List.take_set_of_le (Nat.le_refl _),qM];simp[dws]
def fP (X:List Ln):List Dig:=X.flatMap Ln.d
def bW5 (X:List Ln):List aL:=bF9 (dws (fP X))
theorem bL0 {l s:List Dig}(hp:s.Perm l)(hs:s.Pairwise fun a b=>slt b.1 a.1=false):cK (dws s)=bF9 (dws l):=by
 refine aW3 ?_ fun w=>?_
 · unfold dws;rw[List.pairwise_map];refine hs.imp fun {a b} h=>?_;rw[←List.not_lt,←vN];simpa using h
 · unfold dws;exact(hp.map _).mem_iff
theorem cF0 {x:Ln}(h:fX x=true):(wordK x.k).length≤7∧(∀n∈x.n::x.f,0≤n∧n≤1099511627776):=by
 simp only[fX,Bool.and_eq_true,inB,decide_eq_true_eq]at h;obtain⟨⟨⟨h1,h2⟩,h3⟩,h4⟩:=h;refine⟨?_,fun n hn=>?_⟩
 ·
  obtain h|h|h|h|h:x.k=1∨x.k=2∨x.k=3∨x.k=4∨x.k=5:=by omega
  all_goals rw[h];decide
 ·
  rcases List.mem_cons.1 hn with rfl|hn
  · exact(kC _).1 h3
  ·
   split at h4
   · rw[beq_iff_eq]at h4;rw[h4]at hn;cases hn
   · simp only[Bool.and_eq_true]at h4;exact(kC _).1 (List.all_eq_true.1 h4.1 n hn)
theorem aI0 {n:Int}(h:0≤n∧n≤1099511627776):(gD n).length≤21∧sizeW (gD n)≤64:=by
 have h1:=bS9 (n:=n) (by omega);have:=eT (gD n);omega
theorem bL1 (w:aL)(l:List aL):iE (w::l)=sizeW w+1+iE l:=by simp[iE]
theorem cF1 :iE []=0:=rfl
theorem bL2 (l:List aL)(ls:List (List aL)):sumD (l::ls)=iE l+sumD ls:=by simp[sumD]
theorem bL3 (l:List Ln):(l.flatMap fK).length=l.length+(fP l).length:=by
 induction l with
 |nil=>rfl
 |cons x l ih=>
  rw[List.flatMap_cons,List.length_append,ih];simp only[fK,fP,List.length_cons,List.length_map,List.flatMap_cons,List.length_append];omega
theorem lines_ok {l:List Ln}(h:l.all fX=true)(hr: ∀x∈l,x.f.length≤100): ∀w∈l.flatMap fK,okL w=true:=by
 intro w hw;obtain⟨x,hx,hw⟩:=List.mem_flatMap.1 hw;have hf:=List.all_eq_true.1 h x hx;obtain⟨h1,h2⟩:=cF0 hf;have h3:=hr x hx;rw[kR];rcases List.mem_cons.1 hw with rfl|hw
 ·
  refine⟨by simp[firstL],by simp only[firstL,List.length_cons,List.length_map];omega,fun u hu=>?_⟩;rcases List.mem_cons.1 hu with rfl|hu
  · omega
  · obtain⟨n,hn,rfl⟩:=List.mem_map.1 (show u∈(x.n::x.f).map gD from hu);have:=(aI0 (h2 n hn)).1;omega
 ·
  obtain⟨d,_,rfl⟩:=List.mem_map.1 hw;refine⟨by simp[mZ],by simp[mZ],fun u hu=>?_⟩;simp only[mZ,List.mem_cons,List.not_mem_nil,or_false]at hu;rcases hu with rfl|rfl
  · decide
  · rw[rW];decide
structure SmallD (d:Dv):Prop where
 fine:nZ d=true
 n:d.q.n.length≤100
 i:d.q.i.length≤100
 l:d.o.l.length≤100
 r:d.o.r.length≤100
 lines:d.l.length≤100
 kF:(kF d.l).length≤100
 docs:(fP d.l).length≤200
variable {x:Ln}
theorem cF2 {l:List Ln}(h:x∈l):x.f.length≤(kF l).length:=by
 induction l with
 |nil=>cases h
 |cons y l ih=>
  have e:kF (y::l)=y.f++kF l:=by simp[kF]
  rw[e,List.length_append];rcases List.mem_cons.1 h with rfl|h
  · omega
  · have:=ih h;omega
variable {d:Dv}
theorem head_ok (h:SmallD d):(∀w∈mU d,okL w=true)∧sumD (mU d)≤3400:=by
 have hf:=h.fine;simp only[nZ,Bool.and_eq_true]at hf;have h1:=aI0 ((kC _).1 hf.1.1);have h2:=aI0 ((kC _).1 hf.1.2);have a1:=h.n;have a2:=h.i;have a3:=h.l;have a4:=h.r;have b1:wDer.length=10:=rfl;have b2:wOrg.length=6:=rfl;constructor
 ·
  intro w hw;rw[kR];simp only[mU,List.mem_cons,List.not_mem_nil,or_false]at hw;rcases hw with rfl|rfl
  · refine⟨by simp,by simp,fun u hu=>?_⟩;simp only[List.mem_cons,List.not_mem_nil,or_false]at hu;rcases hu with rfl|rfl|rfl|rfl|rfl|rfl|rfl<;>first|omega|(rw[rW];omega)
  · refine⟨by simp,by simp,fun u hu=>?_⟩;simp only[List.mem_cons,List.not_mem_nil,or_false]at hu;rcases hu with rfl|rfl|rfl|rfl<;>first|omega|(rw[rW];omega)
 · have c1:=eT wDer;have c2:=eT wOrg;have c3:=eT d.q.n;have c4:=eT d.q.i;have c5:=eT (jB d.q.a);have c6:=eT (jB d.p);have c7:=eT (jB d.o.v);have c8:=eT d.o.l;have c9:=eT d.o.r;rw[rW]at c5 c6 c7;simp only[mU,bL2,bL1,cF1,show sumD []=0 from rfl];omega
theorem aI1 {n a b:Int}:inB n a b=true↔a≤n∧n≤b:=by unfold inB;simp
theorem aQ1 {r:Pr}(h:rZ r=true):(0≤r.g∧r.g≤1099511627776)∧IsTree r.t∧eK r.a=true∧(aW0 r.b).isSome=true∧(aW0 r.c).isSome=true:=by
 unfold rZ at h;simp only[Bool.and_eq_true,aI1]at h;obtain⟨h1,h2,h3,⟨h4,h5⟩,h6⟩:=h;rw[rX]at h5;exact⟨⟨h4,h5⟩,eM h6,h1,h2,h3⟩
theorem cF3 {p:Po}(h:bT8 p=true):(1≤p.v∧p.v≤1099511627776)∧p.r.length≤16∧eK p.n=true∧ ∀r∈p.r,rZ r=true:=by
 unfold bT8 at h;simp only[Bool.and_eq_true,aI1,decide_eq_true_eq,List.all_eq_true]at h;obtain⟨h1,⟨h2,h3⟩,h4,h5,-⟩:=h;rw[rX]at h3;exact⟨⟨h2,h3⟩,h4,h1,h5⟩
theorem bC9 : ∀(l:List Nd) (m:Nat) (v:Int),skip m l=some []→(∀n∈l,cW n=true)→rG l m v=some (0,v+lv l)
 |[],0,v,_,_=>by simp[rG,lv]
 |[],m+1,v,h,_=>by cases h
 |n::l,0,v,h,_=>by grind[fG]
 |n::l,m+1,v,h,hn=>by
  have h':skip (m+n.c.toNat) l=some []:=h;have hnn:=hn n List.mem_cons_self;obtain⟨c1,c2,c3,c4⟩:=eL hnn;have e:((m+1:Nat):Int)+(n.c-1)=((m+n.c.toNat:Nat):Int):=by omega
  rw[rG,if_neg (by omega),if_pos hnn,e,bC9 l _ _ h' (fun x hx=>hn x (List.mem_cons_of_mem _ hx)),lv];grind
theorem aQ2 (h:IsTree l):dN l=true:=by
 unfold dN;have:=bC9 l 1 0 h.skip h.node;rw[show((1:Nat):Int)=1 from rfl]at this;rw[this];have:=h.lv;simp[h.ne,h.len];omega
def uni (l:List (Nat×Nat)):List (Nat×Nat):=l.eraseDups
def yH (f:Nat→List (Nat×Nat)):Nat→Nat→Nat×Nat→List (Nat×Nat)
 |0,_,p=>[p]
 |c+1,n,p=>uni ((f n).flatMap fun q=>yH f c (n+q.1) (p.1+q.1,p.2+q.2))
def pos :Nat→Nat→List (Nat×Nat)
 |0,_=>[(1,1)]
 |d+1,n=>uni ((1,1)::if n≤8 then(List.range 3).flatMap fun c=>yH (pos d) (c+1) (n+1) (1,0)else [])
theorem oU {l:List (Nat×Nat)}{p:Nat×Nat}:p∈uni l↔p∈l:=by unfold uni;simp_all
theorem aD8 {f:Nat→List (Nat×Nat)}: ∀{c n:Nat} {p q r:Nat×Nat},q∈yH f c n p→r∈f (n+(q.1-p.1))→p.1≤q.1→(q.1+r.1,q.2+r.2)∈yH f (c+1) n p
 |0,n,p,q,r,hq,hr,_=>by simp_all[yH,List.mem_singleton,Nat.sub_self,Nat.add_zero,oU,List.mem_flatMap]
 |c+1,n,p,q,r,hq,hr,hpq=>by
  unfold yH at hq⊢;rw[oU,List.mem_flatMap]at hq⊢;obtain⟨s,hs,hq⟩:=hq;have hle:p.1+s.1≤q.1:=by
   have key: ∀(c n:Nat) (p q:Nat×Nat),q∈yH f c n p→p.1≤q.1:=by
    intro c;induction c with
    |zero=>simp_all[yH,List.mem_singleton,Nat.le_refl]
    |succ c ih=>
     grind[yH,oU]
   exact key _ _ _ _ hq
  refine⟨s,hs,aD8 hq ?_ hle⟩;grind
structure Made (d n:Nat)(t:List Nd):Prop where
 skip:skip 1 t=some []
 node: ∀n∈t,cW n=true
 pos:(t.length,lv t)∈pos d n
variable {t:List Nd}
theorem cF4 (h:Made 3 0 t):IsTree t:=by
 have hb: ∀p∈pos 3 0,1≤p.1∧p.1≤60∧p.2≤16:=by decide+kernel
 obtain⟨h1,h2,h3⟩:=hb _ h.pos;exact⟨h1,h2,h.skip,h.node,h3⟩
variable {q:Rq}{n:Nat}
theorem aD9 {d:Nat}(h:eF q=true):Made d n [⟨1,0,0,q⟩]:=by
 refine⟨rfl,fun x hx=>?_,?_⟩
 · simp only[List.mem_singleton]at hx;subst hx;unfold cW;rw[if_pos rfl,h];rfl
 ·
  cases d with
  |zero=>simp[pos,lv]
  |succ d=>rw[pos,oU];exact List.mem_cons_self
structure MadeK (d n k:Nat)(ts:List Nd):Prop where
 skip:skip k ts=some []
 node: ∀n∈ts,cW n=true
 pos:(1+ts.length,lv ts)∈yH (pos d) k (n+1) (1,0)
theorem MadeK.zero (d n:Nat):MadeK d n 0 []:=⟨rfl,by simp,by simp[yH,lv]⟩
variable {ts:List Nd}
theorem MadeK.next {d:Nat}(h:MadeK d n k ts)(ht:Made d (n+1+ts.length) t):MadeK d n (k+1) (ts++t):=by
 refine⟨?_,fun x hx=>?_,?_⟩
 · rw[lO,uX ts t [] k h.skip];exact ht.skip
 ·
  rcases List.mem_append.1 hx with hx|hx
  · exact h.node x hx
  · exact ht.node x hx
 ·
  have:=aD8 (r:=(t.length,lv t)) h.pos (by
   rw[show n+1+(1+ts.length-1)=n+1+ts.length from by omega];exact ht.pos) (by simp)
  grind[tH,Nat.add_assoc]
theorem MadeK.fin {d:Nat}{x:Nd}(h:MadeK d n c ts)(hn:n≤8)(hx:cW x=true)(hk:x.k≠1)(hc:x.c=c)(h1:1≤c)(h3:c≤3):Made (d+1) n (x::ts):=by
 refine⟨?_,fun y hy=>?_,?_⟩
 · show Pl.skip (0+x.c.toNat) ts=some [];rw[hc,Nat.zero_add];exact h.skip
 ·
  rcases List.mem_cons.1 hy with rfl|hy
  · grind
  · exact h.node y hy
 · rw[Pl.pos,oU];refine List.mem_cons_of_mem _ ?_;rw[if_pos hn,List.mem_flatMap];refine⟨c-1,List.mem_range.2 (by omega),?_⟩;rw[show c-1+1=c from by omega];have:=h.pos;simp_all[lv,if_neg,List.length_cons,Nat.add_comm]
structure Ms where
 n:aL
 v:Int
 r:List Pr
 o:List Nat
 d:Bool
theorem yI {w:aL}(h:eK w=true):1≤w.length∧w.length≤64:=by
 cases w with
 |nil=>cases h
 |cons c r=>
  simp_all[eK,Bool.and_eq_true,decide_eq_true_eq]
def bW6 (p:Po):Prop:=bT8 p=true∧p.r.length≤2∧ ∀r∈p.r,r.b.length≤80∧r.c.length≤80∧r.t.length≤40
def isV (ls:List (List aL))(a:Nat)(w:aL)(k:Nat):Bool:=decide (a<ls.length)&&((ls.getD a []).length==k&&wd (ls.getD a []) 0==w)
variable {ls:List (List aL)}
theorem cF5 (h: ¬a<ls.length)(w:aL)(k:Nat):isV ls a w k=false:=by simp[isV,h]
theorem cN1 (h:a<ls.length)(w:aL)(k:Nat):isV ls a w k=(ls[a].length==k&&wd ls[a] 0==w):=by simp[isV,h]
abbrev Kds :=Option (List Nd×Int)×List (List aL)
def cF6 (ts:List Nd)(k:Int)(x:Kds):Kds:=(x.1.map fun p=>(ts++p.1,k+p.2),x.2)
def cN2 (n:Nd)(x:Kds):Option (List Nd)×List (List aL):=(x.1.map fun p=>{n with c:=p.2}::p.1,x.2)
theorem bW7 (x:Kds):cF6 [] 0 x=x:=by simp_all[cF6]
variable {r:List (List aL)}{f:Nat}
theorem bL4 {w:List aL}{n:Nd}(h:cL7 w=none)(h2:cL8 w=some n):rdN (f+1) (w::r)=cN2 n (rdK f r):=by
 simp only[rdN,h,h2]
 match rdK f r with
 |(none,r')=>rfl
 |(some (ts,c),r')=>rfl
theorem cN3 {l:List (List aL)}(h:bU3 (l.headD [])=false)(h2:rdN f l=(none,r)):rdK (f+1) l=(none,r):=by simp_all[rdK,Bool.false_eq_true,if_false]
theorem bL5 (ha:a≤ls.length):bU3 ((ls.drop a).headD [])=isV ls a cL6 1:=by
 rcases Nat.lt_or_ge a ls.length with h|h
 · rw[cN1 h,List.drop_eq_getElem_cons h];rfl
 · rw[cF5 (by omega),List.drop_eq_nil_of_le h];rfl
structure KdSt (f:Nat)(ls:List (List aL))(a:Nat)(nd:Nd)(g:Nat)(ts:List Nd)(k p:Nat):Prop where
 eq:rdN f (ls.drop a)=cN2 nd (cF6 ts k (rdK g (ls.drop p)))
 le:p≤ls.length
 fuel:2*(ls.length-p)+2≤g
 lt:g<f
 len:ts.length+(ls.length-p)+1≤ls.length-a
 cS4:k≤ts.length
variable {nd:Nd}
theorem KdSt.init (ha:a<ls.length)(hf:2*(ls.length-a)+1≤f)(h1:cL7 ls[a]=none)(h2:cL8 ls[a]=some nd):KdSt f ls a nd (f-1) [] 0 (a+1):=by
 obtain⟨g,rfl⟩: ∃g,f=g+1:=⟨f-1,by omega⟩;refine⟨?_,by omega,?_,by omega,by grind,by simp⟩;all_goals grind[List.drop_eq_getElem_cons,bL4,cN2,cF6,bW7,Nat.add_sub_cancel]
variable {p:Nat}
theorem KdSt.no {g:Nat}(h:KdSt f ls a nd g ts k p)(he:isV ls p cL6 1=false)(hn:(rdN (g-1) (ls.drop p)).1=none):rdN f (ls.drop a)=(none,(rdN (g-1) (ls.drop p)).2):=by
 obtain⟨q,rfl⟩: ∃q,g=q+1:=⟨g-1,by have:=h.fuel;omega⟩;simp only[Nat.add_sub_cancel]at hn⊢;rw[h.eq,cN3 (by rw[bL5 h.le,he]) (r:=(rdN q (ls.drop p)).2) (Prod.ext hn rfl)];rfl
abbrev Rls :=Option (List Pr)×List (List aL)
structure RsSt (ls:List (List aL))(X:Rls)(acc:List Pr)(p:Nat):Prop where
 eq:X=cD0 (ls.length-p+1) (ls.drop p) acc
 le:p≤ls.length
 len:acc.length≤p
variable {acc:List Pr}{X:Rls}
theorem RsSt.done (h:RsSt ls X acc p)(hp: ¬p<ls.length):p=ls.length∧X=(some acc,[]):=by
 have h1:=h.le;refine⟨by omega,?_⟩;rw[h.eq,List.drop_eq_nil_of_le (by omega),cD0,if_pos rfl]
theorem RsSt.no (h:RsSt ls X acc p)(hp:p<ls.length)(hn:(rdR (ls.drop p)).1=none):X=(none,(rdR (ls.drop p)).2):=by
 rw[h.eq,cD0,if_neg (by simp_all)];grind
def cN4 (l:List Pr)(r:Pr):Bool:=(l.map Pr.a).contains r.a||(!eK r.a||(!(aW0 r.b).isSome||(!(aW0 r.c).isSome||(!inB r.g 0 vG||!dN r.t))))
structure RlSt (l:List Pr)(i:Nat):Prop where
 le:i≤l.length
 all:(l.take i).all rZ=true
 apart:mN (l.take i)=true
theorem RlSt.zero (l:List Pr):RlSt l 0:=⟨by omega,by simp,by simp[mN]⟩
theorem cF7 (l:List Pr)(r:Pr):cN4 l r=!(!(l.map Pr.a).contains r.a&&rZ r):=by simp_all[cN4,rZ,Pr.a,eK,aW0,inB,vG,dN]
theorem RlSt.succ {l:List Pr}(h:RlSt l i)(hi:i<l.length)(hb:cN4 (l.take i) l[i]=false):RlSt l (i+1):=by
 rw[cF7]at hb;simp only[Bool.not_eq_false',Bool.and_eq_true]at hb;refine⟨hi,?_,?_⟩
 · rw[List.take_succ_eq_append_getElem hi,List.all_append,h.all,List.all_cons,hb.2];rfl
 · rw[List.take_succ_eq_append_getElem hi,uW,h.apart,hb.1];rfl
structure PoSz (p:Po):Prop where
 n:p.n.length<2^63
 r:p.r.length<2^40
 a: ∀r∈p.r,r.a.length<2^63
 t: ∀r∈p.r,∀n∈r.t,n.q.t.length<2^63
theorem cF8 (h:Made 3 0 t):t.length≤40:=by
 have key: ∀p∈pos 3 0,p.1≤40:=by decide+kernel
 exact key _ h.pos
def rN (n:Nat):aL:=[114,UInt8.ofNat (48+n)]
structure MadeR (r:Pr):Prop where
 ok:rZ r=true
 b:r.b.length≤80
 c:r.c.length≤80
 t:r.t.length≤40
structure MadeRs (n:Nat)(rs:List Pr):Prop where
 two:n+rs.length≤2
 one:1≤n+rs.length
 ok: ∀r∈rs,MadeR r
 nm: ∀r∈rs,∃j,n<j∧j≤2∧r.a=rN j
 ap:mN rs=true
theorem MadeRs.zero (h1:1≤n)(h2:n≤2):MadeRs n []:=⟨by grind,by grind,by simp,by simp,rfl⟩
variable {rs:List Pr}
theorem MadeRs.next (h:MadeRs (n+1) rs){r:Pr}(hr:MadeR r)(ha:r.a=rN (n+1)):MadeRs n (rs++[r]):=by
 have h1:=h.two;refine⟨by grind,by grind,fun x hx=>?_,fun x hx=>?_,?_⟩
 ·
  rcases List.mem_append.1 hx with hx|hx
  · exact h.ok x hx
  grind
 ·
  rcases List.mem_append.1 hx with hx|hx
  · obtain⟨j,h2,h3,h4⟩:=h.nm x hx;grind
  grind
 ·
  rw[uW,h.ap,Bool.true_and,Bool.not_eq_true',←Bool.not_eq_true,List.contains_iff_mem];intro hm;obtain⟨x,hx,he⟩:=List.mem_map.1 hm;obtain⟨j,h2,h3,h4⟩:=h.nm x hx;rw[h4,ha]at he;have hj:j=2:=by omega
  have hn:n=0:=by omega
  subst hj hn
  revert he
  decide
theorem MadeRs.fin (h:MadeRs 0 rs){v:Int}(h1:1≤v)(h2:v≤1099511627776):bW6 ⟨[112],v,rs⟩:=by
 have h3:=h.two;have k:eK [112]=true:=by decide
 refine⟨?_,by grind,fun r hr=>⟨(h.ok r hr).b,(h.ok r hr).c,(h.ok r hr).t⟩⟩;have k1:inB v 1 vG=true:=by rw[rX,aI1];exact⟨h1,h2⟩
 have k2:decide (rs.length≤16)=true:=by simp;omega
 have k3:rs.all rZ=true:=List.all_eq_true.2 fun r hr=>(h.ok r hr).ok;simp only[bT8,k,k1,k2,k3,h.ap,Bool.and_self]
theorem bW8 (h:eF q=true):q.t.length≤64:=by
 have hn:eK q.t=true→q.t.length≤64:=fun h=>(yI h).2;have h0:q.t=[]→q.t.length≤64:=fun h=>by grind
 unfold eF at h;grind
theorem bL6 {n:Nd}(h:cW n=true):n.q.t.length≤64:=by
 have h0:n.q=rq0→n.q.t.length≤64:=fun h=>by rw[h];decide
 have h1:eF n.q=true→n.q.t.length≤64:=bW8;unfold cW at h
 repeat' split at h
 all_goals simp_all[Bool.and_eq_true,bP5,beq_iff_eq]
theorem aE0 (h:IsTree t): ∀n∈t,n.q.t.length<2^63:=fun n hn=>by have:=bL6 (h.node n hn);omega
theorem cF9 {p:Po}(h:bT8 p=true):PoSz p:=by
 obtain⟨_,h2,h3,h4⟩:=cF3 h;refine⟨by grind[yI],by omega,fun r hr=>?_,fun r hr=>aE0 (aQ1 (h4 r hr)).2.1⟩;have:=(yI (aQ1 (h4 r hr)).2.2.1).2;omega
theorem MadeRs.sz (h:MadeRs 0 rs)(v:Int):PoSz ⟨[112],v,rs⟩:=by
 have:=cF9 (h.fin (v:=1) (by omega) (by omega)).1;exact⟨this.n,this.r,this.a,this.t⟩
theorem bD0 {l:List Nd}(ht:IsTree l)(S:List Sp){P:Ln→Prop}(h1: ∀i,i<l.length→P (jE l S i))(h2: ∀(i:Nat) f,i<l.length→P ⟨eA (l.getD i nd0),i,[],f⟩): ∀(f i:Nat) (out:List Ln),i<l.length→l.length-i≤f→(∀x∈out,P x)→ ∀x∈prv l S f i out,P x
 |0,i,out,hi,hf,_=>by omega
 |f+1,i,out,hi,hf,ho=>by
  intro x hx;rcases Decidable.em ((l.getD i nd0).k=1)with h|h
  ·
   rw[jX h]at hx;rcases List.mem_append.1 hx with hx|hx
   · exact ho x hx
   · rw[List.mem_singleton.1 hx];exact h1 i hi
  ·
   have key: ∀j,j≤l[i].c.toNat→ ∀x∈(gS l S f i j out).1,P x:=by
    intro j;induction j with
    |zero=>intro _;exact ho
    |succ j ih=>
     intro hj;have h3:=gK ht hi (k:=j) (by omega);have h6:=(fU ht hi j (by omega)).2.2;rw[eH,mW];split
     · exact bD0 ht S h1 h2 f _ _ h3 (by omega) (ih (by omega))
     · exact ih (by omega)
   rw[lQ h]at hx;rcases List.mem_append.1 hx with hx|hx
   · rw[rL hi]at hx;exact key _ (Nat.le_refl _) x hx
   · rw[List.mem_singleton.1 hx];exact h2 i _ hi
theorem bW9 (n:Nd):2≤eA n∧eA n≤4:=by unfold eA;grind
theorem bD1 (h:eD l (cG S)=true):IsTree l:=eM (by unfold eD at h;simp only[Bool.and_eq_true]at h;exact h.1)
theorem tW (h:eD l (cG S)=false):eG l S=[]:=by unfold eG;rw[if_neg (by simp[h])]
theorem yJ :(eG l S).length≤l.length+1:=by
 cases h:eD l (cG S)with
 |false=>rw[tW h];simp
 |true=>
  have ht:=bD1 h;have h1:=(vO ht S l.length 0 [] ht.ne).2;have h2:=(eZ ht ht.ne).2.1;unfold eG;rw[if_pos h];unfold nS;simp only[List.length_append,List.length_cons,List.length_nil]at h1⊢;omega
theorem aX4 (hc: ∀x∈S,x.d.length≤c): ∀x∈eG l S,0≤x.n∧x.n≤l.length∧x.d.length≤c∧1≤x.k∧x.k≤5∧(x.k=1∧x.f=[]∨x.k≠1∧x.d=[]):=by
 cases h:eD l (cG S)with
 |false=>rw[tW h];simp
 |true=>
  have ht:=bD1 h;intro x hx;unfold eG at hx;rw[if_pos h]at hx;rcases List.mem_append.1 hx with hx|hx
  ·
   refine bD0 ht S (P:=fun x=>0≤x.n∧x.n≤l.length∧x.d.length≤c∧1≤x.k∧x.k≤5∧(x.k=1∧x.f=[]∨x.k≠1∧x.d=[])) (fun i hi=>?_) (fun i f hi=>?_) l.length 0 [] ht.ne (by omega) (by simp) x hx
   ·
    refine⟨by simp[jE],by simp[jE];omega,?_,by simp[jE],by simp[jE],.inl ⟨rfl,rfl⟩⟩;show(S.getD _ sp0).d.length≤c;rcases Nat.lt_or_ge (lv (l.take i)) S.length with hlt|hge
    · rw[List.getD_eq_getElem?_getD,List.getElem?_eq_getElem hlt];exact hc _ (List.getElem_mem hlt)
    · rw[List.getD_eq_getElem?_getD,List.getElem?_eq_none hge];exact Nat.zero_le _
   · have hk:=bW9 (l.getD i nd0);refine⟨by simp,by simp;omega,by simp,by simp only;omega,by simp only;omega,.inr ⟨by simp only;omega,rfl⟩⟩
  · rw[List.mem_singleton.1 hx];exact⟨by simp,by simp,by simp,by simp,by simp,.inr ⟨by simp,rfl⟩⟩
theorem docsL_le {c:Nat}: ∀{X:List Ln},(∀x∈X,x.d.length≤c)→(fP X).length≤c*X.length
 |[],_=>by simp[fP]
 |x::X,h=>by
  have h1:=docsL_le (c:=c) (X:=X) fun y hy=>h y (List.mem_cons_of_mem _ hy);have h2:=h x List.mem_cons_self;have e:fP (x::X)=x.d++fP X:=by simp[fP]
  rw[e,List.length_append,List.length_cons,Nat.mul_add];omega
abbrev R40 (n:Int):Prop:=0≤n∧n≤1099511627776
structure LnR (x:Ln):Prop where
 k:1≤x.k∧x.k≤5
 n:R40 x.n
 f: ∀n∈x.f,R40 n
 fl:x.f.length≤120
theorem bD2 : ∀{l:List aL} {ns:List Int},eX l=some ns→ns.length=l.length∧ ∀n∈ns,R40 n
 |[],ns,h=>by
  obtain rfl:=Option.some.inj (show some ([]:List Int)=some ns from h);simp
 |w::l,ns,h=>by
  unfold eX at h;rw[List.mapM_cons]at h;cases hw:dJ w with
  |none=>rw[hw]at h;cases h
  |some n=>
   cases hl:l.mapM dJ with
   |none=>rw[hw,hl]at h;cases h
   |some m=>
    rw[hw,hl]at h;obtain rfl:=Option.some.inj (show some (n::m)=some ns from h);have ih:=bD2 (l:=l) (ns:=m) hl;refine⟨by simp[ih.1],fun x hx=>?_⟩;rcases List.mem_cons.1 hx with rfl|hx
    · exact⟨(iP hw).1,by have:=(iP hw).2;omega⟩
    · exact ih.2 x hx
variable {w:List aL}
theorem cG0 (hw:w.length≤120)(h:fD w=some x):LnR x:=by
 unfold fD at h;split at h
 ·
  rename_i n f hs;have hr:=bD2 hs;cases hk:lV (wd w 0)with
  |none=>rw[hk]at h;cases h
  |some k=>
   rw[hk]at h;simp only[Option.bind_some]at h;split at h
   · cases h
   · obtain rfl:=Option.some.inj h;have hk2:=xU.1 hk;refine⟨⟨hk2.1,hk2.2.1⟩,hr.2 n (by simp),fun m hm=>hr.2 m (by simp[hm]),?_⟩;have h1:=hr.1;simp only[List.length_cons,List.length_drop]at h1⊢;omega
 · cases h
theorem cG1 {ls l:List Ln}(hw:w.length≤120)(h:eN ls w=some l)(hl: ∀x∈ls,LnR x): ∀x∈l,LnR x:=by
 unfold eN at h;split at h
 ·
  unfold bJ6 at h;cases hx:ls.getLast? with
  |none=>rw[hx]at h;cases h
  |some x=>
   rw[hx]at h;have hm:=List.mem_of_getLast? hx;dsimp only at h;split at h
   ·
    cases hd:gH (wd w 1)with
    |none=>rw[hd]at h;cases h
    |some d=>
     rw[hd]at h;obtain rfl:=Option.some.inj h;intro y hy;rcases List.mem_append.1 hy with hy|hy
     · exact hl y (List.dropLast_subset _ hy)
     · rw[List.mem_singleton.1 hy];have:=hl x hm;exact⟨this.k,this.n,this.f,this.fl⟩
   · cases h
 ·
  cases hx:fD w with
  |none=>rw[hx]at h;cases h
  |some x=>
   rw[hx]at h;obtain rfl:=Option.some.inj h;intro y hy;rcases List.mem_append.1 hy with hy|hy
   · exact hl y hy
   · rw[List.mem_singleton.1 hy];exact cG0 hw hx
theorem bD3 {ws:List (List aL)}(hw: ∀w∈ws,w.length≤120): ∀{i:Nat} {l:List Ln},i≤ws.length→iG (ws.take i)=some l→ ∀x∈l,LnR x
 |0,l,_,h=>by
  rw[List.take_zero,aD3]at h;obtain rfl:=Option.some.inj h;simp
 |i+1,l,hi,h=>by
  cases hp:iG (ws.take i)with
  |none=>
   have e:ws.take (i+1)=ws.take i++[ws[i]]:=List.take_succ_eq_append_getElem (by omega);rw[e,oS,hp]at h;cases h
  |some m=>
   have hm:=bD3 hw (i:=i) (by omega) hp;rw[kD (by omega) hp]at h;exact cG1 (hw _ (List.getElem_mem _)) h hm
structure DvR (d:Dv):Prop where
 t:R40 d.t
 r:R40 d.r
 l: ∀x∈d.l,LnR x∧x.d.length≤1000
 ll:d.l.length≤1000
theorem cG2 (hw: ∀l∈ls,wOk l)(hn:ls.length≤1000)(h:gM ls=some d):DvR d:=by
 rw[qJ]at h;cases hh:gW ls with
 |none=>rw[hh]at h;cases h
 |some e=>
  rw[hh]at h;simp only[Option.bind_some]at h;cases hf:iG (ls.drop 2)with
  |none=>rw[hf]at h;cases h
  |some l=>
   rw[hf]at h;obtain rfl:=Option.some.inj h;have hl:(ls.drop 2).length≤1000:=by rw[List.length_drop];omega
   have hf':iG ((ls.drop 2).take (ls.drop 2).length)=some l:=by rw[List.take_length];exact hf
   have h1:=tV (Nat.le_refl _) hf';have h2:=bD3 (fun w h=>(hw w (List.drop_subset _ _ h)).2.1) (Nat.le_refl _) hf';unfold gW at hh;split at hh
   · cases hh
   ·
    split at hh
    · rename_i a p v t r _ _ _ ht hr;obtain rfl:=Option.some.inj hh;exact⟨⟨(iP ht).1,by have:=(iP ht).2;omega⟩,⟨(iP hr).1,by have:=(iP hr).2;omega⟩,fun x hx=>⟨h2 x hx,by have:=h1.2 x hx;omega⟩,by show l.length≤1000;omega⟩
    · cases hh
theorem DvR.len (h:DvR d):(jC d).length≤2000000:=by
 have h1:=docsL_le (X:=d.l) (c:=1000) fun x hx=>(h.l x hx).2;have h2:=h.ll;have h3:=bL3 d.l;rw[jC,List.length_append,h3];have:(mU d).length=2:=rfl;omega
end Go.Pl
