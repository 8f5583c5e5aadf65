/- DerivationNeeded: for any tape of numbers the law returns true and leaves it as it was: of the lines that Prove gives for a made tree each but the last one is referred to by exactly one cQ4 line, and no node has two. The listed tables of the library are tied to the program's text by the card. By an AI agent. -/
import Derived.Test.YthedbjfipmkpiaaGreatDoorPl28u
import Derived.Test.YthedbjfipmkpiaaGreatDoorHdSb
import Derived.Test.YthedbjfipmkpiaaGreatDoorHdX8
import Derived.Test.YthedbjfipmkpiaaGreatDoorHdTl
import Derived.Test.YthedbjfipmkpiaaGreatDoorHdUl
import Derived.Test.YthedbjfipmkpiaaGreatDoorHdW3
import Derived.Lay
import Derived.SevenTiedAt
import Derived.Test.YthedbjfipmkpiaaGreatDoorRows
import Derived.Test.YthedbjfipmkpiaaGreatDoorCards
import Derived.Test.YthedbjfipmkpiaaGreatDoorTie
set_option linter.unusedSimpArgs false
set_option linter.unusedVariables false
set_option linter.defProp false
namespace Go.Proofs.YthedbjfipmkpiaaGreatDoor
open Go Go.Hl Go.Pl
set_option maxRecDepth 10000
set_option maxHeartbeats 8000000
theorem cV (l:List Bool):CV.denilL (l.map bC)=l.map bC:=bX (fun _=>rfl) l
theorem bW0 {X:List Ln}(h:NeedsV X){i:Nat}(hi:i<X.length){g:List Int}(hg:g.length≤X[i].f.length){p:Nat}(hp:p<X.length):0≤(eK (X.take i) X.length g)[p]'(by rw[gU];exact hp)∧(eK (X.take i) X.length g)[p]'(by rw[gU];exact hp)≤2*X.length:=by
 rw[lO _ _ _ _ hp];have h1:=List.count_le_length (a:=(p:Int)) (l:=gM (X.take i)++g);have h2:(gM X).length=(gM (X.take i)).length+(gM (X.drop i)).length:=by
  rw[←List.length_append,←eR,List.take_append_drop]
 have h3:=bA1 (List.getElem_mem hi);have h4:=h.size;rw[List.length_append]at h1;omega
theorem aV5 (L:List Int):nC Tryz.prog 4 tabs [.slc (L.map (.int .i64))] (fun v=>v= .bool true):=by
 refine bB (args:=[.c (.slc (L.map (.int .i64)))]) Tryz.func4 rfl (by kernel_rfl) (fS tabs [.slc (L.map (.int .i64))]) (Nat.le_of_ble_eq_true rfl) ?_;unfold fN;refine aE fun K hK=>aD (by kernel_rfl) ?_;simp (maxSteps:=4000000) only[↓sP,sA,tyS,simprocAttr];repeat refine AI ?_
 refine hK _ _ _ ?_;clear hK K;refine aE fun K hK=>aD (by kernel_rfl) ?_;simp only[sR,simprocAttr];refine aC (g:=none) rfl rfl fun K' hK'=>?_;simp (maxSteps:=4000000) only[sH,↓sP,sA,tyS,simprocAttr,denilL_int];repeat refine AI ?_
 refine hK' _ _ ?_;clear hK' K';refine aC (g:=none) rfl rfl fun K' hK'=>?_;simp (maxSteps:=4000000) only[sH,↓sP,sA,tyS,simprocAttr,denilL_int];refine fE [] (cD6 L 200) rfl trivial (by simp) (by simp) ⟨rfl,rfl,rfl,rfl⟩ (by simp[dU]) (by simp[HV.menL,HV.men]) ?_;rintro r os' ⟨rfl,rfl⟩;rw[bV7,bJ6];repeat refine AI ?_
 refine hK' _ _ ?_;clear hK' K';refine aC (g:=none) rfl rfl fun K' hK'=>?_;simp (maxSteps:=4000000) only[sH,↓sP,sA,tyS,simprocAttr,denilL_int];repeat refine AI ?_
 refine hK' _ _ ?_;clear hK' K';simp only[sE,↓reduceIte,simprocAttr];repeat refine AI ?_
 refine hK _ _ _ ?_;clear hK K;refine aE fun K hK=>aD (by kernel_rfl) ?_;simp only[sR,simprocAttr];refine aC (g:=none) rfl rfl fun K' hK'=>?_;simp (maxSteps:=4000000) only[sH,↓sP,sA,tyS,simprocAttr];repeat refine AI ?_
 refine hK' _ _ ?_;clear hK' K';refine aC (g:=none) rfl rfl fun K' hK'=>?_;simp (maxSteps:=4000000) only[sH,↓sP,sA,tyS,simprocAttr];refine cK (args:=[]) (bJ8 (L.take 200) 0 (by omega)) rfl (by simp) ⟨rfl,rfl,rfl,rfl⟩ ?_;rintro u v' ⟨T,a',rfl,rfl,hT,ha'⟩;have hI:=cB4 hT;have hN:=aA9 hI;have h40:=cB8 hT;have hlv:(dC T).length≤16:=by rw[jX (aN4 hI),fR];exact hI.lv
 repeat refine AI ?_
 refine hK' _ _ ?_;clear hK' K';refine aC (g:=none) rfl rfl fun K' hK'=>?_;simp (maxSteps:=4000000) only[sH,↓sP,sA,tyS,simprocAttr];repeat refine AI ?_
 refine hK' _ _ ?_;clear hK' K';simp only[sE,↓reduceIte,simprocAttr];repeat refine AI ?_
 refine hK _ _ _ ?_;clear hK K;refine aE fun K hK=>aD (by kernel_rfl) ?_;simp only[sR,simprocAttr];iterate 2
  (refine aC (g:=none) rfl rfl fun K' hK'=>?_;simp only[sH,↓sP,sA,tyS,simprocAttr,denilL_Nd];(repeat refine AI ?_);refine hK' _ _ ?_;clear hK' K')
 refine aC (g:=none) rfl rfl fun K' hK'=>?_;simp (maxSteps:=4000000) only[sH,↓sP,sA,tyS,simprocAttr,denilL_Nd];refine cK (args:=[_,_]) (aP4 (L.take 200) a' T hN hlv 4 (by omega) (by omega)) rfl (by simp) ⟨rfl,rfl,rfl,rfl⟩ ?_;rintro u v' ⟨S,a2,rfl,rfl,hS,hd,ha2⟩;repeat refine AI ?_
 refine hK' _ _ ?_;clear hK' K';refine aC (g:=none) rfl rfl fun K' hK'=>?_;simp (maxSteps:=4000000) only[sH,↓sP,sA,tyS,simprocAttr,denilL_Nd];repeat refine AI ?_
 refine hK' _ _ ?_;clear hK' K';simp only[sE,↓reduceIte,simprocAttr];repeat refine AI ?_
 refine hK _ _ _ ?_;clear hK K;refine aE fun K hK=>aD (by kernel_rfl) ?_;simp only[sR,simprocAttr];iterate 2
  (refine aC (g:=none) rfl rfl fun K' hK'=>?_;simp only[sH,↓sP,sA,tyS,simprocAttr,denilL_Nd,denilL_Sp];(repeat refine AI ?_);refine hK' _ _ ?_;clear hK' K')
 refine aC (g:=none) rfl rfl fun K' hK'=>?_;simp (maxSteps:=4000000) only[sH,↓sP,sA,tyS,simprocAttr,denilL_Nd,denilL_Sp];refine cR (args:=[_,_]) (aO5 T hN S (by omega) (fun x hx=>by have:=hd x hx;omega)) ⟨rfl,rfl,rfl,rfl⟩ ?_;rintro u v ⟨rfl,rfl⟩;repeat refine AI ?_
 refine hK' _ _ ?_;clear hK' K';iterate 5
  (refine aC (g:=none) rfl rfl fun K' hK'=>?_;simp only[sH,↓sP,sA,tyS,simprocAttr,denilL_Nd,denilL_Sp];(repeat refine AI ?_);refine hK' _ _ ?_;clear hK' K')
 simp only[sE,↓reduceIte,simprocAttr];repeat refine AI ?_
 refine hK _ _ _ ?_;clear hK K;refine aE fun K hK=>?_;refine aE fun K hK=>aD (by kernel_rfl) ?_;simp only[sR,simprocAttr];iterate 3
  (refine aC (g:=none) rfl rfl fun K' hK'=>?_;simp only[sH,↓sP,sA,tyS,simprocAttr,denilL_Nd,denilL_Sp,cV,bne_self_eq_false];(repeat refine AI ?_);refine hK' _ _ ?_;clear hK' K')
 refine aC (g:=none) rfl rfl fun K' hK'=>?_;simp (maxSteps:=4000000) only[sH,↓sP,sA,tyS,simprocAttr,denilL_Nd,denilL_Sp,cV,bne_self_eq_false];refine bD (args:=[_]) (xM S (by omega)) ⟨rfl,rfl,rfl,rfl⟩ ?_;rintro u rfl;repeat refine AI ?_
 refine hK' _ _ ?_;clear hK' K';refine aC (g:=none) rfl rfl fun K' hK'=>?_;simp (maxSteps:=4000000) only[sH,↓sP,sA,tyS,simprocAttr,denilL_Nd,denilL_Sp,cV,bne_self_eq_false];refine bD (args:=[_,_]) (aF5 T hN (cU S) (by simp[cU];omega)) ⟨rfl,rfl,rfl,rfl⟩ ?_;rintro u rfl;repeat refine AI ?_
 refine hK' _ _ ?_;clear hK' K';iterate 2
  (refine aC (g:=none) rfl rfl fun K' hK'=>?_;simp only[sH,↓sP,sA,tyS,simprocAttr,denilL_Nd,denilL_Sp,cV,bne_self_eq_false];(repeat refine AI ?_);refine hK' _ _ ?_;clear hK' K')
 iterate 2
  (refine aC (g:=some (33,false)) rfl rfl fun K' hK'=>?_;simp only[sH,↓sP,sA,tyS,simprocAttr,denilL_Nd,denilL_Sp,cV,bne_self_eq_false];(repeat refine AI ?_);refine hK' _ _ ?_;clear hK' K')
 refine aC (g:=none) rfl rfl fun K' hK'=>?_;simp (maxSteps:=4000000) only[sH,↓sP,sA,tyS,simprocAttr,denilL_Nd,denilL_Sp,cV,bne_self_eq_false];repeat refine AI ?_
 refine hK' _ _ ?_;clear hK' K';simp only[sE,↓reduceIte,simprocAttr];repeat refine AI ?_
 refine hK _ _ _ ?_;clear hK K;refine aG (b:=!(fX T (cU S))) rfl (fun hb=>?_) (fun hb=>?_)
 ·
  have hv:fX T (cU S)=false:=by simpa using hb
  rw[aB0 hv];clear hb;refine aE fun K hK=>aD (by kernel_rfl) ?_;simp only[sR,simprocAttr];iterate 3
   (refine aC (g:=none) rfl rfl fun K' hK'=>?_;simp only[sH,↓sP,sA,tyS,simprocAttr,denilL_Nd,denilL_Sp,cV,beq_self_eq_true,List.map_nil,List.length_nil,(show(((0:Nat):Int)==0)=true from rfl)];(repeat refine AI ?_);refine hK' _ _ ?_;clear hK' K')
  refine aC (g:=none) rfl rfl fun K' hK'=>?_;simp (maxSteps:=4000000) only[sH,↓sP,sA,tyS,simprocAttr,denilL_Nd,denilL_Sp,cV,beq_self_eq_true,List.map_nil,List.length_nil,(show(((0:Nat):Int)==0)=true from rfl)];refine bD (args:=[_]) (xM S (by omega)) ⟨rfl,rfl,rfl,rfl⟩ ?_;rintro u rfl;repeat refine AI ?_
  refine hK' _ _ ?_;clear hK' K';refine aC (g:=none) rfl rfl fun K' hK'=>?_;simp (maxSteps:=4000000) only[sH,↓sP,sA,tyS,simprocAttr,denilL_Nd,denilL_Sp,cV,beq_self_eq_true,List.map_nil,List.length_nil,(show(((0:Nat):Int)==0)=true from rfl)];refine bD (args:=[_,_]) (aF5 T hN (cU S) (by simp[cU];omega)) ⟨rfl,rfl,rfl,rfl⟩ ?_;rintro u rfl;repeat refine AI ?_
  refine hK' _ _ ?_;clear hK' K';iterate 2
   (refine aC (g:=none) rfl rfl fun K' hK'=>?_;simp only[sH,↓sP,sA,tyS,simprocAttr,denilL_Nd,denilL_Sp,cV,beq_self_eq_true,List.map_nil,List.length_nil,(show(((0:Nat):Int)==0)=true from rfl)];(repeat refine AI ?_);refine hK' _ _ ?_;clear hK' K')
  iterate 3
   (refine aC (g:=some (43,true)) rfl rfl fun K' hK'=>?_;simp only[sH,↓sP,sA,tyS,simprocAttr,denilL_Nd,denilL_Sp,cV,beq_self_eq_true,List.map_nil,List.length_nil,(show(((0:Nat):Int)==0)=true from rfl)];(repeat refine AI ?_);refine hK' _ _ ?_;clear hK' K')
  iterate 2
   (refine aC (g:=none) rfl rfl fun K' hK'=>?_;simp only[sH,↓sP,sA,tyS,simprocAttr,denilL_Nd,denilL_Sp,cV,beq_self_eq_true,List.map_nil,List.length_nil,(show(((0:Nat):Int)==0)=true from rfl)];(repeat refine AI ?_);refine hK' _ _ ?_;clear hK' K')
  refine aC (g:=some (48,true)) rfl rfl fun K' hK'=>?_;simp (maxSteps:=4000000) only[sH,↓sP,sA,tyS,simprocAttr,denilL_Nd,denilL_Sp,cV,beq_self_eq_true,List.map_nil,List.length_nil,(show(((0:Nat):Int)==0)=true from rfl)];refine jQ (args:=[]) 0 aP0 rfl (by simp) ⟨rfl,rfl,rfl,rfl⟩ ?_;rintro u rfl;repeat refine AI ?_
  refine hK' _ _ ?_;clear hK' K';iterate 2
   (refine aC (g:=none) rfl rfl fun K' hK'=>?_;simp only[sH,↓sP,sA,tyS,simprocAttr,denilL_Nd,denilL_Sp,cV,beq_self_eq_true,List.map_nil,List.length_nil,(show(((0:Nat):Int)==0)=true from rfl)];(repeat refine AI ?_);refine hK' _ _ ?_;clear hK' K')
  simp only[sE,↓reduceIte,simprocAttr];repeat refine AI ?_
  refine hK _ _ _ ?_;clear hK K;refine aJ ?_;simp (maxSteps:=4000000) only[aV,Tryz.results4,aR,aT,aQ,↓sP,sA,tyS,simprocAttr];exact lX [] (.bool true) rfl rfl (by simp) rfl
 refine aK ?_;simp (maxSteps:=4000000) only[↓sP,sA,tyS,simprocAttr];repeat refine AI ?_
 refine hK _ _ _ ?_;clear hK K;have hv:fX T (cU S)=true:=by simpa using hb
 have hlen:=aU0 (l:=T) (S:=S);have hX:=aF1 hv;obtain⟨X,hXe⟩: ∃X,X=gW T S:=⟨_,rfl⟩;rw[←hXe]at hlen hX;rw[←hXe];have hz:((X.length:Int)=0)=False:=by have:=hX.pos;simp;intro h;rw[h]at this;simp at this
 clear hb hXe hv;refine aE fun K hK=>aD (by kernel_rfl) ?_;simp only[sR,simprocAttr];iterate 4
  (refine aC (g:=none) rfl rfl fun K' hK'=>?_;simp only[sH,↓sP,sA,tyS,simprocAttr,List.length_map,hz,Int.toNat_natCast];(repeat refine AI ?_);refine hK' _ _ ?_;clear hK' K')
 simp only[sE,↓reduceIte,simprocAttr];repeat refine AI ?_
 refine hK _ _ _ ?_;clear hK K;refine aE fun K hK=>?_;refine aE fun K hK=>aD (by kernel_rfl) ?_;simp (maxSteps:=4000000) only[↓sP,sA,tyS,simprocAttr];repeat refine AI ?_
 refine hK _ _ _ ?_;clear hK K;refine aP ?_;have hu0:List.replicate X.length (CV.int .i64 0)=(eK (X.take 0) X.length []).map (CV.int .i64):=by rw[List.take_zero,aV2,List.map_replicate]
 rw[hu0];refine bT (α:={i:Nat//i≤X.length}) (fun i=>(fin [(6,.c (.slc (X.map Ln.cv))),(8,.own 125 X.length),(9,.c (.int .i64 i.1))],fob [(0,.tab tabs),(125,.row 3 1 ((eK (X.take i.1) X.length []).map (CV.int .i64)))])) 200 (fun i=>X.length-i.1) ⟨0,by omega⟩ (aI (by omega) (by simp[aY,fin_at,finA_at,upd_at,HV.men,HV.menL,HV.norm,HV.toC,HV.toCL]) (by simp[bA,fob_at,upd_at,none0_at,bO,HO.men,HV.men,HV.menL,HV.norm,HV.toC,HV.toCL])) ?_;clear hu0;rintro⟨i,hi⟩;simp only at hi⊢;refine aE fun K hK=>?_;refine aE fun K hK=>aD (by kernel_rfl) ?_;simp only[sR,simprocAttr];iterate 4
  (refine aC (g:=none) rfl rfl fun K' hK'=>?_;simp only[sH,↓sP,sA,tyS,simprocAttr,List.length_map];(repeat refine AI ?_);refine hK' _ _ ?_;clear hK' K')
 simp only[sE,↓reduceIte,simprocAttr];repeat refine AI ?_
 refine hK _ _ _ ?_;clear hK K;refine aG (b:=decide ((i:Int)<X.length)) rfl (fun hb=>?_) (fun hb=>?_)
 ·
  have hlt:i<X.length:=by have:=of_decide_eq_true hb;omega
  have hfl:X[i].f.length<X.length:=by
   have h1:=bA1 (List.getElem_mem hlt);have h2:=hX.size;omega
  clear hb;refine aK ?_;simp (maxSteps:=4000000) only[↓sP,sA,tyS,simprocAttr];repeat refine AI ?_
  refine hK _ _ _ ?_;clear hK K;refine aE fun K hK=>?_;refine aP ?_;refine aE fun K hK=>?_;refine aE fun K hK=>aD (by kernel_rfl) ?_;simp (maxSteps:=4000000) only[↓sP,sA,tyS,simprocAttr];repeat refine AI ?_
  refine hK _ _ _ ?_;clear hK K;refine aP ?_;have hu1:eK (X.take i) X.length []=eK (X.take i) X.length (X[i].f.take 0):=rfl;rw[hu1];refine bT (α:={j:Nat//j≤X[i].f.length}) (fun j=>(fin [(6,.c (.slc (X.map Ln.cv))),(8,.own 125 X.length),(9,.c (.int .i64 i)),(10,.c (.int .i64 j.1))],fob [(0,.tab tabs),(125,.row 3 1 ((eK (X.take i) X.length (X[i].f.take j.1)).map (CV.int .i64)))])) 400 (fun j=>X[i].f.length-j.1) ⟨0,by omega⟩ (aI (by omega) (by simp[aY,fin_at,finA_at,upd_at,HV.men,HV.menL,HV.norm,HV.toC,HV.toCL]) (by simp[bA,fob_at,upd_at,none0_at,bO,HO.men,HV.men,HV.menL,HV.norm,HV.toC,HV.toCL])) ?_;clear hu1;rintro⟨j,hj⟩;simp only at hj⊢;refine aE fun K hK=>?_;refine aE fun K hK=>aD (by kernel_rfl) ?_;simp only[sR,simprocAttr];iterate 8
   (refine aC (g:=none) rfl rfl fun K' hK'=>?_;simp only[sH,↓sP,sA,tyS,simprocAttr,Int.natCast_nonneg,Int.ofNat_lt,hlt,aZ hlt,List.length_map];(repeat refine AI ?_);refine hK' _ _ ?_;clear hK' K')
  simp only[sE,↓reduceIte,simprocAttr];repeat refine AI ?_
  refine hK _ _ _ ?_;clear hK K;refine aG (b:=decide (j<X[i].f.length)) rfl (fun hb=>?_) (fun hb=>?_)
  ·
   have hlj:j<X[i].f.length:=by have:=of_decide_eq_true hb;omega
   clear hb;refine aK ?_;simp (maxSteps:=4000000) only[↓sP,sA,tyS,simprocAttr];repeat refine AI ?_
   refine hK _ _ _ ?_;clear hK K;refine aE fun K hK=>?_;refine aP ?_;refine aE fun K hK=>aD (by kernel_rfl) ?_;simp only[sR,simprocAttr];iterate 9
    (refine aC (g:=none) rfl rfl fun K' hK'=>?_;simp only[sH,↓sP,sA,tyS,simprocAttr,Int.natCast_nonneg,Int.ofNat_lt,hlt,aZ hlt,List.length_map,hlj,aZ hlj];(repeat refine AI ?_);refine hK' _ _ ?_;clear hK' K')
   simp only[sE,↓reduceIte,simprocAttr];repeat refine AI ?_
   refine hK _ _ _ ?_;clear hK K;have hbk:=hX.back i hlt X[i].f[j] (List.getElem_mem hlj);obtain⟨p,hp⟩: ∃p:Nat,X[i].f[j]=(p:Int):=⟨X[i].f[j].toNat,by omega⟩;rw[hp];rw[hp]at hbk;have hpl:p<X.length:=by omega
   have hcn:=bW0 hX hlt (g:=X[i].f.take j) (by rw[List.length_take];omega) hpl;have hut:=aV3 (X.take i) X.length (X[i].f.take j) p hpl;obtain⟨U,hU⟩: ∃U,U=eK (X.take i) X.length (X[i].f.take j):=⟨_,rfl⟩;have hUl:U.length=X.length:=by rw[hU,gU]
   have hpu:p<U.length:=by omega
   have hcn1:0≤U[p]∧U[p]≤2*X.length:=by simp only[hU];exact hcn
   have hut1:eK (X.take i) X.length (X[i].f.take j++[(p:Int)])=U.set p (U[p]+1):=by simp only[hU];exact hut
   rw[←hU];clear hcn hut hU;refine aE fun K hK=>aD (by kernel_rfl) ?_;simp only[sR,simprocAttr];iterate 3
    (refine aC (g:=none) rfl rfl fun K' hK'=>?_;simp only[sH,↓sP,sA,tyS,simprocAttr,(show decide ((p:Int)<0)=false from decide_eq_false (by omega)),(show decide ((i:Int)≤(p:Int))=false from decide_eq_false (by omega))];(repeat refine AI ?_);refine hK' _ _ ?_;clear hK' K')
   iterate 3
    (refine aC (g:=some (80,false)) rfl rfl fun K' hK'=>?_;simp only[sH,↓sP,sA,tyS,simprocAttr,(show decide ((p:Int)<0)=false from decide_eq_false (by omega)),(show decide ((i:Int)≤(p:Int))=false from decide_eq_false (by omega))];(repeat refine AI ?_);refine hK' _ _ ?_;clear hK' K')
   refine aC (g:=none) rfl rfl fun K' hK'=>?_;simp (maxSteps:=4000000) only[sH,↓sP,sA,tyS,simprocAttr,(show decide ((p:Int)<0)=false from decide_eq_false (by omega)),(show decide ((i:Int)≤(p:Int))=false from decide_eq_false (by omega))];repeat refine AI ?_
   refine hK' _ _ ?_;clear hK' K';simp only[sE,↓reduceIte,simprocAttr];repeat refine AI ?_
   refine hK _ _ _ ?_;clear hK K;refine aG (b:=false) rfl (fun hb=>?_) (fun hb=>?_)
   · cases hb
   refine aD (by kernel_rfl) ?_;simp only[sR,simprocAttr];iterate 7
    (refine aC (g:=none) rfl rfl fun K' hK'=>?_;simp only[sH,↓sP,sA,tyS,simprocAttr,List.length_map,hUl,Int.natCast_nonneg,Int.ofNat_lt,hpl,Int.toNat_natCast,aZ hpu,IntWalk.i64_in _ (show-9223372036854775808≤U[p]+1∧U[p]+1≤9223372036854775807 by omega)];(repeat refine AI ?_);refine hK' _ _ ?_;clear hK' K')
   simp only[sE,↓reduceIte,simprocAttr];repeat refine AI ?_
   refine hK _ _ _ ?_;clear hK K;refine aD (by kernel_rfl) ?_;simp (maxSteps:=4000000) only[↓sP,sA,tyS,simprocAttr,(show IntKind.i64.wrap ((j:Int)+1)=((j+1:Nat):Int)from by rw[IntWalk.i64_in _ (by omega)];rfl)];refine⟨⟨j+1,hlj⟩,?_,?_⟩
   · simp only[List.take_succ_eq_append_getElem hlj,hp,hut1,List.map_set];exact aI (by omega) (by simp[aY,fin_at,finA_at,upd_at,HV.men,HV.menL,HV.norm,HV.toC,HV.toCL]) (by simp[bA,fob_at,upd_at,none0_at,bO,HO.men,HV.men,HV.menL,HV.norm,HV.toC,HV.toCL])
   show X[i].f.length-(j+1)<X[i].f.length-j;omega
  have hje:j=X[i].f.length:=by have:=of_decide_eq_false hb;omega
  subst hje;clear hb;rw[List.take_length,aV4 _ _ hlt];refine bL ?_;simp (maxSteps:=4000000) only[↓sP,sA,tyS,simprocAttr];clear hK K;repeat refine AI ?_
  refine hK _ _ _ ?_;clear hK K;refine aE fun K hK=>aD (by kernel_rfl) ?_;simp (maxSteps:=4000000) only[↓sP,sA,tyS,simprocAttr];repeat refine AI ?_
  refine hK _ _ _ ?_;clear hK K;refine aP ?_;refine bT (α:={k:Nat//k≤i}) (fun k=>(fin [(6,.c (.slc (X.map Ln.cv))),(8,.own 125 X.length),(9,.c (.int .i64 i)),(12,.c (.int .i64 k.1))],fob [(0,.tab tabs),(125,.row 3 1 ((eK (X.take (i+1)) X.length []).map (CV.int .i64)))])) 600 (fun k=>i-k.1) ⟨0,by omega⟩ (aI (by omega) (by simp[aY,fin_at,finA_at,upd_at,HV.men,HV.menL,HV.norm,HV.toC,HV.toCL]) (by simp[bA,fob_at,upd_at,none0_at,bO,HO.men,HV.men,HV.menL,HV.norm,HV.toC,HV.toCL])) ?_;rintro⟨k,hk⟩;simp only at hk⊢;refine aE fun K hK=>?_;refine aE fun K hK=>aD (by kernel_rfl) ?_;simp (maxSteps:=4000000) only[↓sP,sA,tyS,simprocAttr];repeat refine AI ?_
  refine hK _ _ _ ?_;clear hK K;refine aG (b:=decide ((k:Int)<i)) rfl (fun hb=>?_) (fun hb=>?_)
  ·
   have hlk:k<i:=by have:=of_decide_eq_true hb;omega
   have hlk2:k<X.length:=by omega
   have hdi:=fun h=>hX.dist i hlt h k hlk;clear hb;refine aK ?_;simp (maxSteps:=4000000) only[↓sP,sA,tyS,simprocAttr];repeat refine AI ?_
   refine hK _ _ _ ?_;clear hK K;refine aE fun K hK=>?_;refine aP ?_;by_cases hk5:X[i].k=5
   ·
    by_cases hke:X[k].n=X[i].n
    ·
     have f1:(X[k].n==X[i].n)=true:=by simp[hke]
     have f2:(X[i].k !=5)=false:=by simp[hk5]
     refine aE fun K hK=>eH mixed (by kernel_rfl) (by kernel_rfl) (by kernel_rfl) ?_;simp only[sR,simprocAttr];iterate 12
      (refine aC (g:=none) rfl rfl fun K' hK'=>?_;simp only[sH,↓sP,sA,tyS,simprocAttr,Int.natCast_nonneg,Int.ofNat_lt,hlt,hlk2,aZ hlt,aZ hlk2,List.length_map,f1,f2];(repeat refine AI ?_);refine hK' _ _ ?_;clear hK' K')
     iterate 6
      (refine aC (g:=some (107,true)) rfl rfl fun K' hK'=>?_;simp only[sH,↓sP,sA,tyS,simprocAttr,Int.natCast_nonneg,Int.ofNat_lt,hlt,hlk2,aZ hlt,aZ hlk2,List.length_map,f1,f2];(repeat refine AI ?_);refine hK' _ _ ?_;clear hK' K')
     refine aC (g:=none) rfl rfl fun K' hK'=>?_;simp (maxSteps:=4000000) only[sH,↓sP,sA,tyS,simprocAttr,Int.natCast_nonneg,Int.ofNat_lt,hlt,hlk2,aZ hlt,aZ hlk2,List.length_map,f1,f2];repeat refine AI ?_
     refine hK' _ _ ?_;clear hK' K';simp only[sE,↓reduceIte,simprocAttr];repeat refine AI ?_
     refine hK _ _ _ ?_;clear hK K;refine aG (b:=false) rfl (fun hb=>?_) (fun hb=>?_)
     · cases hb
     refine aK ?_;simp (maxSteps:=4000000) only[↓sP,sA,tyS,simprocAttr];repeat refine AI ?_
     refine hK _ _ _ ?_;clear hK K;refine aD (by kernel_rfl) ?_;simp (maxSteps:=4000000) only[↓sP,sA,tyS,simprocAttr,(show IntKind.i64.wrap ((k:Int)+1)=((k+1:Nat):Int)from by rw[IntWalk.i64_in _ (by omega)];rfl)];refine⟨⟨k+1,hlk⟩,(aI (by omega) (by simp[aY,fin_at,finA_at,upd_at,HV.men,HV.menL,HV.norm,HV.toC,HV.toCL]) (by simp[bA,fob_at,upd_at,none0_at,bO,HO.men,HV.men,HV.menL,HV.norm,HV.toC,HV.toCL])),?_⟩;show i-(k+1)<i-k;omega
    have f1:(X[k].n==X[i].n)=false:=beq_false_of_ne hke;refine aE fun K hK=>eH mixed (by kernel_rfl) (by kernel_rfl) (by kernel_rfl) ?_;simp only[sR,simprocAttr];iterate 12
     (refine aC (g:=none) rfl rfl fun K' hK'=>?_;simp only[sH,↓sP,sA,tyS,simprocAttr,Int.natCast_nonneg,Int.ofNat_lt,hlt,hlk2,aZ hlt,aZ hlk2,List.length_map,f1];(repeat refine AI ?_);refine hK' _ _ ?_;clear hK' K')
    iterate 6
     (refine aC (g:=some (107,true)) rfl rfl fun K' hK'=>?_;simp only[sH,↓sP,sA,tyS,simprocAttr,Int.natCast_nonneg,Int.ofNat_lt,hlt,hlk2,aZ hlt,aZ hlk2,List.length_map,f1];(repeat refine AI ?_);refine hK' _ _ ?_;clear hK' K')
    refine aC (g:=none) rfl rfl fun K' hK'=>?_;simp (maxSteps:=4000000) only[sH,↓sP,sA,tyS,simprocAttr,Int.natCast_nonneg,Int.ofNat_lt,hlt,hlk2,aZ hlt,aZ hlk2,List.length_map,f1];repeat refine AI ?_
    refine hK' _ _ ?_;clear hK' K';simp only[sE,↓reduceIte,simprocAttr];repeat refine AI ?_
    refine hK _ _ _ ?_;clear hK K;refine aG (b:=false) rfl (fun hb=>?_) (fun hb=>?_)
    · cases hb
    refine aK ?_;simp (maxSteps:=4000000) only[↓sP,sA,tyS,simprocAttr];repeat refine AI ?_
    refine hK _ _ _ ?_;clear hK K;refine aD (by kernel_rfl) ?_;simp (maxSteps:=4000000) only[↓sP,sA,tyS,simprocAttr,(show IntKind.i64.wrap ((k:Int)+1)=((k+1:Nat):Int)from by rw[IntWalk.i64_in _ (by omega)];rfl)];refine⟨⟨k+1,hlk⟩,(aI (by omega) (by simp[aY,fin_at,finA_at,upd_at,HV.men,HV.menL,HV.norm,HV.toC,HV.toCL]) (by simp[bA,fob_at,upd_at,none0_at,bO,HO.men,HV.men,HV.menL,HV.norm,HV.toC,HV.toCL])),?_⟩;show i-(k+1)<i-k;omega
   have f1:(X[k].n==X[i].n)=false:=beq_false_of_ne (hdi hk5);refine aE fun K hK=>eH mixed (by kernel_rfl) (by kernel_rfl) (by kernel_rfl) ?_;simp only[sR,simprocAttr];iterate 12
    (refine aC (g:=none) rfl rfl fun K' hK'=>?_;simp only[sH,↓sP,sA,tyS,simprocAttr,Int.natCast_nonneg,Int.ofNat_lt,hlt,hlk2,aZ hlt,aZ hlk2,List.length_map,f1];(repeat refine AI ?_);refine hK' _ _ ?_;clear hK' K')
   iterate 6
    (refine aC (g:=some (107,true)) rfl rfl fun K' hK'=>?_;simp only[sH,↓sP,sA,tyS,simprocAttr,Int.natCast_nonneg,Int.ofNat_lt,hlt,hlk2,aZ hlt,aZ hlk2,List.length_map,f1];(repeat refine AI ?_);refine hK' _ _ ?_;clear hK' K')
   refine aC (g:=none) rfl rfl fun K' hK'=>?_;simp (maxSteps:=4000000) only[sH,↓sP,sA,tyS,simprocAttr,Int.natCast_nonneg,Int.ofNat_lt,hlt,hlk2,aZ hlt,aZ hlk2,List.length_map,f1];repeat refine AI ?_
   refine hK' _ _ ?_;clear hK' K';simp only[sE,↓reduceIte,simprocAttr];repeat refine AI ?_
   refine hK _ _ _ ?_;clear hK K;refine aG (b:=false) rfl (fun hb=>?_) (fun hb=>?_)
   · cases hb
   refine aK ?_;simp (maxSteps:=4000000) only[↓sP,sA,tyS,simprocAttr];repeat refine AI ?_
   refine hK _ _ _ ?_;clear hK K;refine aD (by kernel_rfl) ?_;simp (maxSteps:=4000000) only[↓sP,sA,tyS,simprocAttr,(show IntKind.i64.wrap ((k:Int)+1)=((k+1:Nat):Int)from by rw[IntWalk.i64_in _ (by omega)];rfl)];refine⟨⟨k+1,hlk⟩,(aI (by omega) (by simp[aY,fin_at,finA_at,upd_at,HV.men,HV.menL,HV.norm,HV.toC,HV.toCL]) (by simp[bA,fob_at,upd_at,none0_at,bO,HO.men,HV.men,HV.menL,HV.norm,HV.toC,HV.toCL])),?_⟩;show i-(k+1)<i-k;omega
  refine bL ?_;simp (maxSteps:=4000000) only[↓sP,sA,tyS,simprocAttr];clear hK K;repeat refine AI ?_
  refine hK _ _ _ ?_;clear hK K;refine aD (by kernel_rfl) ?_;simp (maxSteps:=4000000) only[↓sP,sA,tyS,simprocAttr,(show IntKind.i64.wrap ((i:Int)+1)=((i+1:Nat):Int)from by rw[IntWalk.i64_in _ (by omega)];rfl)];refine⟨⟨i+1,hlt⟩,(aI (by omega) (by simp[aY,fin_at,finA_at,upd_at,HV.men,HV.menL,HV.norm,HV.toC,HV.toCL]) (by simp[bA,fob_at,upd_at,none0_at,bO,HO.men,HV.men,HV.menL,HV.norm,HV.toC,HV.toCL])),?_⟩;show X.length-(i+1)<X.length-i;omega
 have hie:i=X.length:=by have:=of_decide_eq_false hb;omega
 subst hie;clear hb;rw[List.take_length];refine bL ?_;simp (maxSteps:=4000000) only[↓sP,sA,tyS,simprocAttr];clear hK K;repeat refine AI ?_
 refine hK _ _ _ ?_;clear hK K;refine aE fun K hK=>?_;refine aE fun K hK=>aD (by kernel_rfl) ?_;simp (maxSteps:=4000000) only[↓sP,sA,tyS,simprocAttr];repeat refine AI ?_
 refine hK _ _ _ ?_;clear hK K;refine aP ?_;refine bT (α:={i:Nat//i<X.length}) (fun i=>(fin [(6,.c (.slc (X.map Ln.cv))),(8,.own 125 X.length),(13,.c (.int .i64 i.1))],fob [(0,.tab tabs),(125,.row 3 1 ((eK X X.length []).map (CV.int .i64)))])) 800 (fun i=>X.length-i.1) ⟨0,hX.pos⟩ (aI (by omega) (by simp[aY,fin_at,finA_at,upd_at,HV.men,HV.menL,HV.norm,HV.toC,HV.toCL]) (by simp[bA,fob_at,upd_at,none0_at,bO,HO.men,HV.men,HV.menL,HV.norm,HV.toC,HV.toCL])) ?_;rintro⟨i,hi⟩;simp only at hi⊢;refine aE fun K hK=>?_;refine aE fun K hK=>aD (by kernel_rfl) ?_;simp only[sR,simprocAttr];iterate 5
  (refine aC (g:=none) rfl rfl fun K' hK'=>?_;simp only[sH,↓sP,sA,tyS,simprocAttr,List.length_map,(show IntKind.i64.wrap ((i:Int)+1)=((i+1:Nat):Int)from by rw[IntWalk.i64_in _ (by omega)];rfl)];(repeat refine AI ?_);refine hK' _ _ ?_;clear hK' K')
 simp only[sE,↓reduceIte,simprocAttr];repeat refine AI ?_
 refine hK _ _ _ ?_;clear hK K;refine aG (b:=decide (((i+1:Nat):Int)<X.length)) rfl (fun hb=>?_) (fun hb=>?_)
 ·
  have hlt:i+1<X.length:=by have:=of_decide_eq_true hb;omega
  have hun:i<(eK X X.length []).length:=by rw[gU];exact hi
  have hu1:(eK X X.length [])[i]=1:=by rw[lO _ _ _ _ hi,List.append_nil,hX.once i hlt];rfl
  clear hb;refine aK ?_;simp (maxSteps:=4000000) only[↓sP,sA,tyS,simprocAttr];repeat refine AI ?_
  refine hK _ _ _ ?_;clear hK K;refine aE fun K hK=>?_;refine aP ?_;refine aE fun K hK=>aD (by kernel_rfl) ?_;simp only[sR,simprocAttr];iterate 5
   (refine aC (g:=none) rfl rfl fun K' hK'=>?_;simp only[sH,↓sP,sA,tyS,simprocAttr,List.length_map,gU,Int.natCast_nonneg,Int.ofNat_lt,hi,Int.toNat_natCast,aZ hun,hu1,(show((1:Int) !=1)=false from rfl)];(repeat refine AI ?_);refine hK' _ _ ?_;clear hK' K')
  simp only[sE,↓reduceIte,simprocAttr];repeat refine AI ?_
  refine hK _ _ _ ?_;clear hK K;refine aG (b:=false) rfl (fun hb=>?_) (fun hb=>?_)
  · cases hb
  refine aK ?_;simp (maxSteps:=4000000) only[↓sP,sA,tyS,simprocAttr];repeat refine AI ?_
  refine hK _ _ _ ?_;clear hK K;refine aD (by kernel_rfl) ?_;simp (maxSteps:=4000000) only[↓sP,sA,tyS,simprocAttr,(show IntKind.i64.wrap ((i:Int)+1)=((i+1:Nat):Int)from by rw[IntWalk.i64_in _ (by omega)];rfl)];refine⟨⟨i+1,hlt⟩,(aI (by omega) (by simp[aY,fin_at,finA_at,upd_at,HV.men,HV.menL,HV.norm,HV.toC,HV.toCL]) (by simp[bA,fob_at,upd_at,none0_at,bO,HO.men,HV.men,HV.menL,HV.norm,HV.toC,HV.toCL])),?_⟩;show X.length-(i+1)<X.length-i;omega
 refine bL ?_;simp (maxSteps:=4000000) only[↓sP,sA,tyS,simprocAttr];clear hK K;repeat refine AI ?_
 refine hK _ _ _ ?_;clear hK K;have hX1:X.length-1<X.length:=by have:=hX.pos;omega
 have hwl:IntKind.i64.wrap ((X.length:Int)-1)=((X.length-1:Nat):Int):=by rw[IntWalk.i64_in _ (by omega)];omega
 have hk5:(X[X.length-1].k==5)=true:=by
  have h1:=hX.last;rw[List.getLast?_eq_getElem?,List.getElem?_eq_getElem hX1]at h1;simpa using h1
 clear hb;refine aE fun K hK=>aD (by kernel_rfl) ?_;simp only[sR,simprocAttr];iterate 4
  (refine aC (g:=none) rfl rfl fun K' hK'=>?_;simp only[sH,↓sP,sA,tyS,simprocAttr,List.length_map,(show decide ((0:Int)<(X.length:Int))=true from decide_eq_true (by omega)),hwl,Int.natCast_nonneg,Int.ofNat_lt,hX1,Int.toNat_natCast,aZ hX1,hk5];(repeat refine AI ?_);refine hK' _ _ ?_;clear hK' K')
 iterate 8
  (refine aC (g:=some (130,true)) rfl rfl fun K' hK'=>?_;simp only[sH,↓sP,sA,tyS,simprocAttr,List.length_map,(show decide ((0:Int)<(X.length:Int))=true from decide_eq_true (by omega)),hwl,Int.natCast_nonneg,Int.ofNat_lt,hX1,Int.toNat_natCast,aZ hX1,hk5];(repeat refine AI ?_);refine hK' _ _ ?_;clear hK' K')
 iterate 2
  (refine aC (g:=none) rfl rfl fun K' hK'=>?_;simp only[sH,↓sP,sA,tyS,simprocAttr,List.length_map,(show decide ((0:Int)<(X.length:Int))=true from decide_eq_true (by omega)),hwl,Int.natCast_nonneg,Int.ofNat_lt,hX1,Int.toNat_natCast,aZ hX1,hk5];(repeat refine AI ?_);refine hK' _ _ ?_;clear hK' K')
 refine aC (g:=some (140,true)) rfl rfl fun K' hK'=>?_;simp (maxSteps:=4000000) only[sH,↓sP,sA,tyS,simprocAttr,List.length_map,(show decide ((0:Int)<(X.length:Int))=true from decide_eq_true (by omega)),hwl,Int.natCast_nonneg,Int.ofNat_lt,hX1,Int.toNat_natCast,aZ hX1,hk5];refine jQ (args:=[]) 0 aP0 rfl (by simp) ⟨rfl,rfl,rfl,rfl⟩ ?_;rintro u rfl;repeat refine AI ?_
 refine hK' _ _ ?_;clear hK' K';iterate 2
  (refine aC (g:=none) rfl rfl fun K' hK'=>?_;simp only[sH,↓sP,sA,tyS,simprocAttr,List.length_map,(show decide ((0:Int)<(X.length:Int))=true from decide_eq_true (by omega)),hwl,Int.natCast_nonneg,Int.ofNat_lt,hX1,Int.toNat_natCast,aZ hX1,hk5];(repeat refine AI ?_);refine hK' _ _ ?_;clear hK' K')
 simp only[sE,↓reduceIte,simprocAttr];repeat refine AI ?_
 refine hK _ _ _ ?_;clear hK K;refine aJ ?_;simp (maxSteps:=4000000) only[aV,Tryz.results4,aR,aT,aQ,↓sP,sA,tyS,simprocAttr];exact lX [] (.bool true) rfl rfl (by simp) rfl
set_option maxRecDepth 100000
theorem yH {W:World}(h:laidMetH Tryz.prog Rows.derivationNeededRow.laid W):Lib.TabIs Tryz.prog W "internal/strconv.uint64pow10" .u64 Lib.pow10Tab:=by
  rw[MakeChecks.laidMetH_plain _ _ _ (by kernel_rfl)]at h;have h2:=laidMet.filter (fun x=>x.1== "internal/strconv.uint64pow10") h;have e:(Rows.derivationNeededRow.laid.filter fun x=>x.1== "internal/strconv.uint64pow10")=[("internal/strconv.uint64pow10",Lib.tabData .u64 Lib.pow10Tab)]:=by kernel_rfl
  rw[e]at h2;exact Lib.tabIs_of_head aE3 (by kernel_rfl) Tryz.underlying199 Tryz.underlying135 (by kernel_rfl) (by kernel_rfl) h2
theorem kE (H:Type)(enc:TypeId×Value→H)(W:World)(args:Array Value)(ds gs:List (DataW H))(before:List MemPlace)
    (hL:laidMetH Tryz.prog Rows.derivationNeededRow.laid W)
    (hval: ∀(j:Nat) t v,Tryz.f4.params[j]? =some t→args[j]? =some v→Value.okWide Tryz.prog W .any 0 t v)
    (hW:DataW.Whole enc Tryz.prog Tryz.f4.params.toList Rows.derivationNeededSpec.vars false W args.toList ds gs before):
    Calls Tryz.prog 4 args W fun e W'=> ∃v,e= .returned v∧Rows.derivationNeededSpec.post enc Tryz.prog Tryz.f4 false true false false W args v W':=by
  refine bD7 (mm:=6) (tb:=4) (tabs:=tabs) (by kernel_rfl) cN8 aV1 rfl (by kernel_rfl) Tryz.underlying4 ?_ ?_ ?_ ?_ (fun j t v h1 h2=>?_) hW
  · rw[Tryz.params4]
    intro H ds h
    match ds,h with
    |[c0],_=>exact⟨rfl,rfl,rfl⟩
  · rw[Tryz.params4]
    intro t ht;simp only[List.mem_cons,List.not_mem_nil,or_false]at ht;rcases ht with rfl
    · exact⟨by kernel_rfl,of_decide_eq_true (by kernel_rfl)⟩
  · rw[Tryz.params4]
    intro cs hn hty
    match cs,hn,hty with
    |[c0],_,hty=>
      obtain⟨L,rfl,_,_⟩:=cD4 (hty 0 _ c0 rfl rfl);exact aV5 L
  · intro x hx
    simp only[tabs,List.mem_cons,List.not_mem_nil,or_false]at hx;rcases hx with rfl
    · exact yC aE3 (yH hL)
  · exact hval j t v h1 h2
open Go.ChangeShapes Go.WideShapes Go.ChangeAt Go.RowKit in
set_option maxRecDepth 100000 in
theorem lP (os:Os)(started:os.Started)(H:Type)(enc:TypeId×Value→H):
    ReturnsInHanded {} Tryz.checked os 4 .any (fun w args=>(Rows.derivationNeededSpec.pre enc Tryz.prog Tryz.f4 [] false w args∧laidMetH Tryz.prog Rows.derivationNeededRow.laid w)∧sizedMet enc Tryz.prog Tryz.f4 (OpenSpec.ofChange Rows.derivationNeededSpec) false w args)
      (Rows.derivationNeededSpec.post enc Tryz.prog Tryz.f4 false true false false):=by
  refine returnsInHanded_of_change_and (C:=Tryz.checked) (X:=fun w _=>laidMetH Tryz.prog Rows.derivationNeededRow.laid w) (fun _ _ _ hh h=>h.of_heap hh) own started (by kernel_rfl) Tryz.func4
    (ChangeSpec.witness_shaped (enc:=enc) (C:=Tryz.checked) (os:=os) (X:=fun w _=>laidMetH Tryz.prog Rows.derivationNeededRow.laid w) false (World.laidAll Tryz.prog os Rows.derivationNeededRow.laid) #[.slice none 0 0] 8 (World.laidAll_os _ _ _)
      (World.shaped_of_ZipB (by kernel_rfl) (by kernel_rfl)) (by kernel_rfl) (by kernel_rfl) (by kernel_rfl)
      (by rw[MakeChecks.laidMetH_plain _ _ _ (by kernel_rfl)];exact laidMet_laidAll _ (by kernel_rfl) (by kernel_rfl))) ?_
  intro W base args ds gs before hval hW _ _ hL _;exact kE H enc W args ds gs before hL (fun j t v h1 h2=>(hval j t v h1 h2)) hW
theorem nM :Rows.DerivationNeededSaid:=
  OpenClaim.holds_of_wide 4 Tryz.f4 rfl rfl rfl rfl rfl rfl rfl ⟨rfl,rfl,rfl,rfl,rfl⟩ rfl rfl rfl rfl rfl (by kernel_rfl) Tryz.func4 (by kernel_rfl)
    (of_decide_eq_true (by kernel_rfl)) (by unfold Func.isWrapper;first|(rw[if_pos (by decide+kernel)];kernel_rfl)|(rw[if_neg (by decide+kernel)];exact⟨rfl,rfl⟩))
    (fun os started H enc _=>lP os started H enc)
theorem derivationNeeded_said :Rows.DerivationNeededCardSaid:=
  Claim7.holds_tied_plain_at .later [] [.data,.data,.data,.data,.pinned] true (true,"21008691179fbc5e685a549e14076cf73832ee6f24894afe5decf201da899196") false nM (fun _ h=>by cases h) (by kernel_rfl) (fun _ h=>by cases h) derivationNeeded_row_tie rfl ⟨rfl,rfl⟩ (by kernel_rfl) rfl
    (fun f fn hf hfn=>by
      obtain rfl:f=4:=Option.some.inj ((show Tryz.prog.funcNamed "admission/admissionlaw31.DerivationNeeded" =some 4 by kernel_rfl).symm.trans hf)|>.symm;obtain rfl:fn=Tryz.f4:=(Option.some.inj (Tryz.func4.symm.trans hfn)).symm;exact⟨by kernel_rfl,fun j t ht=>by
        rw[Tryz.params4]at ht;have hm:t∈[22]:=by simpa using Array.mem_of_getElem? ht
        have hall:([22].all fun u=>!Tryz.prog.wantsStandIn u)=true:=by kernel_rfl
        exact(show Tryz.prog.wantsStandIn t=false by simpa using List.all_eq_true.1 hall t hm)⟩)
    (by kernel_rfl)
#print axioms derivationNeeded_said
end Go.Proofs.YthedbjfipmkpiaaGreatDoor
