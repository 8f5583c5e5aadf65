/- DerivationDocuments: for any tape of numbers the law returns true and leaves it as it was: the documents of a derivation of a made tree are those of the supports that it uses, and it uses only requirements that hold. The listed tables of the library are tied to the program's text by the card. By an AI agent. -/
import Derived.Test.YthedbjfipmkpiaaGreatDoorHdUo
import Derived.Test.YthedbjfipmkpiaaGreatDoorHdSb
import Derived.Test.YthedbjfipmkpiaaGreatDoorHdX8
import Derived.Test.YthedbjfipmkpiaaGreatDoorHdTl
import Derived.Test.YthedbjfipmkpiaaGreatDoorHdUl
import Derived.Test.YthedbjfipmkpiaaGreatDoorHdW3
import Derived.Lay
import Derived.SevenTiedAt
import Derived.Test.YthedbjfipmkpiaaGreatDoorRows
import Derived.Test.YthedbjfipmkpiaaGreatDoorCards
import Derived.Test.YthedbjfipmkpiaaGreatDoorTie
set_option linter.unusedSimpArgs false
set_option linter.unusedVariables false
set_option linter.defProp false
namespace Go.Proofs.YthedbjfipmkpiaaGreatDoor
open Go Go.Hl Go.Pl
set_option maxRecDepth 10000
set_option maxHeartbeats 8000000
theorem lY (l:List Nat):CV.denilL (l.map iC)=l.map iC:=bU (fun _=>rfl) l
theorem aQ5 {M Z:List Dig}(h:dws M=iV (dws Z)):M.length≤Z.length:=by
 have h1:=aQ0 (dws Z) [];have h2:(dws M).length=(iV (dws Z)).length:=by rw[h]
 rw[eU]at h1 h2;unfold iV at h2;simp only[List.length_nil,Nat.zero_add]at h1;omega
variable {x:Ln}{X:List Ln}
theorem cE8 {V:List Nat}{i k:Nat}(hk:k<V.length)(h0:xV V x k=false)(h1:(x.k==1)=true)(h2:(x.n==(V[k]:Int))=true):uL V X i k x=dD (X.take i)∧uL V X i (k+1) x=dD (X.take i)++x.d:=by
 have e2:((V[k]:Int)==x.n)=true:=by rw[eq_of_beq h2];simp
 unfold uL;rw[aC7 hk,h0,h1,e2];simp
theorem xW {V:List Nat}{i k:Nat}(hk:k<V.length)(h:(x.k==1)=false∨(x.n==(V[k]:Int))=false):uL V X i (k+1) x=uL V X i k x:=by
 unfold uL;rw[aC7 hk];rcases h with h|h
 · rw[h];simp
 have:((V[k]:Int)==x.n)=false:=by rw[Bool.eq_false_iff]at h⊢;intro h';exact h (by rw[←eq_of_beq h'];simp)
 rw[this];simp
theorem yM (L:List Int):mZ Tryz.prog 7 tabs [.slc (L.map (.int .i64))] (fun v=>v= .bool true):=by
 refine bD (args:=[.c (.slc (L.map (.int .i64)))]) Tryz.func7 rfl (by kernel_rfl) (fR tabs [.slc (L.map (.int .i64))]) (Nat.le_of_ble_eq_true rfl) ?_;unfold fL;refine aE fun K hK=>aD (by kernel_rfl) ?_;simp (maxSteps:=4000000) only[↓sP,sA,tyS,simprocAttr];repeat refine AI ?_
 refine hK _ _ _ ?_;clear hK K;refine aE fun K hK=>aD (by kernel_rfl) ?_;simp only[sR,simprocAttr];refine aC (g:=none) rfl rfl fun K' hK'=>?_;simp (maxSteps:=4000000) only[sH,↓sP,sA,tyS,simprocAttr,denilL_int];repeat refine AI ?_
 refine hK' _ _ ?_;clear hK' K';refine aC (g:=none) rfl rfl fun K' hK'=>?_;simp (maxSteps:=4000000) only[sH,↓sP,sA,tyS,simprocAttr,denilL_int];refine fG [] (cE4 L 200) rfl trivial (by simp) (by simp) ⟨rfl,rfl,rfl,rfl⟩ (by simp[dU]) (by simp[HV.menL,HV.men]) ?_;rintro r os' ⟨rfl,rfl⟩;rw[bW8,bK3];repeat refine AI ?_
 refine hK' _ _ ?_;clear hK' K';refine aC (g:=none) rfl rfl fun K' hK'=>?_;simp (maxSteps:=4000000) only[sH,↓sP,sA,tyS,simprocAttr,denilL_int];repeat refine AI ?_
 refine hK' _ _ ?_;clear hK' K';simp only[sE,↓reduceIte,simprocAttr];repeat refine AI ?_
 refine hK _ _ _ ?_;clear hK K;refine aE fun K hK=>aD (by kernel_rfl) ?_;simp only[sR,simprocAttr];refine aC (g:=none) rfl rfl fun K' hK'=>?_;simp (maxSteps:=4000000) only[sH,↓sP,sA,tyS,simprocAttr];repeat refine AI ?_
 refine hK' _ _ ?_;clear hK' K';refine aC (g:=none) rfl rfl fun K' hK'=>?_;simp (maxSteps:=4000000) only[sH,↓sP,sA,tyS,simprocAttr];refine cL (args:=[]) (bK5 (L.take 200) 0 (by omega)) rfl (by simp) ⟨rfl,rfl,rfl,rfl⟩ ?_;rintro u v' ⟨T,a',rfl,rfl,hT,ha'⟩;have hI:=cC5 hT;have hN:=aB7 hI;have h40:=cC9 hT;have hlv:(dA T).length≤16:=by rw[iF (xK hI),fP];exact hI.lv
 repeat refine AI ?_
 refine hK' _ _ ?_;clear hK' K';refine aC (g:=none) rfl rfl fun K' hK'=>?_;simp (maxSteps:=4000000) only[sH,↓sP,sA,tyS,simprocAttr];repeat refine AI ?_
 refine hK' _ _ ?_;clear hK' K';simp only[sE,↓reduceIte,simprocAttr];repeat refine AI ?_
 refine hK _ _ _ ?_;clear hK K;refine aE fun K hK=>aD (by kernel_rfl) ?_;simp only[sR,simprocAttr];iterate 2
  (refine aC (g:=none) rfl rfl fun K' hK'=>?_;simp only[sH,↓sP,sA,tyS,simprocAttr,denilL_Nd];(repeat refine AI ?_);refine hK' _ _ ?_;clear hK' K')
 refine aC (g:=none) rfl rfl fun K' hK'=>?_;simp (maxSteps:=4000000) only[sH,↓sP,sA,tyS,simprocAttr,denilL_Nd];refine cL (args:=[_,_]) (aQ4 (L.take 200) a' T hN hlv 4 (by omega) (by omega)) rfl (by simp) ⟨rfl,rfl,rfl,rfl⟩ ?_;rintro u v' ⟨S,a2,rfl,rfl,hS,hd,ha2⟩;repeat refine AI ?_
 refine hK' _ _ ?_;clear hK' K';refine aC (g:=none) rfl rfl fun K' hK'=>?_;simp (maxSteps:=4000000) only[sH,↓sP,sA,tyS,simprocAttr,denilL_Nd];repeat refine AI ?_
 refine hK' _ _ ?_;clear hK' K';simp only[sE,↓reduceIte,simprocAttr];repeat refine AI ?_
 refine hK _ _ _ ?_;clear hK K;refine aE fun K hK=>aD (by kernel_rfl) ?_;simp only[sR,simprocAttr];iterate 2
  (refine aC (g:=none) rfl rfl fun K' hK'=>?_;simp only[sH,↓sP,sA,tyS,simprocAttr,denilL_Nd,denilL_Sp];(repeat refine AI ?_);refine hK' _ _ ?_;clear hK' K')
 refine aC (g:=none) rfl rfl fun K' hK'=>?_;simp (maxSteps:=4000000) only[sH,↓sP,sA,tyS,simprocAttr,denilL_Nd,denilL_Sp];refine cS (args:=[_,_]) (aP4 T hN S (by omega) (fun x hx=>by have:=hd x hx;omega)) ⟨rfl,rfl,rfl,rfl⟩ ?_;rintro u v ⟨rfl,rfl⟩;repeat refine AI ?_
 refine hK' _ _ ?_;clear hK' K';iterate 5
  (refine aC (g:=none) rfl rfl fun K' hK'=>?_;simp only[sH,↓sP,sA,tyS,simprocAttr,denilL_Nd,denilL_Sp];(repeat refine AI ?_);refine hK' _ _ ?_;clear hK' K')
 simp only[sE,↓reduceIte,simprocAttr];repeat refine AI ?_
 refine hK _ _ _ ?_;clear hK K;refine aE fun K hK=>aD (by kernel_rfl) ?_;simp only[sR,simprocAttr];refine aC (g:=none) rfl rfl fun K' hK'=>?_;simp (maxSteps:=4000000) only[sH,↓sP,sA,tyS,simprocAttr,denilL_Nd];repeat refine AI ?_
 refine hK' _ _ ?_;clear hK' K';refine aC (g:=none) rfl rfl fun K' hK'=>?_;simp (maxSteps:=4000000) only[sH,↓sP,sA,tyS,simprocAttr,denilL_Nd];refine aX (args:=[_]) (oC T hN) ⟨rfl,rfl,rfl,rfl⟩ ?_;rintro u rfl;repeat refine AI ?_
 refine hK' _ _ ?_;clear hK' K';refine aC (g:=none) rfl rfl fun K' hK'=>?_;simp (maxSteps:=4000000) only[sH,↓sP,sA,tyS,simprocAttr,denilL_Nd];repeat refine AI ?_
 refine hK' _ _ ?_;clear hK' K';simp only[sE,↓reduceIte,simprocAttr];repeat refine AI ?_
 refine hK _ _ _ ?_;clear hK K;have hlen:=aV0 (l:=T) (S:=S);have hal:=xN (l:=T) hd;have hdl:=Pl.docsL_le (X:=proveV T S) fun x hx=>(hal x hx).2.2.1;have hne:=fun(h:evalV T (truL S)=true) x (hx:x∈proveV T S)=>bX1 h hx;have hnl:=fun(h:evalV T (truL S)=true) x (hx:x∈proveV T S) (h1:x.k=1) k h2 h3=>bK7 (k:=k) h hx h1 h2 h3;have hVe:=iF (xK hI);have hnx:=fun(h:evalV T (truL S)=false)=>tB h;obtain⟨X,hXe⟩: ∃X,X=proveV T S:=⟨_,rfl⟩;rw[←hXe]at hlen hal hdl hne hnl hnx⊢;obtain⟨V,hV⟩: ∃V,V=dA T:=⟨_,rfl⟩;rw[←hVe,←hV]at hne hnl;rw[←hV]at hS hlv⊢;clear hXe hV hVe;refine aE fun K hK=>aD (by kernel_rfl) ?_;simp only[sR,simprocAttr];iterate 2
  (refine aC (g:=none) rfl rfl fun K' hK'=>?_;simp only[sH,↓sP,sA,tyS,simprocAttr,cT,cU,denilL_Ln];(repeat refine AI ?_);refine hK' _ _ ?_;clear hK' K')
 refine aC (g:=none) rfl rfl fun K' hK'=>?_;simp (maxSteps:=4000000) only[sH,↓sP,sA,tyS,simprocAttr,cT,cU,denilL_Ln];refine aX (args:=[_]) (bB7 {dv0 with l:=X} (by show X.length<_;omega) (by show(dD X).length<_;omega)) ⟨rfl,rfl,rfl,rfl⟩ ?_;rintro u ⟨A,rfl,hA⟩
 replace hA:dws A=iV (dws (dD X)):=hA
 repeat refine AI ?_
 refine hK' _ _ ?_;clear hK' K';refine aC (g:=none) rfl rfl fun K' hK'=>?_;simp (maxSteps:=4000000) only[sH,↓sP,sA,tyS,simprocAttr,cT,cU,denilL_Ln];repeat refine AI ?_
 refine hK' _ _ ?_;clear hK' K';simp only[sE,↓reduceIte,simprocAttr];repeat refine AI ?_
 refine hK _ _ _ ?_;clear hK K;by_cases hv:evalV T (truL S)=true
 ·
  rw[hv]
  replace hne:=hne hv
  replace hnl:=hnl hv
  refine aE fun K hK=>aD (by kernel_rfl) ?_;simp (maxSteps:=4000000) only[↓sP,sA,tyS,simprocAttr];repeat refine AI ?_
  refine hK _ _ _ ?_;clear hK K;refine aE fun K hK=>?_;refine aE fun K hK=>aD (by kernel_rfl) ?_;simp (maxSteps:=4000000) only[↓sP,sA,tyS,simprocAttr];repeat refine AI ?_
  refine hK _ _ _ ?_;clear hK K;refine aP ?_;refine eJ [] ?_;refine bR (α:={y:Nat×List Dig//y.1≤X.length∧dws y.2=iV (dws (dD (X.take y.1)))}) (fun y=>(fin [(4,.c (.slc (T.map Nd.cv))),(5,.c (.slc (S.map Sp.cv))),(6,.c (.slc (X.map Ln.cv))),(7,.c (.bool true)),(8,.c (.slc (V.map iC))),(9,.c (.slc (A.map dg))),(10,.c (.slc (y.1.2.map dg))),(11,.c (.int .i64 y.1.1))],fob [(0,.tab tabs)])) 200 (fun y=>X.length-y.1.1) ⟨(0,[]),by omega,rfl⟩ (aI (by omega) (by simp[aY,fin_at,finA_at,upd_at,HV.men,HV.menL,HV.norm,HV.toC,HV.toCL,eF,fK,HO.close,HV.close,HV.closeL,CV.denil,CV.denilL,denilL_Nd,denilL_Sp,denilL_Ln,lY,denilL_dg]) (by simp[bB,fob_at,upd_at,none0_at,bN,HO.men,HV.men,HV.menL,HV.norm,HV.toC,HV.toCL,eF,fK,HO.close,HV.close,HV.closeL,CV.denil,CV.denilL,denilL_Nd,denilL_Sp,denilL_Ln,lY,denilL_dg])) ?_;rintro⟨⟨i,D⟩,hi,hD⟩;simp only at hi hD⊢;refine aE fun K hK=>?_;by_cases hlt:i<X.length
  ·
   refine aE fun K hK=>aD (by kernel_rfl) ?_;simp only[sR,simprocAttr];iterate 5
    (refine aC (g:=none) rfl rfl fun K' hK'=>?_;simp only[sH,↓sP,sA,tyS,simprocAttr,List.length_map,(show decide ((i:Int)<(X.length:Int))=true from decide_eq_true (by omega))];(repeat refine AI ?_);refine hK' _ _ ?_;clear hK' K')
   refine aC (g:=some (36,true)) rfl rfl fun K' hK'=>?_;simp (maxSteps:=4000000) only[sH,↓sP,sA,tyS,simprocAttr,List.length_map,(show decide ((i:Int)<(X.length:Int))=true from decide_eq_true (by omega))];repeat refine AI ?_
   refine hK' _ _ ?_;clear hK' K';refine aC (g:=none) rfl rfl fun K' hK'=>?_;simp (maxSteps:=4000000) only[sH,↓sP,sA,tyS,simprocAttr,List.length_map,(show decide ((i:Int)<(X.length:Int))=true from decide_eq_true (by omega))];repeat refine AI ?_
   refine hK' _ _ ?_;clear hK' K';simp only[sE,↓reduceIte,simprocAttr];repeat refine AI ?_
   refine hK _ _ _ ?_;clear hK K;refine aG (b:=true) rfl (fun hb=>?_) (fun hb=>?_)
   ·
    refine aK ?_;simp (maxSteps:=4000000) only[↓sP,sA,tyS,simprocAttr];repeat refine AI ?_
    refine hK _ _ _ ?_;clear hK K;refine aE fun K hK=>?_;refine aP ?_;refine aE fun K hK=>aD (by kernel_rfl) ?_;simp (maxSteps:=4000000) only[↓sP,sA,tyS,simprocAttr];repeat refine AI ?_
    refine hK _ _ _ ?_;clear hK K;refine aP ?_;have hxm:=List.getElem_mem hlt;have hxd:=(hal _ hxm).2.2.1;have hdi:(dD (X.take i)).length≤82:=by
     have h1:=Pl.docsL_le (X:=X.take i) (c:=2) fun x hx=>(hal x (List.mem_of_mem_take hx)).2.2.1;rw[List.length_take]at h1;omega
    refine bR (α:={z:Nat×List Dig//z.1≤V.length∧dws z.2=iV (dws (uL V X i z.1 X[i]))}) (fun z=>(fin [(4,.c (.slc (T.map Nd.cv))),(5,.c (.slc (S.map Sp.cv))),(6,.c (.slc (X.map Ln.cv))),(7,.c (.bool true)),(8,.c (.slc (V.map iC))),(9,.c (.slc (A.map dg))),(10,.c (.slc (z.1.2.map dg))),(11,.c (.int .i64 i)),(12,.c (.int .i64 z.1.1))],fob [(0,.tab tabs)])) 400 (fun z=>V.length-z.1.1) ⟨(0,D),by omega,by simpa[uL,bK6]using hD⟩ (aI (by omega) (by simp[aY,fin_at,finA_at,upd_at,HV.men,HV.menL,HV.norm,HV.toC,HV.toCL]) (by simp[bB,fob_at,upd_at,none0_at,bN,HO.men,HV.men,HV.menL,HV.norm,HV.toC,HV.toCL])) ?_;rintro⟨⟨k,M⟩,hk,hM⟩;simp only at hk hM⊢;refine aE fun K hK=>?_;refine aE fun K hK=>aD (by kernel_rfl) ?_;simp only[sR,simprocAttr];iterate 4
     (refine aC (g:=none) rfl rfl fun K' hK'=>?_;simp only[sH,↓sP,sA,tyS,simprocAttr,List.length_map];(repeat refine AI ?_);refine hK' _ _ ?_;clear hK' K')
    simp only[sE,↓reduceIte,simprocAttr];repeat refine AI ?_
    refine hK _ _ _ ?_;clear hK K;refine aG (b:=decide ((k:Int)<V.length)) rfl (fun hb=>?_) (fun hb=>?_)
    ·
     have hlk:k<V.length:=by have:=of_decide_eq_true hb;omega
     have hlS:k<S.length:=by omega
     have hS2:S[k].d.length≤2:=hd _ (List.getElem_mem hlS);clear hb;refine aK ?_;simp (maxSteps:=4000000) only[↓sP,sA,tyS,simprocAttr];repeat refine AI ?_
     refine hK _ _ _ ?_;clear hK K;refine aE fun K hK=>?_;refine aP ?_;refine aE fun K hK=>eW mixed (by kernel_rfl) (by kernel_rfl) (by kernel_rfl) ?_;simp only[sR,simprocAttr];iterate 7
      (refine aC (g:=none) rfl rfl fun K' hK'=>?_;simp only[sH,↓sP,sA,tyS,simprocAttr,Int.natCast_nonneg,Int.ofNat_lt,hlt,bA hlt,hlk,bA hlk,List.length_map,iC];(repeat refine AI ?_);refine hK' _ _ ?_;clear hK' K')
     refine aL 52 rfl (fun h14_52=>?_) (fun h14_52=>?_)
     ·
      iterate 10
       (refine aC (g:=some (53,true)) rfl rfl fun K' hK'=>?_;simp only[sH,↓sP,sA,tyS,simprocAttr,Int.natCast_nonneg,Int.ofNat_lt,hlt,bA hlt,hlk,bA hlk,List.length_map,iC,h14_52];(repeat refine AI ?_);refine hK' _ _ ?_;clear hK' K')
      refine aC (g:=none) rfl rfl fun K' hK'=>?_;simp (maxSteps:=4000000) only[sH,↓sP,sA,tyS,simprocAttr,Int.natCast_nonneg,Int.ofNat_lt,hlt,bA hlt,hlk,bA hlk,List.length_map,iC,h14_52];repeat refine AI ?_
      refine hK' _ _ ?_;clear hK' K';refine aL 63 rfl (fun h14_63=>?_) (fun h14_63=>?_)
      ·
       simp only[h14_63];simp only[sE,↓reduceIte,simprocAttr];repeat refine AI ?_
       refine hK _ _ _ ?_;clear hK K;refine aG (b:=true) rfl (fun hb=>?_) (fun hb=>?_)
       ·
        refine aE fun K hK=>?_;obtain⟨q1,q2,q3⟩:=hnl X[i] hxm (eq_of_beq h14_52) k hlk (eq_of_beq h14_63);have hsk:S.getD k sp0=S[k]:=by rw[List.getD_eq_getElem?_getD,List.getElem?_eq_getElem hlS];rfl
        rw[hsk]at q2 q3;obtain⟨w1,w2⟩:=cE8 (X:=X) (i:=i) hlk q1 h14_52 h14_63;rw[w1]at hM;refine aE fun K hK=>dJ mixed [(0,[],[]),(1,[],[]),(2,[],[]),(3,[],[]),(4,[],[]),(5,[],[]),(6,[],[]),(7,[],[]),(8,[],[]),(9,[],[]),(10,[],[]),(11,[],[]),(12,[],[]),(13,[],[]),(14,[],[]),(15,[],[]),(16,[],[]),(17,[],[]),(18,[],[]),(19,[],[])] [0,0,3,7,15,31,63,127,127,511,1023,2047,127,127,12415,28799,61567,131071,262143,524287] (by kernel_rfl) (by kernel_rfl) (by kernel_rfl) (by kernel_rfl) rfl (by kernel_rfl) ?_;iterate 7
         (refine bG (g:=none) rfl rfl fun K' hK'=>?_;simp only[sH,↓sP,sA,tyS,simprocAttr,Int.natCast_nonneg,Int.ofNat_lt,hlt,bA hlt,hlS,bA hlS,List.length_map,q2,Bool.not_true,denilL_dg,h14_52,h14_63];(repeat refine AI ?_);refine hK' _ _ ?_;clear hK' K')
        iterate 10
         (refine bG (g:=some (71,false)) rfl rfl fun K' hK'=>?_;simp only[sH,↓sP,sA,tyS,simprocAttr,Int.natCast_nonneg,Int.ofNat_lt,hlt,bA hlt,hlS,bA hlS,List.length_map,q2,Bool.not_true,denilL_dg,h14_52,h14_63];(repeat refine AI ?_);refine hK' _ _ ?_;clear hK' K')
        refine bG (g:=some (71,false)) rfl rfl fun K' hK'=>?_;simp (maxSteps:=4000000) only[sH,↓sP,sA,tyS,simprocAttr,Int.natCast_nonneg,Int.ofNat_lt,hlt,bA hlt,hlS,bA hlS,List.length_map,q2,Bool.not_true,denilL_dg,h14_52,h14_63];refine aX (args:=[_,_]) (xE X[i].d S[k].d (by omega)) ⟨rfl,rfl,rfl,rfl⟩ ?_;rintro u rfl;rw[q3,beq_self_eq_true];repeat refine AI ?_
        refine hK' _ _ ?_;clear hK' K';refine bG (g:=some (71,false)) rfl rfl fun K' hK'=>?_;simp (maxSteps:=4000000) only[sH,↓sP,sA,tyS,simprocAttr,Int.natCast_nonneg,Int.ofNat_lt,hlt,bA hlt,hlS,bA hlS,List.length_map,q2,Bool.not_true,denilL_dg,h14_52,h14_63];repeat refine AI ?_
        refine hK' _ _ ?_;clear hK' K';refine bG (g:=none) rfl rfl fun K' hK'=>?_;simp (maxSteps:=4000000) only[sH,↓sP,sA,tyS,simprocAttr,Int.natCast_nonneg,Int.ofNat_lt,hlt,bA hlt,hlS,bA hlS,List.length_map,q2,Bool.not_true,denilL_dg,h14_52,h14_63];repeat refine AI ?_
        refine hK' _ _ ?_;clear hK' K';simp only[sE,↓reduceIte,simprocAttr];repeat refine AI ?_
        refine hK _ _ _ ?_;clear hK K;refine aG (b:=false) rfl (fun hb=>?_) (fun hb=>?_)
        · cases hb
        refine aK ?_;simp (maxSteps:=4000000) only[↓sP,sA,tyS,simprocAttr];repeat refine AI ?_
        refine hK _ _ _ ?_;clear hK K;refine aE fun K hK=>aD (by kernel_rfl) ?_;simp (maxSteps:=4000000) only[↓sP,sA,tyS,simprocAttr];repeat refine AI ?_
        refine hK _ _ _ ?_;clear hK K;refine aP ?_;refine bR (α:={w:Nat×List Dig//w.1≤S[k].d.length∧dws w.2=iV (dws (dD (X.take i)++S[k].d.take w.1))}) (fun w=>(fin [(4,.c (.slc (T.map Nd.cv))),(5,.c (.slc (S.map Sp.cv))),(6,.c (.slc (X.map Ln.cv))),(7,.c (.bool true)),(8,.c (.slc (V.map iC))),(9,.c (.slc (A.map dg))),(10,.c (.slc (w.1.2.map dg))),(11,.c (.int .i64 i)),(12,.c (.int .i64 k)),(13,.c (.int .i64 w.1.1))],fob [(0,.tab tabs)])) 600 (fun w=>S[k].d.length-w.1.1) ⟨(0,M),by omega,by simpa using hM⟩ (aI (by omega) (by simp[aY,fin_at,finA_at,upd_at,HV.men,HV.menL,HV.norm,HV.toC,HV.toCL]) (by simp[bB,fob_at,upd_at,none0_at,bN,HO.men,HV.men,HV.menL,HV.norm,HV.toC,HV.toCL])) ?_;rintro⟨⟨j,N⟩,hj,hN2⟩;simp only at hj hN2⊢;refine aE fun K hK=>?_;refine aE fun K hK=>aD (by kernel_rfl) ?_;simp only[sR,simprocAttr];iterate 8
         (refine aC (g:=none) rfl rfl fun K' hK'=>?_;simp only[sH,↓sP,sA,tyS,simprocAttr,Int.natCast_nonneg,Int.ofNat_lt,hlS,bA hlS,List.length_map,h14_52,h14_63];(repeat refine AI ?_);refine hK' _ _ ?_;clear hK' K')
        simp only[sE,↓reduceIte,simprocAttr];repeat refine AI ?_
        refine hK _ _ _ ?_;clear hK K;refine aG (b:=decide (j<S[k].d.length)) rfl (fun hb=>?_) (fun hb=>?_)
        ·
         have hlj:j<S[k].d.length:=by have:=of_decide_eq_true hb;omega
         have hNl:N.length<2^40:=by
          have h1:=aQ5 hN2;rw[List.length_append,List.length_take]at h1;rw[q3]at hxd;omega
         clear hb;refine aK ?_;simp (maxSteps:=4000000) only[↓sP,sA,tyS,simprocAttr];repeat refine AI ?_
         refine hK _ _ _ ?_;clear hK K;refine aE fun K hK=>?_;refine aP ?_;refine aD (by kernel_rfl) ?_;simp only[sR,simprocAttr];iterate 9
          (refine aC (g:=none) rfl rfl fun K' hK'=>?_;simp only[sH,↓sP,sA,tyS,simprocAttr,Int.natCast_nonneg,Int.ofNat_lt,hlS,bA hlS,hlj,bA hlj,List.length_map,denilL_dg,h14_52,h14_63];(repeat refine AI ?_);refine hK' _ _ ?_;clear hK' K')
         refine aC (g:=none) rfl rfl fun K' hK'=>?_;simp (maxSteps:=4000000) only[sH,↓sP,sA,tyS,simprocAttr,Int.natCast_nonneg,Int.ofNat_lt,hlS,bA hlS,hlj,bA hlj,List.length_map,denilL_dg,h14_52,h14_63];refine aX (args:=[_,_]) (bB5 N S[k].d[j] hNl) ⟨rfl,rfl,rfl,rfl⟩ ?_;rintro u ⟨Q,rfl,hQ⟩;repeat refine AI ?_
         refine hK' _ _ ?_;clear hK' K';refine aC (g:=none) rfl rfl fun K' hK'=>?_;simp (maxSteps:=4000000) only[sH,↓sP,sA,tyS,simprocAttr,Int.natCast_nonneg,Int.ofNat_lt,hlS,bA hlS,hlj,bA hlj,List.length_map,denilL_dg,h14_52,h14_63];repeat refine AI ?_
         refine hK' _ _ ?_;clear hK' K';simp only[sE,↓reduceIte,simprocAttr];repeat refine AI ?_
         refine hK _ _ _ ?_;clear hK K;refine aD (by kernel_rfl) ?_;simp (maxSteps:=4000000) only[↓sP,sA,tyS,simprocAttr,(show IntKind.i64.wrap ((j:Int)+1)=((j+1:Nat):Int)from by rw[IntWalk.i64_in _ (by omega)];rfl)];refine⟨⟨(j+1,Q),hlj,?_⟩,(aI (by omega) (by simp[aY,fin_at,finA_at,upd_at,HV.men,HV.menL,HV.norm,HV.toC,HV.toCL]) (by simp[bB,fob_at,upd_at,none0_at,bN,HO.men,HV.men,HV.menL,HV.norm,HV.toC,HV.toCL])),?_⟩
         · show dws Q=iV (dws (dD (X.take i)++S[k].d.take (j+1)));rw[List.take_succ_eq_append_getElem hlj,←List.append_assoc,setW_snoc,←hN2,hQ]
         show S[k].d.length-(j+1)<S[k].d.length-j;omega
        have hje:j=S[k].d.length:=by have:=of_decide_eq_false hb;omega
        subst hje;clear hb;rw[List.take_length,←q3,←w2]at hN2;refine bK ?_;simp (maxSteps:=4000000) only[↓sP,sA,tyS,simprocAttr];clear hK K;repeat refine AI ?_
        refine hK _ _ _ ?_;clear hK K;refine aD (by kernel_rfl) ?_;simp (maxSteps:=4000000) only[↓sP,sA,tyS,simprocAttr,(show IntKind.i64.wrap ((k:Int)+1)=((k+1:Nat):Int)from by rw[IntWalk.i64_in _ (by omega)];rfl)];first
        |(refine⟨⟨(k+1,N),hlk,hN2⟩,(aI (by omega) (by simp[aY,fin_at,finA_at,upd_at,HV.men,HV.menL,HV.norm,HV.toC,HV.toCL]) (by simp[bB,fob_at,upd_at,none0_at,bN,HO.men,HV.men,HV.menL,HV.norm,HV.toC,HV.toCL])),?_⟩;show V.length-(k+1)<V.length-k;omega)
        |(refine⟨⟨(k+1,M),hlk,?_⟩,(aI (by omega) (by simp[aY,fin_at,finA_at,upd_at,HV.men,HV.menL,HV.norm,HV.toC,HV.toCL]) (by simp[bB,fob_at,upd_at,none0_at,bN,HO.men,HV.men,HV.menL,HV.norm,HV.toC,HV.toCL])),?_⟩;(first|(show dws M=iV (dws (uL V X i (k+1) X[i]));rw[xW hlk (by first|exact .inl h14_52|exact .inr h14_63)];exact hM));(show V.length-(k+1)<V.length-k;omega))
       cases hb
      simp only[h14_63];simp only[sE,↓reduceIte,simprocAttr];repeat refine AI ?_
      refine hK _ _ _ ?_;clear hK K;refine aG (b:=false) rfl (fun hb=>?_) (fun hb=>?_)
      · cases hb
      refine aK ?_;simp (maxSteps:=4000000) only[↓sP,sA,tyS,simprocAttr];repeat refine AI ?_
      refine hK _ _ _ ?_;clear hK K;refine aD (by kernel_rfl) ?_;simp (maxSteps:=4000000) only[↓sP,sA,tyS,simprocAttr,(show IntKind.i64.wrap ((k:Int)+1)=((k+1:Nat):Int)from by rw[IntWalk.i64_in _ (by omega)];rfl)];first
      |(refine⟨⟨(k+1,N),hlk,hN2⟩,(aI (by omega) (by simp[aY,fin_at,finA_at,upd_at,HV.men,HV.menL,HV.norm,HV.toC,HV.toCL]) (by simp[bB,fob_at,upd_at,none0_at,bN,HO.men,HV.men,HV.menL,HV.norm,HV.toC,HV.toCL])),?_⟩;show V.length-(k+1)<V.length-k;omega)
      |(refine⟨⟨(k+1,M),hlk,?_⟩,(aI (by omega) (by simp[aY,fin_at,finA_at,upd_at,HV.men,HV.menL,HV.norm,HV.toC,HV.toCL]) (by simp[bB,fob_at,upd_at,none0_at,bN,HO.men,HV.men,HV.menL,HV.norm,HV.toC,HV.toCL])),?_⟩;(first|(show dws M=iV (dws (uL V X i (k+1) X[i]));rw[xW hlk (by first|exact .inl h14_52|exact .inr h14_63)];exact hM));(show V.length-(k+1)<V.length-k;omega))
     iterate 10
      (refine aC (g:=some (53,true)) rfl rfl fun K' hK'=>?_;simp only[sH,↓sP,sA,tyS,simprocAttr,Int.natCast_nonneg,Int.ofNat_lt,hlt,bA hlt,hlk,bA hlk,List.length_map,iC,h14_52];(repeat refine AI ?_);refine hK' _ _ ?_;clear hK' K')
     refine aC (g:=none) rfl rfl fun K' hK'=>?_;simp (maxSteps:=4000000) only[sH,↓sP,sA,tyS,simprocAttr,Int.natCast_nonneg,Int.ofNat_lt,hlt,bA hlt,hlk,bA hlk,List.length_map,iC,h14_52];repeat refine AI ?_
     refine hK' _ _ ?_;clear hK' K';simp only[sE,↓reduceIte,simprocAttr];repeat refine AI ?_
     refine hK _ _ _ ?_;clear hK K;refine aG (b:=false) rfl (fun hb=>?_) (fun hb=>?_)
     · cases hb
     refine aK ?_;simp (maxSteps:=4000000) only[↓sP,sA,tyS,simprocAttr];repeat refine AI ?_
     refine hK _ _ _ ?_;clear hK K;refine aD (by kernel_rfl) ?_;simp (maxSteps:=4000000) only[↓sP,sA,tyS,simprocAttr,(show IntKind.i64.wrap ((k:Int)+1)=((k+1:Nat):Int)from by rw[IntWalk.i64_in _ (by omega)];rfl)];first
     |(refine⟨⟨(k+1,N),hlk,hN2⟩,(aI (by omega) (by simp[aY,fin_at,finA_at,upd_at,HV.men,HV.menL,HV.norm,HV.toC,HV.toCL]) (by simp[bB,fob_at,upd_at,none0_at,bN,HO.men,HV.men,HV.menL,HV.norm,HV.toC,HV.toCL])),?_⟩;show V.length-(k+1)<V.length-k;omega)
     |(refine⟨⟨(k+1,M),hlk,?_⟩,(aI (by omega) (by simp[aY,fin_at,finA_at,upd_at,HV.men,HV.menL,HV.norm,HV.toC,HV.toCL]) (by simp[bB,fob_at,upd_at,none0_at,bN,HO.men,HV.men,HV.menL,HV.norm,HV.toC,HV.toCL])),?_⟩;(first|(show dws M=iV (dws (uL V X i (k+1) X[i]));rw[xW hlk (by first|exact .inl h14_52|exact .inr h14_63)];exact hM));(show V.length-(k+1)<V.length-k;omega))
    have hke:k=V.length:=by have:=of_decide_eq_false hb;omega
    subst hke;clear hb;have hM2:dws M=iV (dws (dD (X.take (i+1)))):=by
     rw[aW2 hlt,hM];unfold uL;rw[hne _ hxm]
    refine bK ?_;simp (maxSteps:=4000000) only[↓sP,sA,tyS,simprocAttr];clear hK K;repeat refine AI ?_
    refine hK _ _ _ ?_;clear hK K;refine aD (by kernel_rfl) ?_;simp (maxSteps:=4000000) only[↓sP,sA,tyS,simprocAttr,(show IntKind.i64.wrap ((i:Int)+1)=((i+1:Nat):Int)from by rw[IntWalk.i64_in _ (by omega)];rfl)];refine⟨⟨(i+1,M),hlt,hM2⟩,(aI (by omega) (by simp[aY,fin_at,finA_at,upd_at,HV.men,HV.menL,HV.norm,HV.toC,HV.toCL]) (by simp[bB,fob_at,upd_at,none0_at,bN,HO.men,HV.men,HV.menL,HV.norm,HV.toC,HV.toCL])),?_⟩;show X.length-(i+1)<X.length-i;omega
   cases hb
  refine aE fun K hK=>aD (by kernel_rfl) ?_;simp only[sR,simprocAttr];iterate 5
   (refine aC (g:=none) rfl rfl fun K' hK'=>?_;simp only[sH,↓sP,sA,tyS,simprocAttr,List.length_map,(show decide ((i:Int)<(X.length:Int))=false from decide_eq_false (by omega))];(repeat refine AI ?_);refine hK' _ _ ?_;clear hK' K')
  refine aC (g:=some (36,true)) rfl rfl fun K' hK'=>?_;simp (maxSteps:=4000000) only[sH,↓sP,sA,tyS,simprocAttr,List.length_map,(show decide ((i:Int)<(X.length:Int))=false from decide_eq_false (by omega))];repeat refine AI ?_
  refine hK' _ _ ?_;clear hK' K';refine aC (g:=none) rfl rfl fun K' hK'=>?_;simp (maxSteps:=4000000) only[sH,↓sP,sA,tyS,simprocAttr,List.length_map,(show decide ((i:Int)<(X.length:Int))=false from decide_eq_false (by omega))];repeat refine AI ?_
  refine hK' _ _ ?_;clear hK' K';simp only[sE,↓reduceIte,simprocAttr];repeat refine AI ?_
  refine hK _ _ _ ?_;clear hK K;refine aG (b:=false) rfl (fun hb=>?_) (fun hb=>?_)
  · cases hb
  have hie:i=X.length:=by omega
  subst hie;clear hlt hb;rw[List.take_length]at hD;obtain rfl:D=A:=aF9 (by rw[hD,hA]);have hDl:=aQ5 hD;refine bK ?_;simp (maxSteps:=4000000) only[↓sP,sA,tyS,simprocAttr];clear hK K;repeat refine AI ?_
  refine hK _ _ _ ?_;clear hK K;refine aE fun K hK=>aD (by kernel_rfl) ?_;simp only[sR,simprocAttr];iterate 2
   (refine aC (g:=none) rfl rfl fun K' hK'=>?_;simp only[sH,↓sP,sA,tyS,simprocAttr,denilL_dg,denilL_Nd,denilL_Sp,cE];(repeat refine AI ?_);refine hK' _ _ ?_;clear hK' K')
  refine aC (g:=none) rfl rfl fun K' hK'=>?_;simp (maxSteps:=4000000) only[sH,↓sP,sA,tyS,simprocAttr,denilL_dg,denilL_Nd,denilL_Sp,cE];refine aX (args:=[_,_]) (xE D D (by omega)) ⟨rfl,rfl,rfl,rfl⟩ ?_;rintro u rfl;rw[beq_self_eq_true];repeat refine AI ?_
  refine hK' _ _ ?_;clear hK' K';refine aC (g:=none) rfl rfl fun K' hK'=>?_;simp (maxSteps:=4000000) only[sH,↓sP,sA,tyS,simprocAttr,denilL_dg,denilL_Nd,denilL_Sp,cE];repeat refine AI ?_
  refine hK' _ _ ?_;clear hK' K';iterate 3
   (refine aC (g:=some (108,true)) rfl rfl fun K' hK'=>?_;simp only[sH,↓sP,sA,tyS,simprocAttr,denilL_dg,denilL_Nd,denilL_Sp,cE];(repeat refine AI ?_);refine hK' _ _ ?_;clear hK' K')
  refine aC (g:=some (108,true)) rfl rfl fun K' hK'=>?_;simp (maxSteps:=4000000) only[sH,↓sP,sA,tyS,simprocAttr,denilL_dg,denilL_Nd,denilL_Sp,cE];refine aX (args:=[_]) (aC8 S (by omega)) ⟨rfl,rfl,rfl,rfl⟩ ?_;rintro u rfl;repeat refine AI ?_
  refine hK' _ _ ?_;clear hK' K';refine aC (g:=some (108,true)) rfl rfl fun K' hK'=>?_;simp (maxSteps:=4000000) only[sH,↓sP,sA,tyS,simprocAttr,denilL_dg,denilL_Nd,denilL_Sp,cE];refine aX (args:=[_,_]) (aG3 T hN (truL S) (by simp[truL];omega)) ⟨rfl,rfl,rfl,rfl⟩ ?_;rintro u rfl;rw[hv];repeat refine AI ?_
  refine hK' _ _ ?_;clear hK' K';refine aC (g:=some (108,true)) rfl rfl fun K' hK'=>?_;simp (maxSteps:=4000000) only[sH,↓sP,sA,tyS,simprocAttr,denilL_dg,denilL_Nd,denilL_Sp,cE];repeat refine AI ?_
  refine hK' _ _ ?_;clear hK' K';iterate 2
   (refine aC (g:=none) rfl rfl fun K' hK'=>?_;simp only[sH,↓sP,sA,tyS,simprocAttr,denilL_dg,denilL_Nd,denilL_Sp,cE];(repeat refine AI ?_);refine hK' _ _ ?_;clear hK' K')
  refine aC (g:=some (116,true)) rfl rfl fun K' hK'=>?_;simp (maxSteps:=4000000) only[sH,↓sP,sA,tyS,simprocAttr,denilL_dg,denilL_Nd,denilL_Sp,cE];refine jO (args:=[]) 0 aP9 rfl (by simp) ⟨rfl,rfl,rfl,rfl⟩ ?_;rintro u rfl;repeat refine AI ?_
  refine hK' _ _ ?_;clear hK' K';iterate 2
   (refine aC (g:=none) rfl rfl fun K' hK'=>?_;simp only[sH,↓sP,sA,tyS,simprocAttr,denilL_dg,denilL_Nd,denilL_Sp,cE];(repeat refine AI ?_);refine hK' _ _ ?_;clear hK' K')
  simp only[sE,↓reduceIte,simprocAttr];repeat refine AI ?_
  refine hK _ _ _ ?_;clear hK K;refine aJ ?_;simp (maxSteps:=4000000) only[aT,Tryz.results7,aR,aS,aQ,↓sP,sA,tyS,simprocAttr];exact lR [] (.bool true) rfl rfl (by simp) rfl
 replace hv:evalV T (truL S)=false:=by simpa using hv
 obtain rfl:=hnx hv;rw[hv];refine aE fun K hK=>aD (by kernel_rfl) ?_;simp (maxSteps:=4000000) only[↓sP,sA,tyS,simprocAttr];repeat refine AI ?_
 refine hK _ _ _ ?_;clear hK K;refine aE fun K hK=>?_;refine aE fun K hK=>aD (by kernel_rfl) ?_;simp (maxSteps:=4000000) only[↓sP,sA,tyS,simprocAttr];repeat refine AI ?_
 refine hK _ _ _ ?_;clear hK K;refine aP ?_;obtain rfl:A=[]:=aF9 (by rw[hA];rfl);refine eJ [] ?_;refine bR (α:=Unit) (fun _=>(fin [(4,.c (.slc (T.map Nd.cv))),(5,.c (.slc (S.map Sp.cv))),(6,.c (.slc (([]:List Ln).map Ln.cv))),(7,.c (.bool false)),(9,.c (.slc (([]:List Dig).map dg))),(10,.c (.slc (([]:List Dig).map dg))),(11,.c (.int .i64 0))],fob [(0,.tab tabs)])) 200 (fun _=>0) () (aI (by omega) (by simp[aY,fin_at,finA_at,upd_at,HV.men,HV.menL,HV.norm,HV.toC,HV.toCL,eF,fK,HO.close,HV.close,HV.closeL,CV.denil,CV.denilL,denilL_Nd,denilL_Sp,denilL_Ln,lY,denilL_dg]) (by simp[bB,fob_at,upd_at,none0_at,bN,HO.men,HV.men,HV.menL,HV.norm,HV.toC,HV.toCL,eF,fK,HO.close,HV.close,HV.closeL,CV.denil,CV.denilL,denilL_Nd,denilL_Sp,denilL_Ln,lY,denilL_dg])) ?_;rintro⟨⟩;refine aE fun K hK=>?_;refine aE fun K hK=>aD (by kernel_rfl) ?_;simp only[sR,simprocAttr];iterate 5
  (refine aC (g:=none) rfl rfl fun K' hK'=>?_;simp only[sH,↓sP,sA,tyS,simprocAttr,List.length_map,List.map_nil,List.length_nil,(show decide (((0:Nat):Int)<((0:Nat):Int))=false from rfl),(show decide ((0:Int)<0)=false from rfl)];(repeat refine AI ?_);refine hK' _ _ ?_;clear hK' K')
 refine aC (g:=some (36,true)) rfl rfl fun K' hK'=>?_;simp (maxSteps:=4000000) only[sH,↓sP,sA,tyS,simprocAttr,List.length_map,List.map_nil,List.length_nil,(show decide (((0:Nat):Int)<((0:Nat):Int))=false from rfl),(show decide ((0:Int)<0)=false from rfl)];repeat refine AI ?_
 refine hK' _ _ ?_;clear hK' K';refine aC (g:=none) rfl rfl fun K' hK'=>?_;simp (maxSteps:=4000000) only[sH,↓sP,sA,tyS,simprocAttr,List.length_map,List.map_nil,List.length_nil,(show decide (((0:Nat):Int)<((0:Nat):Int))=false from rfl),(show decide ((0:Int)<0)=false from rfl)];repeat refine AI ?_
 refine hK' _ _ ?_;clear hK' K';simp only[sE,↓reduceIte,simprocAttr];repeat refine AI ?_
 refine hK _ _ _ ?_;clear hK K;refine aG (b:=false) rfl (fun hb=>?_) (fun hb=>?_)
 · cases hb
 clear hb;refine bK ?_;simp (maxSteps:=4000000) only[↓sP,sA,tyS,simprocAttr];clear hK K;repeat refine AI ?_
 refine hK _ _ _ ?_;clear hK K;refine aE fun K hK=>aD (by kernel_rfl) ?_;simp only[sR,simprocAttr];iterate 2
  (refine aC (g:=none) rfl rfl fun K' hK'=>?_;simp only[sH,↓sP,sA,tyS,simprocAttr,denilL_dg,denilL_Nd,denilL_Sp,cE];(repeat refine AI ?_);refine hK' _ _ ?_;clear hK' K')
 refine aC (g:=none) rfl rfl fun K' hK'=>?_;simp (maxSteps:=4000000) only[sH,↓sP,sA,tyS,simprocAttr,denilL_dg,denilL_Nd,denilL_Sp,cE];refine aX (args:=[_,_]) (xE [] [] (by simp)) ⟨rfl,rfl,rfl,rfl⟩ ?_;rintro u rfl;rw[beq_self_eq_true];repeat refine AI ?_
 refine hK' _ _ ?_;clear hK' K';refine aC (g:=none) rfl rfl fun K' hK'=>?_;simp (maxSteps:=4000000) only[sH,↓sP,sA,tyS,simprocAttr,denilL_dg,denilL_Nd,denilL_Sp,cE];repeat refine AI ?_
 refine hK' _ _ ?_;clear hK' K';iterate 3
  (refine aC (g:=some (108,true)) rfl rfl fun K' hK'=>?_;simp only[sH,↓sP,sA,tyS,simprocAttr,denilL_dg,denilL_Nd,denilL_Sp,cE];(repeat refine AI ?_);refine hK' _ _ ?_;clear hK' K')
 refine aC (g:=some (108,true)) rfl rfl fun K' hK'=>?_;simp (maxSteps:=4000000) only[sH,↓sP,sA,tyS,simprocAttr,denilL_dg,denilL_Nd,denilL_Sp,cE];refine aX (args:=[_]) (aC8 S (by omega)) ⟨rfl,rfl,rfl,rfl⟩ ?_;rintro u rfl;repeat refine AI ?_
 refine hK' _ _ ?_;clear hK' K';refine aC (g:=some (108,true)) rfl rfl fun K' hK'=>?_;simp (maxSteps:=4000000) only[sH,↓sP,sA,tyS,simprocAttr,denilL_dg,denilL_Nd,denilL_Sp,cE];refine aX (args:=[_,_]) (aG3 T hN (truL S) (by simp[truL];omega)) ⟨rfl,rfl,rfl,rfl⟩ ?_;rintro u rfl;rw[hv];repeat refine AI ?_
 refine hK' _ _ ?_;clear hK' K';refine aC (g:=some (108,true)) rfl rfl fun K' hK'=>?_;simp (maxSteps:=4000000) only[sH,↓sP,sA,tyS,simprocAttr,denilL_dg,denilL_Nd,denilL_Sp,cE];repeat refine AI ?_
 refine hK' _ _ ?_;clear hK' K';iterate 2
  (refine aC (g:=none) rfl rfl fun K' hK'=>?_;simp only[sH,↓sP,sA,tyS,simprocAttr,denilL_dg,denilL_Nd,denilL_Sp,cE];(repeat refine AI ?_);refine hK' _ _ ?_;clear hK' K')
 refine aC (g:=some (116,true)) rfl rfl fun K' hK'=>?_;simp (maxSteps:=4000000) only[sH,↓sP,sA,tyS,simprocAttr,denilL_dg,denilL_Nd,denilL_Sp,cE];refine jO (args:=[]) 0 aP9 rfl (by simp) ⟨rfl,rfl,rfl,rfl⟩ ?_;rintro u rfl;repeat refine AI ?_
 refine hK' _ _ ?_;clear hK' K';iterate 2
  (refine aC (g:=none) rfl rfl fun K' hK'=>?_;simp only[sH,↓sP,sA,tyS,simprocAttr,denilL_dg,denilL_Nd,denilL_Sp,cE];(repeat refine AI ?_);refine hK' _ _ ?_;clear hK' K')
 simp only[sE,↓reduceIte,simprocAttr];repeat refine AI ?_
 refine hK _ _ _ ?_;clear hK K;refine aJ ?_;simp (maxSteps:=4000000) only[aT,Tryz.results7,aR,aS,aQ,↓sP,sA,tyS,simprocAttr];exact lR [] (.bool true) rfl rfl (by simp) rfl
set_option maxRecDepth 100000
theorem yN {W:World}(h:laidMetH Tryz.prog Rows.derivationDocumentsRow.laid W):Lib.TabIs Tryz.prog W "internal/strconv.uint64pow10" .u64 Lib.pow10Tab:=by
  rw[MakeChecks.laidMetH_plain _ _ _ (by kernel_rfl)]at h;have h2:=laidMet.filter (fun x=>x.1== "internal/strconv.uint64pow10") h;have e:(Rows.derivationDocumentsRow.laid.filter fun x=>x.1== "internal/strconv.uint64pow10")=[("internal/strconv.uint64pow10",Lib.tabData .u64 Lib.pow10Tab)]:=by kernel_rfl
  rw[e]at h2;exact Lib.tabIs_of_head aF1 (by kernel_rfl) Tryz.underlying199 Tryz.underlying135 (by kernel_rfl) (by kernel_rfl) h2
theorem iP (H:Type)(enc:TypeId×Value→H)(W:World)(args:Array Value)(ds gs:List (DataW H))(before:List MemPlace)
    (hL:laidMetH Tryz.prog Rows.derivationDocumentsRow.laid W)
    (hval: ∀(j:Nat) t v,Tryz.f7.params[j]? =some t→args[j]? =some v→Value.okWide Tryz.prog W .any 0 t v)
    (hW:DataW.Whole enc Tryz.prog Tryz.f7.params.toList Rows.derivationDocumentsSpec.vars false W args.toList ds gs before):
    Calls Tryz.prog 7 args W fun e W'=> ∃v,e= .returned v∧Rows.derivationDocumentsSpec.post enc Tryz.prog Tryz.f7 false true false false W args v W':=by
  refine bE5 (mm:=6) (tb:=4) (tabs:=tabs) (by kernel_rfl) cO7 aW1 rfl (by kernel_rfl) Tryz.underlying4 ?_ ?_ ?_ ?_ (fun j t v h1 h2=>?_) hW
  · rw[Tryz.params7]
    intro H ds h
    match ds,h with
    |[c0],_=>exact⟨rfl,rfl,rfl⟩
  · rw[Tryz.params7]
    intro t ht;simp only[List.mem_cons,List.not_mem_nil,or_false]at ht;rcases ht with rfl
    · exact⟨by kernel_rfl,of_decide_eq_true (by kernel_rfl)⟩
  · rw[Tryz.params7]
    intro cs hn hty
    match cs,hn,hty with
    |[c0],_,hty=>
      obtain⟨L,rfl,_,_⟩:=cE2 (hty 0 _ c0 rfl rfl);exact yM L
  · intro x hx
    simp only[tabs,List.mem_cons,List.not_mem_nil,or_false]at hx;rcases hx with rfl
    · exact yH aF1 (yN hL)
  · exact hval j t v h1 h2
open Go.ChangeShapes Go.WideShapes Go.ChangeAt Go.RowKit in
set_option maxRecDepth 100000 in
theorem jX (os:Os)(started:os.Started)(H:Type)(enc:TypeId×Value→H):
    ReturnsInHanded {} Tryz.checked os 7 .any (fun w args=>(Rows.derivationDocumentsSpec.pre enc Tryz.prog Tryz.f7 [] false w args∧laidMetH Tryz.prog Rows.derivationDocumentsRow.laid w)∧sizedMet enc Tryz.prog Tryz.f7 (OpenSpec.ofChange Rows.derivationDocumentsSpec) false w args)
      (Rows.derivationDocumentsSpec.post enc Tryz.prog Tryz.f7 false true false false):=by
  refine returnsInHanded_of_change_and (C:=Tryz.checked) (X:=fun w _=>laidMetH Tryz.prog Rows.derivationDocumentsRow.laid w) (fun _ _ _ hh h=>h.of_heap hh) own started (by kernel_rfl) Tryz.func7
    (ChangeSpec.witness_shaped (enc:=enc) (C:=Tryz.checked) (os:=os) (X:=fun w _=>laidMetH Tryz.prog Rows.derivationDocumentsRow.laid w) false (World.laidAll Tryz.prog os Rows.derivationDocumentsRow.laid) #[.slice none 0 0] 8 (World.laidAll_os _ _ _)
      (World.shaped_of_ZipB (by kernel_rfl) (by kernel_rfl)) (by kernel_rfl) (by kernel_rfl) (by kernel_rfl)
      (by rw[MakeChecks.laidMetH_plain _ _ _ (by kernel_rfl)];exact laidMet_laidAll _ (by kernel_rfl) (by kernel_rfl))) ?_
  intro W base args ds gs before hval hW _ _ hL _;exact iP H enc W args ds gs before hL (fun j t v h1 h2=>(hval j t v h1 h2)) hW
theorem lJ :Rows.DerivationDocumentsSaid:=
  OpenClaim.holds_of_wide 7 Tryz.f7 rfl rfl rfl rfl rfl rfl rfl ⟨rfl,rfl,rfl,rfl,rfl⟩ rfl rfl rfl rfl rfl (by kernel_rfl) Tryz.func7 (by kernel_rfl)
    (of_decide_eq_true (by kernel_rfl)) (by unfold Func.isWrapper;first|(rw[if_pos (by decide+kernel)];kernel_rfl)|(rw[if_neg (by decide+kernel)];exact⟨rfl,rfl⟩))
    (fun os started H enc _=>jX os started H enc)
theorem derivationDocuments_said :Rows.DerivationDocumentsCardSaid:=
  Claim7.holds_tied_plain_at .later [] [.data,.data,.data,.data,.pinned] true (true,"21008691179fbc5e685a549e14076cf73832ee6f24894afe5decf201da899196") false lJ (fun _ h=>by cases h) (by kernel_rfl) (fun _ h=>by cases h) derivationDocuments_row_tie rfl ⟨rfl,rfl⟩ (by kernel_rfl) rfl
    (fun f fn hf hfn=>by
      obtain rfl:f=7:=Option.some.inj ((show Tryz.prog.funcNamed "admission/admissionlaw31.DerivationDocuments" =some 7 by kernel_rfl).symm.trans hf)|>.symm;obtain rfl:fn=Tryz.f7:=(Option.some.inj (Tryz.func7.symm.trans hfn)).symm;exact⟨by kernel_rfl,fun j t ht=>by
        rw[Tryz.params7]at ht;have hm:t∈[22]:=by simpa using Array.mem_of_getElem? ht
        have hall:([22].all fun u=>!Tryz.prog.wantsStandIn u)=true:=by kernel_rfl
        exact(show Tryz.prog.wantsStandIn t=false by simpa using List.all_eq_true.1 hall t hm)⟩)
    (by kernel_rfl)
#print axioms derivationDocuments_said
end Go.Proofs.YthedbjfipmkpiaaGreatDoor
