/- Part of a proof: walks of functions of the program, by contracts, and the rules they use. By an AI agent. -/
import Derived.Test.YthedbjfipmkpiaaGreatDoorHdUl
import Derived.Test.YthedbjfipmkpiaaGreatDoorHdSb
import Derived.Test.YthedbjfipmkpiaaGreatDoorHdU5
import Derived.Test.YthedbjfipmkpiaaGreatDoorPl28g
set_option linter.unusedSimpArgs false
set_option linter.unusedVariables false
set_option linter.defProp false
namespace Go.Proofs.YthedbjfipmkpiaaGreatDoor
open Go Go.Hl Go.Pl
set_option maxRecDepth 10000
set_option maxHeartbeats 4000000
def cO3 (l:List Nd)(S:List Sp)(f i:Nat)(W:List Ln)(m:Nat)(r:HV)(os':List HO):Prop:=
 ∃(W':List Ln) (m':Nat),r= .tup [.c (.int .i64 (if dR l (truL S) i then(m':Int)-1 else 0)),.c (.bool (dR l (truL S) i))]∧os'=osP l S W' m'∧m'≤W'.length∧W'.length≤W.length+(aft l i-i)∧W'.take m'=if dR l (truL S) i then prv l S f i (W.take m)else W.take m
theorem bW4 (n:Nat)(a b:CV):HV.ren (sub [0,1] n) (.tup [.c a,.c b])= .tup [.c a,.c b]:=rfl
variable {ob:Ob}
theorem aG6 (id n sz m:Nat){cl:List Nat}(h:id∉cl):(cD id n sz m).close ob cl=cD id n sz m:=by
 unfold cD;split<;>simp[HV.close,h]
theorem xU {l:List Nd}(ht:IsTree l){i:Nat}(hi:i<l.length){j:Nat}: ∀d,j+d≤l[i].c.toNat→cZ l j (i+1)≤cZ l (j+d) (i+1)
 |0,_=>Nat.le_refl _
 |d+1,h=>by
  have h1:=xU ht hi (j:=j) d (by omega);have h2:=(gQ ht (jL ht hi (k:=j+d) (by omega))).1;rw[←Nat.add_assoc,eG];omega
theorem aC3 {l:List Nd}(ht:IsTree l){i:Nat}(hi:i<l.length){j:Nat}(h:j≤l[i].c.toNat):cZ l j (i+1)≤aft l i:=by
 have h1:=xU ht hi (j:=j) (l[i].c.toNat-j) (by omega);rw[show j+(l[i].c.toNat-j)=l[i].c.toNat from by omega,nT ht hi]at h1;exact h1
theorem bB4 {l:List Nd}{S:List Sp}{f i:Nat}{out:List Ln}: ∀j,(iW l S f i j out).2.length≤j
 |0=>by simp[sJ]
 |j+1=>by
  have h1:=bB4 (l:=l) (S:=S) (f:=f) (i:=i) (out:=out) j;rw[fQ,pF];split
  · simp only[List.length_append,List.length_cons,List.length_nil];omega
  omega
structure PvSt (l:List Nd)(S:List Sp)(g i:Nat)(W:List Ln)(m j:Nat)(W':List Ln)(m':Nat)(F:List Int):Prop where
 le:m'≤W'.length
 len:W'.length+(i+1)≤W.length+cZ l j (i+1)
 out:W'.take m'=(iW l S g i j (W.take m)).1
 fr:F=(iW l S g i j (W.take m)).2
theorem aC4 {l:List Nd}{S:List Sp}{g i:Nat}{out:List Ln}: ∀{j:Nat} (k:Nat),(iW l S g i j out).2.length=wantN (l.getD i nd0)→iW l S g i (j+k) out=iW l S g i j out
 |j,0,_=>rfl
 |j,k+1,h=>by
  have ih:=aC4 (l:=l) (S:=S) (g:=g) (i:=i) (out:=out) k h;rw[←Nat.add_assoc,fQ,ih,pF,if_neg (fun hc=>by omega)]
theorem bW5 (l:List Nd)(htb:dZ l=true)(hn: ∀n∈l,n.q.t.length<2^63)(S:List Sp)(hS:S.length<2^40)(hd: ∀x∈S,x.d.length<2^42)(f:Nat): ∀(W:List Ln) (m i:Nat),i<l.length→l.length-i≤f→m≤W.length→W.length+(aft l i-i)<2^39→
  HGe Tryz.prog 37 [.ptr 0 0,.c (.int .i64 i)] (osP l S W m) (cO3 l S f i W m):=by
 induction f using Nat.strongRecOn with
 |ind f ih=>?_
 intro W m i hi hf hm hW;refine bD (args:=[.ptr 0 0,.c (.int .i64 i)]) Tryz.func37 rfl (by kernel_rfl) (eX rfl (by simp[pvb,dU,HO.men,HV.men,HV.menL,bO]) (by simp[HV.menL,HV.men])) (Nat.le_of_ble_eq_true rfl) ?_;show Hw _ _ 2 _ _ _ (lst _) 2;rw[bW2];have ht:=gC htb;have hgd:l.getD i nd0=l[i]:=qL hi;have haf:=gQ ht hi;obtain⟨g,rfl⟩: ∃g,f=g+1:=⟨f-1,by omega⟩;refine aE fun K hK=>aD (by kernel_rfl) ?_;simp (maxSteps:=4000000) only[↓sP,sA,tyS,simprocAttr];repeat refine AI ?_
 refine hK _ _ _ ?_;clear hK K;refine aE fun K hK=>aD (by kernel_rfl) ?_;simp only[sR,simprocAttr];iterate 9
  (refine aC (g:=none) rfl rfl fun K' hK'=>?_;simp only[sH,↓sP,sA,tyS,simprocAttr,pvb,aZ,aU,aO,cJ,Int.natCast_nonneg,Int.ofNat_lt,hi,bA hi];(repeat refine AI ?_);refine hK' _ _ ?_;clear hK' K')
 simp only[sE,↓reduceIte,simprocAttr];repeat refine AI ?_
 refine hK _ _ _ ?_;clear hK K;refine aE fun K hK=>?_;refine aE fun K hK=>aD (by kernel_rfl) ?_;simp (maxSteps:=4000000) only[↓sP,sA,tyS,simprocAttr];repeat refine AI ?_
 refine hK _ _ _ ?_;clear hK K;refine aG (b:=(l[i].k==1)) rfl (fun hb=>?_) (fun hb=>?_)
 ·
  have hk:l[i].k=1:=by simpa using hb
  have hv:dR l (truL S) i=(S.getD (lv (l.take i)) sp0).h:=by rw[vU hi hk,aK8]
  clear hb;refine aE fun K hK=>aD (by kernel_rfl) ?_;simp only[sR,simprocAttr];iterate 2
   (refine aC (g:=none) rfl rfl fun K' hK'=>?_;simp only[sH,↓sP,sA,tyS,simprocAttr];(repeat refine AI ?_);refine hK' _ _ ?_;clear hK' K')
  refine aC (g:=none) rfl rfl fun K' hK'=>?_;simp (maxSteps:=4000000) only[sH,↓sP,sA,tyS,simprocAttr];refine fG [0,1] (bW3 l htb S hS hd W m i hm (by omega) hi hk) rfl ⟨(by rw[uS];rfl),rfl,trivial⟩ (by simp) (by simp) ⟨rfl,rfl,rfl,rfl⟩ (by simp[dU,HO.men,HV.men,HV.menL,bO]) (by simp[HV.menL,HV.men]) ?_;rintro r os' ⟨rfl,hos⟩;obtain⟨W',m',hos2,g1,g2,g3,g4⟩: ∃(W':List Ln) (m':Nat),os'=osP l S W' m'∧(if(S.getD (lv (l.take i)) sp0).h then(m:Int)else 0)=(if dR l (truL S) i then(m':Int)-1 else 0)∧m'≤W'.length∧W'.length≤W.length+(aft l i-i)∧W'.take m'=if dR l (truL S) i then prv l S (g+1) i (W.take m)else W.take m:=by
   rw[hv];cases hh:(S.getD (lv (l.take i)) sp0).h with
   |true=>
    rw[hh]at hos;refine⟨_,_,hos,by simp,by rw[jV hm];omega,by rw[jV hm];omega,?_⟩;rw[tC hm,if_pos rfl,qK (by rw[hgd];exact hk)]
   |false=>
    rw[hh]at hos;exact⟨_,_,hos,by simp,hm,by omega,by simp⟩
  subst hos2;rw[uR,bW4];repeat refine AI ?_
  refine hK' _ _ ?_;clear hK' K';iterate 4
   (refine aC (g:=none) rfl rfl fun K' hK'=>?_;simp only[sH,↓sP,sA,tyS,simprocAttr];(repeat refine AI ?_);refine hK' _ _ ?_;clear hK' K')
  simp only[sE,↓reduceIte,simprocAttr];repeat refine AI ?_
  refine hK _ _ _ ?_;clear hK K;refine aJ ?_;simp (maxSteps:=4000000) only[aT,Tryz.results37,aR,aS,aQ,↓sP,sA,tyS,simprocAttr];exact jW (W:=W') (m:=m') rfl rfl rfl ⟨W',m',by rw[←g1,hv];rfl,rfl,g2,g3,g4⟩
 have hk:l[i].k≠1:=by simpa using hb
 clear hb;have hvd:=aT0 ht S hi hk;have hnb:=ht.node _ (List.getElem_mem hi);obtain⟨c1,c2,c3,c4⟩:=gF hnb;have hkn:l[i].k=2∨l[i].k=3∨(l[i].k=4∧1≤l[i].n):=by
  unfold dE inB at hnb;grind
 have hc1:=c4 hk;refine aK ?_;simp (maxSteps:=4000000) only[↓sP,sA,tyS,simprocAttr];repeat refine AI ?_
 refine hK _ _ _ ?_;clear hK K;refine aE fun K hK=>eW mixed (by kernel_rfl) (by kernel_rfl) (by kernel_rfl) ?_;simp only[sR,simprocAttr];iterate 4
  (refine aC (g:=none) rfl rfl fun K' hK'=>?_;simp only[sH,↓sP,sA,tyS,simprocAttr];(repeat refine AI ?_);refine hK' _ _ ?_;clear hK' K')
 simp only[sE,↓reduceIte,simprocAttr];repeat refine AI ?_
 refine hK _ _ _ ?_;clear hK K;refine aE fun K hK=>?_;have key: ∀fr ob nx,Fits 2 fr ob (fin [(0,.ptr 0 0),(1,.c (.int .i64 i)),(7,.c (.int .i64 (fW l[i]))),(8,.c (.int .i64 (wantN l[i]:Nat)))]) (fob [(0,.box 80 (pvb l S (cD 1 W.length 4 m))),(1,.row 41 4 (W.map Ln.cv))]) 100→K fr ob nx:=by
  rintro fr ob nx hf;refine hK _ _ _ (bX hf ?_);clear hf hK K;refine aE fun K hK=>?_;have key: ∀fr ob nx,Fits 2 fr ob (fin [(0,.ptr 0 0),(1,.c (.int .i64 i)),(7,.c (.int .i64 (fW l[i]))),(8,.c (.int .i64 (wantN l[i]:Nat))),(9,.c (.int .i64 m))]) (fob [(0,.box 80 (pvb l S (cD 1 W.length 4 m))),(1,.row 41 4 (W.map Ln.cv))]) 200→K fr ob nx:=by
   rintro fr ob nx hf;refine hK _ _ _ (bX hf ?_);clear hf hK K;refine aE fun K hK=>aD (by kernel_rfl) ?_;simp (maxSteps:=4000000) only[↓sP,sA,tyS,simprocAttr];repeat refine AI ?_
   refine hK _ _ _ ?_;clear hK K;refine aE fun K hK=>?_;have key: ∀(W':List Ln) (m':Nat) (F:List Int) fr ob nx,PvSt l S g i W m l[i].c.toNat W' m' F→Fits 2 fr ob (fin [(0,.ptr 0 0),(1,.c (.int .i64 i)),(7,.c (.int .i64 (fW l[i]))),(8,.c (.int .i64 (wantN l[i]:Nat))),(9,.c (.int .i64 m)),(10,.own 236 F.length)]) (fob [(0,.box 80 (pvb l S (cD 1 W'.length 4 m'))),(1,.row 41 4 (W'.map Ln.cv)),(236,.row 3 1 (F.map (CV.int .i64)))]) 30000→K fr ob nx:=by
    rintro W' m' F fr ob nx hst hf;refine hK _ _ _ (bX hf ?_);clear hf hK K;have q1:=hst.le;have q2:=hst.len;have q3:=hst.out;have q4:=hst.fr;rw[nT ht hi]at q2;have q5:=vW l S g i (W.take m) l[i].c.toNat;rw[←q4,hgd]at q5;obtain⟨L,q6⟩:=bU3 l S g i l[i].c.toNat (W.take m);have hml:(W.take m).length=m:=by simp;omega
    have hm':m'=m+L.length:=by
     have h1:=congrArg List.length (q3.trans q6);rw[List.length_take,List.length_append,hml]at h1;omega
    have hWt:W'.take m=W.take m:=by
     have h1:(W'.take m').take m=(W.take m++L).take m:=by rw[q3.trans q6]
     rw[List.take_take,Nat.min_eq_left (by omega),List.take_append_of_le_length (by omega),List.take_take,Nat.min_self]at h1;exact h1
    refine aE fun K hK=>?_;refine aE fun K hK=>aD (by kernel_rfl) ?_;simp only[sR,simprocAttr];iterate 4
     (refine aC (g:=none) rfl rfl fun K' hK'=>?_;simp only[sH,↓sP,sA,tyS,simprocAttr];(repeat refine AI ?_);refine hK' _ _ ?_;clear hK' K')
    simp only[sE,↓reduceIte,simprocAttr];repeat refine AI ?_
    refine hK _ _ _ ?_;clear hK K;refine aG (b:=decide ((F.length:Int)<(wantN l[i]:Nat))) rfl (fun hb=>?_) (fun hb=>?_)
    ·
     have hvf:dR l (truL S) i=false:=by
      rw[hvd];have:(F.length:Int)<(wantN l[i]:Nat):=of_decide_eq_true hb;simp;omega
     clear hb;by_cases hmW:m'=W'.length
     ·
      refine aE fun K hK=>cK (by kernel_rfl) ?_;simp only[sR,simprocAttr];iterate 6
       (refine bF (g:=none) rfl rfl fun K' hK'=>?_;simp only[sH,↓sP,sA,tyS,simprocAttr,pvb,hmW,cB,aZ,aU,aO,List.length_map,Int.toNat_natCast];(repeat refine AI ?_);refine hK' _ _ ?_;clear hK' K')
      refine cY (g:=none) rfl rfl fun K' hK'=>?_;simp (maxSteps:=4000000) only[sN,↓hopH.eq_def,sH,↓sP,sA,tyS,simprocAttr,pvb,hmW,cB,aZ,aU,aO,List.length_map,Int.toNat_natCast];repeat refine AI ?_
      refine hK' _ _ ?_;clear hK' K';iterate 3
       (refine bF (g:=none) rfl rfl fun K' hK'=>?_;simp only[sH,↓sP,sA,tyS,simprocAttr,pvb,hmW,cB,aZ,aU,aO,List.length_map,Int.toNat_natCast];(repeat refine AI ?_);refine hK' _ _ ?_;clear hK' K')
      simp only[sE,↓reduceIte,simprocAttr];repeat refine AI ?_
      refine hK _ _ _ ?_;clear hK K;refine aE fun K hK=>aD (by kernel_rfl) ?_;simp (maxSteps:=4000000) only[↓sP,sA,tyS,simprocAttr];repeat refine AI ?_
      refine hK _ _ _ ?_;clear hK K;refine aJ ?_;simp (maxSteps:=4000000) only[aT,Tryz.results37,aR,aS,aQ,↓sP,sA,tyS,simprocAttr];exact jW (W:=W') (m:=m) rfl rfl rfl ⟨W',m,by rw[hvf];rfl,rfl,by omega,by omega,by rw[hvf];exact hWt⟩
     refine aE fun K hK=>cK (by kernel_rfl) ?_;simp only[sR,simprocAttr];iterate 6
      (refine bF (g:=none) rfl rfl fun K' hK'=>?_;simp only[sH,↓sP,sA,tyS,simprocAttr,pvb,bW hmW,aZ,aU,aO,List.length_map,Int.toNat_natCast,Int.toNat_zero];(repeat refine AI ?_);refine hK' _ _ ?_;clear hK' K')
     refine cY (g:=none) rfl rfl fun K' hK'=>?_;simp (maxSteps:=4000000) only[sN,↓hopH.eq_def,sH,↓sP,sA,tyS,simprocAttr,pvb,bW hmW,aZ,aU,aO,List.length_map,Int.toNat_natCast,Int.toNat_zero];repeat refine AI ?_
     refine hK' _ _ ?_;clear hK' K';iterate 3
      (refine bF (g:=none) rfl rfl fun K' hK'=>?_;simp only[sH,↓sP,sA,tyS,simprocAttr,pvb,bW hmW,aZ,aU,aO,List.length_map,Int.toNat_natCast,Int.toNat_zero];(repeat refine AI ?_);refine hK' _ _ ?_;clear hK' K')
     simp only[sE,↓reduceIte,simprocAttr];repeat refine AI ?_
     refine hK _ _ _ ?_;clear hK K;refine aE fun K hK=>aD (by kernel_rfl) ?_;simp (maxSteps:=4000000) only[↓sP,sA,tyS,simprocAttr];repeat refine AI ?_
     refine hK _ _ _ ?_;clear hK K;refine aJ ?_;simp (maxSteps:=4000000) only[aT,Tryz.results37,aR,aS,aQ,↓sP,sA,tyS,simprocAttr];have hmn:m≠W'.length:=by omega
     exact jW (W:=W') (m:=m) rfl (by rw[bW hmn];rfl) rfl ⟨W',m,by rw[hvf];rfl,rfl,by omega,by omega,by rw[hvf];exact hWt⟩
    have hge:wantN l[i]≤F.length:=by
     have h1:=of_decide_eq_false hb;omega
    have hvt:dR l (truL S) i=true:=by
     rw[hvd];simp;omega
    clear hb;refine aK ?_;simp (maxSteps:=4000000) only[↓sP,sA,tyS,simprocAttr];repeat refine AI ?_
    refine hK _ _ _ ?_;clear hK K;refine eJ [236] (bX (fr2:=fin [(0,.ptr 0 0),(1,.c (.int .i64 i)),(7,.c (.int .i64 (fW l[i]))),(10,.c (.slc (F.map (CV.int .i64))))]) (ob2:=fob [(0,.box 80 (pvb l S (cD 1 W'.length 4 m'))),(1,.row 41 4 (W'.map Ln.cv))]) (nx2:=31000) (aI (by omega) (by simp[aY,eF,fin_at,finA_at,upd_at,fob_at,HV.close,HV.closeL,CV.denil,CV.denilL,denilL_int,HV.men,HV.menL,HV.norm,HV.toC,HV.toCL]) (by simp[bB,fK,fob_at,upd_at,none0_at,bN,HO.close,HV.close,HV.closeL,pvb,aG6,CV.denil,denilL_Nd,cJ,denilL_Sp,pU,aO,bO,HO.men,HV.men,HV.menL,HV.norm,HV.toC,HV.toCL])) ?_);refine aE fun K hK=>aD (by kernel_rfl) ?_;simp only[sR,simprocAttr];iterate 5
     (refine aC (g:=none) rfl rfl fun K' hK'=>?_;simp only[sH,↓sP,sA,tyS,simprocAttr,pvb,aZ,aU,aO,denilL_int];(repeat refine AI ?_);refine hK' _ _ ?_;clear hK' K')
    refine aC (g:=none) rfl rfl fun K' hK'=>?_;simp (maxSteps:=4000000) only[sH,↓sP,sA,tyS,simprocAttr,pvb,aZ,aU,aO,denilL_int];refine fG [0,1] (aG4 l S W' m' ⟨fW l[i],i,[],F⟩ q1 (by omega)) rfl ⟨(by rw[uS];rfl),rfl,trivial⟩ (by simp) (by simp) ⟨rfl,rfl,rfl,rfl⟩ (by simp[dU,HO.men,HV.men,HV.menL,bO]) (by simp[HV.menL,HV.men]) ?_;rintro r os' ⟨rfl,rfl⟩;rw[uR,cF8];repeat refine AI ?_
    refine hK' _ _ ?_;clear hK' K';iterate 2
     (refine aC (g:=none) rfl rfl fun K' hK'=>?_;simp only[sH,↓sP,sA,tyS,simprocAttr,pvb,aZ,aU,aO,denilL_int];(repeat refine AI ?_);refine hK' _ _ ?_;clear hK' K')
    simp only[sE,↓reduceIte,simprocAttr];repeat refine AI ?_
    refine hK _ _ _ ?_;clear hK K;refine aJ ?_;simp (maxSteps:=4000000) only[aT,Tryz.results37,aR,aS,aQ,↓sP,sA,tyS,simprocAttr];refine jW (W:=nI W' m' ⟨fW l[i],i,[],F⟩) (m:=m'+1) rfl rfl rfl ⟨_,m'+1,by rw[hvt];simp[CV.denil],rfl,by rw[jV q1];omega,by rw[jV q1];omega,?_⟩;rw[tC q1,hvt,if_pos rfl,nS (by rw[hgd];exact hk),hgd,←q4,←q3]
   refine aE fun K hK=>aD (by kernel_rfl) ?_;simp only[sR,simprocAttr];iterate 5
    (refine aC (g:=none) rfl rfl fun K' hK'=>?_;simp only[sH,↓sP,sA,tyS,simprocAttr,pvb,aZ,aU,aO];(repeat refine AI ?_);refine hK' _ _ ?_;clear hK' K')
   refine aC (g:=none) rfl rfl fun K' hK'=>?_;simp (maxSteps:=4000000) only[sH,↓sP,sA,tyS,simprocAttr,pvb,aZ,aU,aO];refine aX (args:=[_,_]) (aO7 l hn i) ⟨rfl,rfl,rfl,rfl⟩ ?_;rintro u rfl;have hck:sI l i=eH l l[i].c.toNat (i+1):=aB9 htb hi;rw[hck];repeat refine AI ?_
   refine hK' _ _ ?_;clear hK' K';iterate 2
    (refine aC (g:=none) rfl rfl fun K' hK'=>?_;simp only[sH,↓sP,sA,tyS,simprocAttr,pvb,aZ,aU,aO];(repeat refine AI ?_);refine hK' _ _ ?_;clear hK' K')
   simp only[sE,↓reduceIte,simprocAttr];repeat refine AI ?_
   refine hK _ _ _ ?_;clear hK K;refine aP ?_;refine jJ 10 0 3 1 rfl rfl rfl rfl ?_;refine bR (α:={y:Nat×List Ln×Nat×List Int//y.1≤l[i].c.toNat∧PvSt l S g i W m y.1 y.2.1 y.2.2.1 y.2.2.2}) (fun y=>(fin [(0,.ptr 0 0),(1,.c (.int .i64 i)),(7,.c (.int .i64 (fW l[i]))),(8,.c (.int .i64 (wantN l[i]:Nat))),(9,.c (.int .i64 m)),(10,.own 236 y.1.2.2.2.length),(50,.c (.slc ((eH l l[i].c.toNat (i+1)).map iC))),(51,.c (.int .i64 (l[i].c.toNat:Nat))),(52,.c (.int .i64 y.1.1))],fob [(0,.box 80 (pvb l S (cD 1 y.1.2.1.length 4 y.1.2.2.1))),(1,.row 41 4 (y.1.2.1.map Ln.cv)),(236,.row 3 1 (y.1.2.2.2.map (CV.int .i64)))])) 20000 (fun y=>l[i].c.toNat-y.1.1) ⟨(0,W,m,[]),Nat.zero_le _,⟨hm,by simp[cZ],by rw[sJ],by rw[sJ]⟩⟩ (aI (by omega) (by simp[aY,fin_at,finA_at,upd_at,HV.men,HV.menL,HV.norm,HV.toC,HV.toCL,pvb,bO,aO,kZ]) (by simp[bB,fob_at,upd_at,none0_at,bN,HO.men,HV.men,HV.menL,HV.norm,HV.toC,HV.toCL,pvb,bO,aO,kZ])) ?_;rintro⟨⟨j,W',m',F⟩,hj,hst⟩;simp only at hj hst⊢;have q1:=hst.le;have q2:=hst.len;have q3:=hst.out;have q4:=hst.fr;have hkl:(eH l l[i].c.toNat (i+1)).length=l[i].c.toNat:=kZ l _ _;refine aE fun K hK=>aD (by kernel_rfl) ?_;simp (maxSteps:=4000000) only[↓sP,sA,tyS,simprocAttr];repeat refine AI ?_
   refine hK _ _ _ ?_;clear hK K;refine aE fun K hK=>?_;refine aG (b:=decide ((j:Int)<(l[i].c.toNat:Nat))) rfl (fun hb=>?_) (fun hb=>?_)
   ·
    have hlt:j<l[i].c.toNat:=by have:=of_decide_eq_true hb;omega
    have hltk:j<(eH l l[i].c.toNat (i+1)).length:=by rw[hkl];exact hlt
    have hel:(eH l l[i].c.toNat (i+1))[j]=cZ l j (i+1):=by
     have h1:=pE l l[i].c.toNat (i+1) (j+1) hlt;rw[gY,List.take_succ_eq_append_getElem hltk,pE l _ _ _ hj]at h1;simpa using h1
    clear hb;have hkb:=jL ht hi hlt;have hks:=gZ ht hi j (by omega);have hka:=gQ ht hkb;have hkn:=aC3 ht hi (j:=j+1) (by omega);rw[eG]at hkn;have hF1:=bB4 (l:=l) (S:=S) (f:=g) (i:=i) (out:=W.take m) j;rw[←q4]at hF1;have hF2:F.length+1≤maxLen:=by simp only[maxLen];omega
    have hF3:(F.length+1)*8≤140737488355328:=by omega
    refine aK ?_;simp (maxSteps:=4000000) only[↓sP,sA,tyS,simprocAttr];repeat refine AI ?_
    refine hK _ _ _ ?_;clear hK K;refine aE fun K hK=>?_;refine aP ?_;refine aE fun K hK=>aD (by kernel_rfl) ?_;simp (maxSteps:=4000000) only[↓sP,sA,tyS,simprocAttr,Int.natCast_nonneg,Int.ofNat_lt,hltk,bA hltk,hel,iC];repeat refine AI ?_
    refine hK _ _ _ ?_;clear hK K;refine aE fun K hK=>?_;refine aE fun K hK=>aD (by kernel_rfl) ?_;simp only[sR,simprocAttr];iterate 4
     (refine aC (g:=none) rfl rfl fun K' hK'=>?_;simp only[sH,↓sP,sA,tyS,simprocAttr,List.length_map];(repeat refine AI ?_);refine hK' _ _ ?_;clear hK' K')
    simp only[sE,↓reduceIte,simprocAttr];repeat refine AI ?_
    refine hK _ _ _ ?_;clear hK K;refine aG (b:=((F.length:Int)==(wantN l[i]:Nat))) rfl (fun hb=>?_) (fun hb=>?_)
    ·
     refine bK ?_;simp (maxSteps:=4000000) only[↓sP,sA,tyS,simprocAttr];clear hK K;clear hK K;have hfl:F.length=wantN l[i]:=by
      have:(F.length:Int)=(wantN l[i]:Nat):=by simpa using hb
      omega
     have hsp:=aC4 (l:=l) (S:=S) (g:=g) (i:=i) (out:=W.take m) (j:=j) (l[i].c.toNat-j) (by rw[←q4,hgd];exact hfl);rw[show j+(l[i].c.toNat-j)=l[i].c.toNat from by omega]at hsp;refine key W' m' F _ _ _ ⟨q1,?_,by rw[hsp];exact q3,by rw[hsp];exact q4⟩ (aI (by omega) (by simp[aY,fin_at,finA_at,upd_at,HV.men,HV.menL,HV.norm,HV.toC,HV.toCL,pvb,bO,aO]) (by simp[bB,fob_at,upd_at,none0_at,bN,HO.men,HV.men,HV.menL,HV.norm,HV.toC,HV.toCL,pvb,bO,aO]));have hkf:=aC3 ht hi hj;rw[nT ht hi];omega
    have hwn: ¬(F.length:Int)=(wantN l[i]:Nat):=by simpa using hb
    refine aK ?_;simp (maxSteps:=4000000) only[↓sP,sA,tyS,simprocAttr];repeat refine AI ?_
    refine hK _ _ _ ?_;clear hK K;refine aE fun K hK=>aD (by kernel_rfl) ?_;simp only[sR,simprocAttr];iterate 2
     (refine aC (g:=none) rfl rfl fun K' hK'=>?_;simp only[sH,↓sP,sA,tyS,simprocAttr];(repeat refine AI ?_);refine hK' _ _ ?_;clear hK' K')
    refine aC (g:=none) rfl rfl fun K' hK'=>?_;simp (maxSteps:=4000000) only[sH,↓sP,sA,tyS,simprocAttr];refine fG [0,1] (ih g (by omega) W' m' (cZ l j (i+1)) hkb (by omega) q1 (by omega)) rfl ⟨(by rw[uS];rfl),rfl,trivial⟩ (by simp) (by simp) ⟨rfl,rfl,rfl,rfl⟩ (by simp[dU,HO.men,HV.men,HV.menL,bO]) (by simp[HV.menL,HV.men]) ?_;rintro r os' ⟨W2,m2,rfl,rfl,g2,g3,g4⟩;rw[uR,bW4];repeat refine AI ?_
    refine hK' _ _ ?_;clear hK' K';iterate 5
     (refine aC (g:=none) rfl rfl fun K' hK'=>?_;simp only[sH,↓sP,sA,tyS,simprocAttr];(repeat refine AI ?_);refine hK' _ _ ?_;clear hK' K')
    simp only[sE,↓reduceIte,simprocAttr];repeat refine AI ?_
    refine hK _ _ _ ?_;clear hK K;refine aE fun K hK=>aD (by kernel_rfl) ?_;simp (maxSteps:=4000000) only[↓sP,sA,tyS,simprocAttr];repeat refine AI ?_
    refine hK _ _ _ ?_;clear hK K;refine aG (b:=dR l (truL S) (cZ l j (i+1))) rfl (fun hb=>?_) (fun hb=>?_)
    ·
     have hkv:dR l (truL S) (cZ l j (i+1))=true:=hb;have hfl:F.length<wantN l[i]:=by
      have h1:=vW l S g i (W.take m) j;rw[←q4,hgd]at h1;have:F.length≠wantN l[i]:=fun e=>hwn (by rw[e]);omega
     have hsp:iW l S g i (j+1) (W.take m)=(prv l S g (cZ l j (i+1)) (W'.take m'),F++[((prv l S g (cZ l j (i+1)) (W'.take m')).length:Int)-1]):=by
      rw[fQ,pF,←q3,←q4,if_pos ⟨by rw[hgd];exact hfl,hkv⟩]
     rw[if_pos hkv]at g4;have hm2:(prv l S g (cZ l j (i+1)) (W'.take m')).length=m2:=by rw[←g4,List.length_take];omega
     rw[hm2]at hsp;refine aD (by kernel_rfl) ?_;simp only[sR,simprocAttr];iterate 5
      (refine aC (g:=none) rfl rfl fun K' hK'=>?_;simp only[sH,↓sP,sA,tyS,simprocAttr,List.length_map,hF2,hF3];(repeat refine AI ?_);refine hK' _ _ ?_;clear hK' K')
     simp only[sE,↓reduceIte,simprocAttr];repeat refine AI ?_
     refine hK _ _ _ ?_;clear hK K;refine aD (by kernel_rfl) ?_;simp (maxSteps:=4000000) only[↓sP,sA,tyS,simprocAttr,IntWalk.i64_in _ (show-9223372036854775808≤(j:Int)+1∧(j:Int)+1≤9223372036854775807 by omega)];refine⟨⟨(j+1,W2,m2,F++[(m2:Int)-1]),hlt,⟨g2,?_,by rw[hsp];exact g4,by rw[hsp]⟩⟩,(aI (by omega) (by simp[aY,fin_at,finA_at,upd_at,HV.men,HV.menL,HV.norm,HV.toC,HV.toCL,pvb,bO,aO,List.map_append,List.length_append,List.length_map,hkv]) (by simp[bB,fob_at,upd_at,none0_at,bN,HO.men,HV.men,HV.menL,HV.norm,HV.toC,HV.toCL,pvb,bO,aO,List.map_append,List.length_append,List.length_map,hkv])),?_⟩
     · show W2.length+(i+1)≤W.length+cZ l (j+1) (i+1);rw[eG];omega
     show l[i].c.toNat-(j+1)<l[i].c.toNat-j;omega
    have hkv:dR l (truL S) (cZ l j (i+1))=false:=hb;refine aK ?_;simp (maxSteps:=4000000) only[↓sP,sA,tyS,simprocAttr];repeat refine AI ?_
    refine hK _ _ _ ?_;clear hK K;refine aD (by kernel_rfl) ?_;simp (maxSteps:=4000000) only[↓sP,sA,tyS,simprocAttr,IntWalk.i64_in _ (show-9223372036854775808≤(j:Int)+1∧(j:Int)+1≤9223372036854775807 by omega)];refine⟨⟨(j+1,W2,m2,F),hlt,⟨g2,?_,?_,?_⟩⟩,(aI (by omega) (by simp[aY,fin_at,finA_at,upd_at,HV.men,HV.menL,HV.norm,HV.toC,HV.toCL,pvb,bO,aO]) (by simp[bB,fob_at,upd_at,none0_at,bN,HO.men,HV.men,HV.menL,HV.norm,HV.toC,HV.toCL,pvb,bO,aO])),?_⟩
    · show W2.length+(i+1)≤W.length+cZ l (j+1) (i+1);rw[eG];omega
    · rw[fQ,pF,if_neg (fun hc=>by rw[hkv]at hc;cases hc.2),←q3];rw[hkv]at g4;exact g4
    · rw[fQ,pF,if_neg (fun hc=>by rw[hkv]at hc;cases hc.2)];exact q4
    show l[i].c.toNat-(j+1)<l[i].c.toNat-j;omega
   refine bK ?_;simp (maxSteps:=4000000) only[↓sP,sA,tyS,simprocAttr];clear hK K;have hje:j=l[i].c.toNat:=by have:=of_decide_eq_false hb;omega
   subst hje;exact key W' m' F _ _ _ hst (aI (by omega) (by simp[aY,fin_at,finA_at,upd_at,HV.men,HV.menL,HV.norm,HV.toC,HV.toCL,pvb,bO,aO]) (by simp[bB,fob_at,upd_at,none0_at,bN,HO.men,HV.men,HV.menL,HV.norm,HV.toC,HV.toCL,pvb,bO,aO]))
  by_cases hmW:m=W.length
  ·
   refine aD (by kernel_rfl) ?_;simp only[sR,simprocAttr];iterate 6
    (refine aC (g:=none) rfl rfl fun K' hK'=>?_;simp only[sH,↓sP,sA,tyS,simprocAttr,pvb,hmW,cB,List.length_map];(repeat refine AI ?_);refine hK' _ _ ?_;clear hK' K')
   simp only[sE,↓reduceIte,simprocAttr];exact key _ _ _ (aI (by omega) (by simp[aY,fin_at,finA_at,upd_at,HV.men,HV.menL,HV.norm,HV.toC,HV.toCL,pvb,bO,aO,hmW,cB]) (by simp[bB,fob_at,upd_at,none0_at,bN,HO.men,HV.men,HV.menL,HV.norm,HV.toC,HV.toCL,pvb,bO,aO,hmW,cB]))
  have hWp:0<W.length:=by omega
  refine aD (by kernel_rfl) ?_;simp only[sR,simprocAttr];iterate 6
   (refine aC (g:=none) rfl rfl fun K' hK'=>?_;simp only[sH,↓sP,sA,tyS,simprocAttr,pvb,bW hmW,List.length_map,hWp,hm,Nat.zero_le,List.length_take,List.length_drop,Nat.sub_zero,Nat.min_eq_left hm];(repeat refine AI ?_);refine hK' _ _ ?_;clear hK' K')
  simp only[sE,↓reduceIte,simprocAttr];exact key _ _ _ (aI (by omega) (by simp[aY,fin_at,finA_at,upd_at,HV.men,HV.menL,HV.norm,HV.toC,HV.toCL,pvb,bO,aO,bW hmW]) (by simp[bB,fob_at,upd_at,none0_at,bN,HO.men,HV.men,HV.menL,HV.norm,HV.toC,HV.toCL,pvb,bO,aO,bW hmW]))
 refine aE fun K hK=>aD (by kernel_rfl) ?_;simp (maxSteps:=4000000) only[↓sP,sA,tyS,simprocAttr];repeat refine AI ?_
 refine hK _ _ _ ?_;clear hK K;refine aP ?_;refine aE fun K hK=>aD (by kernel_rfl) ?_;simp (maxSteps:=4000000) only[↓sP,sA,tyS,simprocAttr];repeat refine AI ?_
 refine hK _ _ _ ?_;clear hK K;refine aG (b:=(l[i].k==3)) rfl (fun hb=>?_) (fun hb=>?_)
 ·
  refine aD (by kernel_rfl) ?_;simp (maxSteps:=4000000) only[↓sP,sA,tyS,simprocAttr];have h3:l[i].k=3:=by simpa using hb
  have e1:fW l[i]=3:=by unfold fW;rw[if_neg (by omega),if_pos h3]
  have e2:wantN l[i]=1:=by unfold wantN;rw[if_neg (by omega),if_pos h3]
  exact key _ _ _ (aI (by omega) (by simp[aY,fin_at,finA_at,upd_at,HV.men,HV.menL,HV.norm,HV.toC,HV.toCL,pvb,bO,aO,e1,e2]) (by simp[bB,fob_at,upd_at,none0_at,bN,HO.men,HV.men,HV.menL,HV.norm,HV.toC,HV.toCL,pvb,bO,aO,e1,e2]))
 have hk3:l[i].k≠3:=by simpa using hb
 refine aE fun K hK=>aD (by kernel_rfl) ?_;simp (maxSteps:=4000000) only[↓sP,sA,tyS,simprocAttr];repeat refine AI ?_
 refine hK _ _ _ ?_;clear hK K;refine aG (b:=(l[i].k==4)) rfl (fun hb=>?_) (fun hb=>?_)
 ·
  refine eW mixed (by kernel_rfl) (by kernel_rfl) (by kernel_rfl) ?_;simp only[sR,simprocAttr];iterate 4
   (refine aC (g:=none) rfl rfl fun K' hK'=>?_;simp only[sH,↓sP,sA,tyS,simprocAttr];(repeat refine AI ?_);refine hK' _ _ ?_;clear hK' K')
  simp only[sE,↓reduceIte,simprocAttr];have h4:l[i].k=4:=by simpa using hb
  have h5:1≤l[i].n:=by omega
  have e1:fW l[i]=4:=by unfold fW;rw[if_neg (by omega),if_neg (by omega)]
  have e2:l[i].n=(wantN l[i]:Nat):=by unfold wantN;rw[if_neg (by omega),if_neg (by omega)];omega
  exact key _ _ _ (aI (by omega) (by simp[aY,fin_at,finA_at,upd_at,HV.men,HV.menL,HV.norm,HV.toC,HV.toCL,pvb,bO,aO,e1,←e2]) (by simp[bB,fob_at,upd_at,none0_at,bN,HO.men,HV.men,HV.menL,HV.norm,HV.toC,HV.toCL,pvb,bO,aO,e1,←e2]))
 refine aK ?_;simp (maxSteps:=4000000) only[↓sP,sA,tyS,simprocAttr];have h4:l[i].k=2:=by simp at hb;omega
 have e1:fW l[i]=2:=by unfold fW;rw[if_pos h4]
 have e2:l[i].c=(wantN l[i]:Nat):=by unfold wantN;rw[if_pos h4];omega
 exact key _ _ _ (aI (by omega) (by simp[aY,fin_at,finA_at,upd_at,HV.men,HV.menL,HV.norm,HV.toC,HV.toCL,pvb,bO,aO,e1,←e2]) (by simp[bB,fob_at,upd_at,none0_at,bN,HO.men,HV.men,HV.menL,HV.norm,HV.toC,HV.toCL,pvb,bO,aO,e1,←e2]))
theorem cO4 (a b n:Nat)(ob:Ob)(x y:HO):iX (sub [a,b] n) ob 0 [x,y]=upd (upd ob a (some (x.ren (sub [a,b] n)))) b (some (y.ren (sub [a,b] n))):=rfl
theorem aP2 (a b n:Nat)(ob:Ob)(l:List Nd)(S:List Sp)(W:List Ln)(m:Nat):iX (sub [a,b] n) ob 0 (osP l S W m)=upd (upd ob a (some (.box 80 (pvb l S (cD b W.length 4 m))))) b (some (.row 41 4 (W.map Ln.cv))):=by
 rw[cO4];simp[HO.ren,HV.ren,HV.renL,pvb,jD,sub]
theorem aP3 (a b n:Nat)(t:TypeId)(l:List Nd)(S:List Sp)(k m:Nat):(HO.box t (pvb l S (cD 1 k 4 m))).ren (sub [a,b] n)= .box t (pvb l S (cD b k 4 m)):=by
 simp[HO.ren,HV.ren,HV.renL,pvb,jD,sub]
theorem cD8 (a b n:Nat)(x y:CV):HV.ren (sub [a,b] n) (.tup [.c x,.c y])= .tup [.c x,.c y]:=rfl
theorem cK0 (a b n:Nat)(x:CV):HV.ren (sub [a,b] n) (.c x)= .c x:=rfl
theorem aV5 {id n m:Nat}{e:TypeId}{L:List CV}(h:ob id=some (.row e 4 L))(hn:n=L.length)(hm:m≤n):(cD id n 4 m).close ob [id]= .c (.slc (L.take m)):=by
 unfold cD;split
 · rename_i e1;rw[HV.close,if_pos (by simp)];simp only[h];rw[if_pos hn,e1,hn,List.take_length]
 rename_i e1;rw[HV.close,if_pos (by simp)];simp only[h];rw[if_pos ⟨hn,by omega,trivial,by omega,hm⟩];rfl
theorem bK1 (id n sz m:Nat):HV.getAt 0 1 false (cD id n sz m)=some (cD id n sz m):=by unfold cD;split<;>rfl
theorem aP4 (l:List Nd)(hn: ∀n∈l,n.q.t.length<2^63)(S:List Sp)(hS:S.length<2^40)(hd: ∀x∈S,x.d.length<2^42):jN Tryz.prog 14 [.slc (l.map Nd.cv),.slc (S.map Sp.cv)] (fun u v=>u= .slc ((proveV l S).map Ln.cv)∧v= .bool (evalV l (truL S))):=by
 have hTl:(truL S).length<2^63:=by unfold truL;rw[List.length_map];omega
 refine bD Tryz.func14 rfl (by kernel_rfl) (bH _) (Nat.le_of_ble_eq_true rfl) ?_;refine aE fun K hK=>aD (by kernel_rfl) ?_;simp (maxSteps:=4000000) only[↓sP,sA,tyS,simprocAttr];repeat refine AI ?_
 refine hK _ _ _ ?_;clear hK K;refine aE fun K hK=>?_;refine aE fun K hK=>aD (by kernel_rfl) ?_;simp only[sR,simprocAttr];iterate 2
  (refine aC (g:=none) rfl rfl fun K' hK'=>?_;simp only[sH,↓sP,sA,tyS,simprocAttr,denilL_Sp,denilL_Nd,oD];(repeat refine AI ?_);refine hK' _ _ ?_;clear hK' K')
 refine aC (g:=none) rfl rfl fun K' hK'=>?_;simp (maxSteps:=4000000) only[sH,↓sP,sA,tyS,simprocAttr,denilL_Sp,denilL_Nd,oD];refine aX (args:=[_]) (bW1 S hS) ⟨rfl,rfl,rfl,rfl⟩ ?_;rintro u rfl;repeat refine AI ?_
 refine hK' _ _ ?_;clear hK' K';refine aC (g:=none) rfl rfl fun K' hK'=>?_;simp (maxSteps:=4000000) only[sH,↓sP,sA,tyS,simprocAttr,denilL_Sp,denilL_Nd,oD];refine aX (args:=[_,_]) (aG3 l hn (truL S) hTl) ⟨rfl,rfl,rfl,rfl⟩ ?_;rintro u rfl;repeat refine AI ?_
 refine hK' _ _ ?_;clear hK' K';refine aC (g:=none) rfl rfl fun K' hK'=>?_;simp (maxSteps:=4000000) only[sH,↓sP,sA,tyS,simprocAttr,denilL_Sp,denilL_Nd,oD];repeat refine AI ?_
 refine hK' _ _ ?_;clear hK' K';simp only[sE,↓reduceIte,simprocAttr];repeat refine AI ?_
 refine hK _ _ _ ?_;clear hK K;refine aG (b:=!evalV l (truL S)) rfl (fun hb=>?_) (fun hb=>?_)
 ·
  refine aE fun K hK=>aD (by kernel_rfl) ?_;simp (maxSteps:=4000000) only[↓sP,sA,tyS,simprocAttr];repeat refine AI ?_
  refine hK _ _ _ ?_;clear hK K;refine aJ ?_;simp (maxSteps:=4000000) only[aT,Tryz.results14,aR,aS,aQ,↓sP,sA,tyS,simprocAttr];have hev:evalV l (truL S)=false:=by simpa using hb
  exact bL [] (.slc []) (.bool false) (by simp[HV.close,HV.closeL,CV.denil,CV.denilL,HV.norm,HV.toC,HV.toCL]) ⟨by rw[proveV,hev];rfl,by rw[hev]⟩
 have hev:evalV l (truL S)=true:=by simpa using hb
 clear hb;have htb:dZ l=true:=by
  unfold evalV at hev;rw[Bool.and_eq_true]at hev;exact hev.1
 have hv:dR l (truL S) 0=true:=by
  unfold evalV at hev;rw[Bool.and_eq_true]at hev;exact hev.2
 have ht:=gC htb;have hlen:=ht.len;have hne:0<l.length:=ht.ne;refine aK ?_;simp (maxSteps:=4000000) only[↓sP,sA,tyS,simprocAttr];repeat refine AI ?_
 refine hK _ _ _ ?_;clear hK K;refine aE fun K hK=>aD (by kernel_rfl) ?_;simp only[sR,simprocAttr];iterate 2
  (refine aC (g:=none) rfl rfl fun K' hK'=>?_;simp only[sH,↓sP,sA,tyS,simprocAttr,denilL_Sp,denilL_Nd];(repeat refine AI ?_);refine hK' _ _ ?_;clear hK' K')
 refine aC (g:=none) rfl rfl fun K' hK'=>?_;simp (maxSteps:=4000000) only[sH,↓sP,sA,tyS,simprocAttr,denilL_Sp,denilL_Nd];refine aX (args:=[_]) (oC l hn) ⟨rfl,rfl,rfl,rfl⟩ ?_;rintro u rfl;repeat refine AI ?_
 refine hK' _ _ ?_;clear hK' K';iterate 4
  (refine aC (g:=none) rfl rfl fun K' hK'=>?_;simp only[sH,↓sP,sA,tyS,simprocAttr,denilL_Sp,denilL_Nd];(repeat refine AI ?_);refine hK' _ _ ?_;clear hK' K')
 simp only[sE,↓reduceIte,simprocAttr];repeat refine AI ?_
 refine hK _ _ _ ?_;clear hK K;refine dX 48 3 41 4 rfl rfl rfl rfl ?_;refine aE fun K hK=>aD (by kernel_rfl) ?_;simp only[sR,simprocAttr];refine aC (g:=none) rfl rfl fun K' hK'=>?_;simp (maxSteps:=4000000) only[sH,↓sP,sA,tyS,simprocAttr,pvb];repeat refine AI ?_
 refine hK' _ _ ?_;clear hK' K';refine aC (g:=none) rfl rfl fun K' hK'=>?_;simp (maxSteps:=4000000) only[sH,↓sP,sA,tyS,simprocAttr,pvb];refine fG [48,56] (bW5 l htb hn S hS hd l.length [] 0 0 hne (by omega) (by simp) (by have:=(gQ ht hne).2.1;simp only[List.length_nil];omega)) rfl ⟨(by rw[aP3];rfl),rfl,trivial⟩ (by simp) (by simp) ⟨rfl,rfl,rfl,rfl⟩ (by simp[dU,HO.men,HV.men,HV.menL,bO]) (by simp[HV.menL,HV.men]) ?_;rintro r os' ⟨W',m',rfl,rfl,g2,g3,g4⟩;rw[aP2,cD8,hv];have ha:=(gQ ht hne).2.1;have g5:W'.take m'=zG l S:=by rw[g4,if_pos hv];rfl
 have g6:m'=(zG l S).length:=by rw[←g5,List.length_take];omega
 simp only[List.length_nil]at g3;repeat refine AI ?_
 refine hK' _ _ ?_;clear hK' K';iterate 5
  (refine aC (g:=none) rfl rfl fun K' hK'=>?_;simp only[sH,↓sP,sA,tyS,simprocAttr,pvb];(repeat refine AI ?_);refine hK' _ _ ?_;clear hK' K')
 simp only[sE,↓reduceIte,simprocAttr];repeat refine AI ?_
 refine hK _ _ _ ?_;clear hK K;refine aE fun K hK=>?_;refine aE fun K hK=>aD (by kernel_rfl) ?_;simp (maxSteps:=4000000) only[↓sP,sA,tyS,simprocAttr];repeat refine AI ?_
 refine hK _ _ _ ?_;clear hK K;refine aG (b:=false) rfl (fun hb=>?_) (fun hb=>?_)
 · cases hb
 refine aK ?_;simp (maxSteps:=4000000) only[↓sP,sA,tyS,simprocAttr];repeat refine AI ?_
 refine hK _ _ _ ?_;clear hK K;refine aE fun K hK=>cK (by kernel_rfl) ?_;simp only[sR,simprocAttr];iterate 2
  (refine bF (g:=none) rfl rfl fun K' hK'=>?_;simp only[sH,↓sP,sA,tyS,simprocAttr,pvb,aZ,aU,aO];(repeat refine AI ?_);refine hK' _ _ ?_;clear hK' K')
 refine eO (g:=none) 101 rfl rfl fun K' hK'=>?_;simp (maxSteps:=4000000) only[jK,mC,sH,↓sP,sA,tyS,simprocAttr,pvb,aZ,aU,aO];repeat refine AI ?_
 refine eK (by first|rfl|simp) ?_;try simp (maxSteps:=4000000) only[sH,↓sP,sA,tyS,simprocAttr,pvb,aZ,aU,aO]
 repeat refine AI ?_
 refine hK' _ _ ?_;clear hK' K';refine bF (g:=none) rfl rfl fun K' hK'=>?_;simp (maxSteps:=4000000) only[sH,↓sP,sA,tyS,simprocAttr,pvb,aZ,aU,aO];repeat refine AI ?_
 refine hK' _ _ ?_;clear hK' K';refine bF (g:=none) rfl rfl fun K' hK'=>?_;simp (maxSteps:=4000000) only[sH,↓sP,sA,tyS,simprocAttr,pvb,aZ,aU,aO];refine fG [48,56] (aG4 l S W' m' ⟨5,0,[],[(m':Int)-1]⟩ g2 (by omega)) rfl ⟨(by rw[aP3];rfl),rfl,trivial⟩ (by simp) (by simp) ⟨rfl,rfl,rfl,rfl⟩ (by simp[dU,HO.men,HV.men,HV.menL,bO]) (by simp[HV.menL,HV.men]) ?_;rintro r os' ⟨rfl,rfl⟩;rw[aP2,cK0];repeat refine AI ?_
 refine hK' _ _ ?_;clear hK' K';simp only[sE,↓reduceIte,simprocAttr];repeat refine AI ?_
 refine hK _ _ _ ?_;clear hK K;refine aE fun K hK=>aD (by kernel_rfl) ?_;simp only[sR,simprocAttr];iterate 6
  (refine aC (g:=none) rfl rfl fun K' hK'=>?_;simp only[sH,↓sP,sA,tyS,simprocAttr,pvb,bK1,xP,aZ,aU,aO];(repeat refine AI ?_);refine hK' _ _ ?_;clear hK' K')
 simp only[sE,↓reduceIte,simprocAttr];repeat refine AI ?_
 refine hK _ _ _ ?_;clear hK K;refine aJ ?_;simp (maxSteps:=4000000) only[aT,Tryz.results14,aR,aS,aQ,↓sP,sA,tyS,simprocAttr];refine⟨by rw[xP];exact not_false,?_⟩;refine bL [56] (.slc ((proveV l S).map Ln.cv)) (.bool true) ?_ ⟨rfl,by rw[hev]⟩;have e1:List.take (m'+1) ((nI W' m' ⟨5,0,[],[(m':Int)-1]⟩).map Ln.cv)=(proveV l S).map Ln.cv:=by
  rw[←List.map_take,tC g2,g5,proveV,if_pos hev,g6]
 simp only[HV.close,HV.closeL];rw[aV5 (L:=(nI W' m' ⟨5,0,[],[(m':Int)-1]⟩).map Ln.cv) rfl (by simp) (by rw[jV g2];omega),e1];simp[HV.norm,HV.toC,HV.toCL,CV.denil]
theorem cD9 (l:List Dig)(d:Dig)(hl:l.length<2^40):dB Tryz.prog 65 [.slc (l.map dg),dg d] (fun v=>v= .bool (l.contains d)):=by
 refine bD Tryz.func65 rfl (by kernel_rfl) (bH _) (Nat.le_of_ble_eq_true rfl) ?_;refine aE fun K hK=>aD (by kernel_rfl) ?_;simp (maxSteps:=4000000) only[↓sP,sA,tyS,simprocAttr];repeat refine AI ?_
 refine hK _ _ _ ?_;clear hK K;refine aE fun K hK=>?_;refine aE fun K hK=>aD (by kernel_rfl) ?_;simp (maxSteps:=4000000) only[↓sP,sA,tyS,simprocAttr];repeat refine AI ?_
 refine hK _ _ _ ?_;clear hK K;refine aP ?_;refine bR (α:={i:Nat//i≤l.length∧ ∀x∈l.take i,(x==d)=false}) (fun i=>(fin [(0,.c (.slc (l.map dg))),(3,.ptr 0 0),(5,.c (.int .i64 i.1))],fob [(0,.box 44 (.c (dg d)))])) 100 (fun i=>l.length-i.1) ⟨0,by omega,by simp⟩ (aI (by omega) (by simp[aY,fin_at,finA_at,upd_at,HV.men,HV.menL,HV.norm,HV.toC,HV.toCL]) (by simp[bB,fob_at,upd_at,none0_at,bN,HO.men,HV.men,HV.menL,HV.norm,HV.toC,HV.toCL])) ?_;rintro⟨i,hi,h0⟩;refine aE fun K hK=>?_;refine aE fun K hK=>aD (by kernel_rfl) ?_;simp only[sR,simprocAttr];iterate 4
  (refine aC (g:=none) rfl rfl fun K' hK'=>?_;simp only[sH,↓sP,sA,tyS,simprocAttr];(repeat refine AI ?_);refine hK' _ _ ?_;clear hK' K')
 simp only[sE,↓reduceIte,simprocAttr];repeat refine AI ?_
 refine hK _ _ _ ?_;clear hK K;refine aG (b:=decide ((i:Int)<l.length)) rfl (fun hb=>?_) (fun hb=>?_)
 ·
  have hlt:i<l.length:=by simpa using hb
  refine aK ?_;simp (maxSteps:=4000000) only[↓sP,sA,tyS,simprocAttr];repeat refine AI ?_
  refine hK _ _ _ ?_;clear hK K;refine aE fun K hK=>?_;refine aP ?_;refine aE fun K hK=>eW mixed (by kernel_rfl) (by kernel_rfl) (by kernel_rfl) ?_;simp only[sR,simprocAttr];iterate 6
   (refine aC (g:=none) rfl rfl fun K' hK'=>?_;simp only[sH,↓sP,sA,tyS,simprocAttr,Int.natCast_nonneg,Int.ofNat_lt,hlt,bA hlt];(repeat refine AI ?_);refine hK' _ _ ?_;clear hK' K')
  simp only[sE,↓reduceIte,simprocAttr];repeat refine AI ?_
  refine hK _ _ _ ?_;clear hK K;refine aG (b:=l[i]==d) rfl (fun hb=>?_) (fun hb=>?_)
  ·
   refine aE fun K hK=>aD (by kernel_rfl) ?_;simp (maxSteps:=4000000) only[↓sP,sA,tyS,simprocAttr];repeat refine AI ?_
   refine hK _ _ _ ?_;clear hK K;refine aJ ?_;simp (maxSteps:=4000000) only[aT,Tryz.results65,aR,aS,aQ,↓sP,sA,tyS,simprocAttr];exact aW [] (.bool true) rfl (by have:=List.getElem_mem hlt;have e:l[i]=d:=(eq_of_beq hb);rw[e]at this;simp[this])
  refine aK ?_;simp (maxSteps:=4000000) only[↓sP,sA,tyS,simprocAttr];repeat refine AI ?_
  refine hK _ _ _ ?_;clear hK K;refine aD (by kernel_rfl) ?_;simp (maxSteps:=4000000) only[↓sP,sA,tyS,simprocAttr,IntWalk.i64_in _ (show-9223372036854775808≤(i:Int)+1∧(i:Int)+1≤9223372036854775807 by omega)];refine⟨⟨i+1,hlt,zU (p:=fun x=>x==d) hlt hb h0⟩,aI (by omega) (by simp[aY,fin_at,finA_at,upd_at,HV.men,HV.menL,HV.norm,HV.toC,HV.toCL]) (by simp[bB,fob_at,upd_at,none0_at,bN,HO.men,HV.men,HV.menL,HV.norm,HV.toC,HV.toCL]),?_⟩;show l.length-(i+1)<l.length-i;omega
 refine bK ?_;simp (maxSteps:=4000000) only[↓sP,sA,tyS,simprocAttr];clear hK K;repeat refine AI ?_
 refine hK _ _ _ ?_;clear hK K;refine aE fun K hK=>aD (by kernel_rfl) ?_;simp (maxSteps:=4000000) only[↓sP,sA,tyS,simprocAttr];repeat refine AI ?_
 refine hK _ _ _ ?_;clear hK K;refine aJ ?_;simp (maxSteps:=4000000) only[aT,Tryz.results65,aR,aS,aQ,↓sP,sA,tyS,simprocAttr];have hei:i=l.length:=by simp at hb;omega
 subst hei;exact aW [] (.bool false) rfl (by rw[List.take_length]at h0;have:d∉l:=(fun hm=>by have:=h0 d hm;simp at this);simp[this])
theorem cE0 (a b:Dig):dB Tryz.prog 66 [dg a,dg b] (fun v=>v= .bool (dlt a b)):=by
 refine bD Tryz.func66 rfl (by kernel_rfl) (bH _) (Nat.le_of_ble_eq_true rfl) ?_;refine aE fun K hK=>aD (by kernel_rfl) ?_;simp (maxSteps:=4000000) only[↓sP,sA,tyS,simprocAttr];repeat refine AI ?_
 refine hK _ _ _ ?_;clear hK K;refine aE fun K hK=>?_;refine aE fun K hK=>aD (by kernel_rfl) ?_;simp (maxSteps:=4000000) only[↓sP,sA,tyS,simprocAttr];repeat refine AI ?_
 refine hK _ _ _ ?_;clear hK K;refine aP ?_;refine bR (α:={i:Nat//i≤32∧a.1.take i=b.1.take i}) (fun i=>(fin [(2,.ptr 0 0),(3,.ptr 4 0),(5,.c (.int .i64 i.1))],fob [(0,.box 44 (.c (dg a))),(4,.box 44 (.c (dg b)))])) 100 (fun i=>32-i.1) ⟨0,by omega,by simp⟩ (aI (by omega) (by simp[aY,fin_at,finA_at,upd_at,HV.men,HV.menL,HV.norm,HV.toC,HV.toCL]) (by simp[bB,fob_at,upd_at,none0_at,bN,HO.men,HV.men,HV.menL,HV.norm,HV.toC,HV.toCL])) ?_;rintro⟨i,hi,h0⟩;refine aE fun K hK=>?_;refine aE fun K hK=>aD (by kernel_rfl) ?_;simp (maxSteps:=4000000) only[↓sP,sA,tyS,simprocAttr];repeat refine AI ?_
 refine hK _ _ _ ?_;clear hK K;refine aG (b:=decide ((i:Int)<32)) rfl (fun hb=>?_) (fun hb=>?_)
 ·
  have hlt:i<32:=by simp at hb;omega
  have hlt':(i:Int)<32:=by omega
  have ha:i<a.1.length:=by rw[a.2];exact hlt
  have hb':i<b.1.length:=by rw[b.2];exact hlt
  refine aK ?_;simp (maxSteps:=4000000) only[↓sP,sA,tyS,simprocAttr];repeat refine AI ?_
  refine hK _ _ _ ?_;clear hK K;refine aE fun K hK=>?_;refine aP ?_;refine aE fun K hK=>eW mixed (by kernel_rfl) (by kernel_rfl) (by kernel_rfl) ?_;simp only[sR,simprocAttr];iterate 7
   (refine aC (g:=none) rfl rfl fun K' hK'=>?_;simp only[sH,↓sP,sA,tyS,simprocAttr,Int.natCast_nonneg,hlt',bQ2 hlt,Nat.mul_one,u8];(repeat refine AI ?_);refine hK' _ _ ?_;clear hK' K')
  simp only[sE,↓reduceIte,simprocAttr];repeat refine AI ?_
  refine hK _ _ _ ?_;clear hK K;refine aG (b:=(((a.1[i]).toNat:Int) !=((b.1[i]).toNat:Int))) rfl (fun hb=>?_) (fun hb=>?_)
  ·
   refine aE fun K hK=>eW mixed (by kernel_rfl) (by kernel_rfl) (by kernel_rfl) ?_;simp only[sR,simprocAttr];iterate 8
    (refine aC (g:=none) rfl rfl fun K' hK'=>?_;simp only[sH,↓sP,sA,tyS,simprocAttr,Int.natCast_nonneg,hlt',bQ2 hlt,Nat.mul_one,u8];(repeat refine AI ?_);refine hK' _ _ ?_;clear hK' K')
   simp only[sE,↓reduceIte,simprocAttr];repeat refine AI ?_
   refine hK _ _ _ ?_;clear hK K;refine aJ ?_;simp (maxSteps:=4000000) only[aT,Tryz.results66,aR,aS,aQ,↓sP,sA,tyS,simprocAttr];rw[cF4]at hb;exact aW [] (.bool _) rfl (by rw[cN2,cH8 hlt h0 (by simpa using hb)])
  refine aK ?_;simp (maxSteps:=4000000) only[↓sP,sA,tyS,simprocAttr];repeat refine AI ?_
  refine hK _ _ _ ?_;clear hK K;refine aD (by kernel_rfl) ?_;simp (maxSteps:=4000000) only[↓sP,sA,tyS,simprocAttr,IntWalk.i64_in _ (show-9223372036854775808≤(i:Int)+1∧(i:Int)+1≤9223372036854775807 by omega)];rw[cF4]at hb;refine⟨⟨i+1,hlt,?_⟩,aI (by omega) (by simp[aY,fin_at,finA_at,upd_at,HV.men,HV.menL,HV.norm,HV.toC,HV.toCL]) (by simp[bB,fob_at,upd_at,none0_at,bN,HO.men,HV.men,HV.menL,HV.norm,HV.toC,HV.toCL]),?_⟩
  ·
   rw[List.take_succ_eq_append_getElem ha,List.take_succ_eq_append_getElem hb',h0];have:a.1[i]=b.1[i]:=by simpa using hb
   rw[this]
  show 32-(i+1)<32-i;omega
 refine bK ?_;simp (maxSteps:=4000000) only[↓sP,sA,tyS,simprocAttr];clear hK K;repeat refine AI ?_
 refine hK _ _ _ ?_;clear hK K;refine aE fun K hK=>aD (by kernel_rfl) ?_;simp (maxSteps:=4000000) only[↓sP,sA,tyS,simprocAttr];repeat refine AI ?_
 refine hK _ _ _ ?_;clear hK K;refine aJ ?_;simp (maxSteps:=4000000) only[aT,Tryz.results66,aR,aS,aQ,↓sP,sA,tyS,simprocAttr];have hei:i=32:=by simp at hb;omega
 subst hei;exact aW [] (.bool false) rfl (by rw[bQ1 h0])
set_option maxHeartbeats 8000000
theorem aP5 (l:List Dig)(hl:l.length<2^40):cH5 Tryz.prog 57 44 32 (l.map dg) [] (fun l'=> ∃K:List Dig,l'=K.map dg∧dws K=cH (dws l)):=by
 refine bY4 ?_;show HFn _ _ [.own 0 (l.map dg).length] 1 _ _;rw[List.length_map];refine bD (args:=[.own 0 l.length]) Tryz.func57 rfl (by kernel_rfl) (vT 44 32 l.length _) (Nat.le_of_ble_eq_true rfl) ?_;refine aE fun K hK=>aD (by kernel_rfl) ?_;simp (maxSteps:=4000000) only[↓sP,sA,tyS,simprocAttr];repeat refine AI ?_
 refine hK _ _ _ ?_;clear hK K;refine aE fun K hK=>?_;refine aE fun K hK=>aD (by kernel_rfl) ?_;simp (maxSteps:=4000000) only[↓sP,sA,tyS,simprocAttr];repeat refine AI ?_
 refine hK _ _ _ ?_;clear hK K;refine aG (b:=decide ((l.length:Int)<2)) rfl (fun hb=>?_) (fun hb=>?_)
 ·
  refine aE fun K hK=>aD (by kernel_rfl) ?_;simp (maxSteps:=4000000) only[↓sP,sA,tyS,simprocAttr];repeat refine AI ?_
  refine hK _ _ _ ?_;clear hK K;refine aJ ?_;simp (maxSteps:=4000000) only[aT,Tryz.results57,aR,aS,aQ,↓sP,sA,tyS,simprocAttr];exact qM (l.map dg) rfl (by simp) ⟨l,rfl,by rw[tU (by rw[eU];simp at hb;omega)]⟩
 refine aK ?_;simp (maxSteps:=4000000) only[↓sP,sA,tyS,simprocAttr];repeat refine AI ?_
 refine hK _ _ _ ?_;clear hK K;refine aE fun K hK=>?_;refine aE fun K hK=>aD (by kernel_rfl) ?_;simp (maxSteps:=4000000) only[↓sP,sA,tyS,simprocAttr];repeat refine AI ?_
 refine hK _ _ _ ?_;clear hK K;refine aP ?_;have h2:2≤l.length:=by simp at hb;omega
 refine bR (α:={k:Nat//1≤k∧k≤l.length∧cH (dws (l.take k))=dws (l.take k)}) (fun k=>(fin [(0,.own 0 l.length),(3,.c (.int .i64 k.1))],fob [(0,.row 44 32 (l.map dg))])) 100 (fun k=>l.length-k.1) ⟨1,by omega,by omega,tU (by rw[eU];simp;omega)⟩ (aI (by omega) (by simp[aY,fin_at,finA_at,upd_at,HV.men,HV.menL,HV.norm,HV.toC,HV.toCL]) (by simp[bB,fob_at,upd_at,none0_at,bN,HO.men,HV.men,HV.menL,HV.norm,HV.toC,HV.toCL])) ?_;clear hb;rintro⟨k,hk1,hk,hd⟩;refine aE fun K hK=>?_;refine aE fun K hK=>aD (by kernel_rfl) ?_;simp only[sR,simprocAttr];iterate 4
  (refine aC (g:=none) rfl rfl fun K' hK'=>?_;simp only[sH,↓sP,sA,tyS,simprocAttr];(repeat refine AI ?_);refine hK' _ _ ?_;clear hK' K')
 simp only[sE,↓reduceIte,simprocAttr];repeat refine AI ?_
 refine hK _ _ _ ?_;clear hK K;refine aG (b:=decide ((k:Int)<l.length)) rfl (fun hb=>?_) (fun hb=>?_)
 ·
  have hlt:k<l.length:=by simpa using hb
  have hlt1:k-1<l.length:=by omega
  have m1:IntKind.i64.wrap ((k:Int)-1)=((k-1:Nat):Int):=by rw[IntWalk.i64_in _ (by omega)];omega
  refine aK ?_;simp (maxSteps:=4000000) only[↓sP,sA,tyS,simprocAttr];repeat refine AI ?_
  refine hK _ _ _ ?_;clear hK K;refine aE fun K hK=>?_;refine aP ?_;refine aE fun K hK=>eW mixed (by kernel_rfl) (by kernel_rfl) (by kernel_rfl) ?_;simp only[sR,simprocAttr];iterate 10
   (refine aC (g:=none) rfl rfl fun K' hK'=>?_;simp only[sH,↓sP,sA,tyS,simprocAttr,m1,Int.natCast_nonneg,Int.ofNat_lt,hlt,hlt1,bA hlt,bA hlt1];(repeat refine AI ?_);refine hK' _ _ ?_;clear hK' K')
  simp only[sE,↓reduceIte,simprocAttr];repeat refine AI ?_
  refine hK _ _ _ ?_;clear hK K;refine aG (b:=l[k]==l[k-1]) rfl (fun hb=>?_) (fun hb=>?_)
  ·
   refine aE fun K hK=>aD (by kernel_rfl) ?_;simp only[sR,simprocAttr];iterate 4
    (refine aC (g:=none) rfl rfl fun K' hK'=>?_;simp only[sH,↓sP,sA,tyS,simprocAttr];(repeat refine AI ?_);refine hK' _ _ ?_;clear hK' K')
   simp only[sE,↓reduceIte,simprocAttr];repeat refine AI ?_
   refine hK _ _ _ ?_;clear hK K;refine aE fun K hK=>?_;refine aE fun K hK=>aD (by kernel_rfl) ?_;simp (maxSteps:=4000000) only[↓sP,sA,tyS,simprocAttr];repeat refine AI ?_
   refine hK _ _ _ ?_;clear hK K;refine aP ?_;refine bR (α:={x:Nat×Nat×List Dig//x.2.2.length=l.length∧1≤x.1∧x.1<x.2.1∧x.2.1≤l.length∧k<x.2.1∧dws (x.2.2.take x.1)=cH (dws (l.take x.2.1))∧x.2.2.drop (x.2.1-1)=l.drop (x.2.1-1)}) (fun x=>(fin [(0,.own 0 l.length),(3,.c (.int .i64 x.1.1)),(4,.osl 0 l.length k 32 l.length),(5,.c (.int .i64 ((x.1.2.1-k:Nat):Int)))],fob [(0,.row 44 32 (x.1.2.2.map dg))])) 300 (fun x=>l.length-x.1.2.1) ⟨(k,k+1,l),rfl,hk1,by simp,hlt,by simp,by rw[bA6 hk1 hlt hb,hd],rfl⟩ (aI (by omega) (by simp[aY,fin_at,finA_at,upd_at,HV.men,HV.menL,HV.norm,HV.toC,HV.toCL]) (by simp[bB,fob_at,upd_at,none0_at,bN,HO.men,HV.men,HV.menL,HV.norm,HV.toC,HV.toCL])) ?_;rintro⟨⟨i,j,r⟩,hr,hi1,hij,hj,hkj,g1,g2⟩;simp only at hr hi1 hij hj hkj g1 g2⊢;have hrl:(r.map dg).length=l.length:=by rw[List.length_map,hr]
   have p0:0<l.length:=by omega
   have e9:(List.take (l.length-k) (List.drop k (r.map dg))).length=l.length-k:=by simp[hr]
   refine aE fun K hK=>?_;refine aE fun K hK=>aD (by kernel_rfl) ?_;simp only[sR,simprocAttr];iterate 4
    (refine aC (g:=none) rfl rfl fun K' hK'=>?_;simp only[sH,↓sP,sA,tyS,simprocAttr,hr,p0,hk,Nat.le_refl,e9];(repeat refine AI ?_);refine hK' _ _ ?_;clear hK' K')
   simp only[sE,↓reduceIte,simprocAttr];repeat refine AI ?_
   refine hK _ _ _ ?_;clear hK K;refine aG (b:=decide (((j-k:Nat):Int)<((l.length-k:Nat):Int))) rfl (fun hb=>?_) (fun hb=>?_)
   ·
    have hjl:j<l.length:=by simp at hb;omega
    have hjr:j<r.length:=by omega
    have hj1r:j-1<r.length:=by omega
    have hir:i<r.length:=by omega
    have hil:i<l.length:=by omega
    have hj1l:j-1<l.length:=by omega
    have z1:((j-k:Nat):Int)<((l.length-k:Nat):Int):=by omega
    have z2:((j-k-1:Nat):Int)<((l.length-k:Nat):Int):=by omega
    have e1:k+(j-k)=j:=by omega
    have e2:k+(j-k-1)=j-1:=by omega
    have m2:IntKind.i64.wrap (((j-k:Nat):Int)-1)=((j-k-1:Nat):Int):=by rw[IntWalk.i64_in _ (by omega)];omega
    have m3:IntKind.i64.wrap (((j-k:Nat):Int)+1)=((j+1-k:Nat):Int):=by rw[IntWalk.i64_in _ (by omega)];omega
    have q0:r[j-1]=l[j-1]∧r[j]=l[j]:=by
     have a1:(r.drop (j-1))[0]? =(l.drop (j-1))[0]? :=by rw[g2]
     have a2:(r.drop (j-1))[1]? =(l.drop (j-1))[1]? :=by rw[g2]
     simp only[List.getElem?_drop,Nat.add_zero,show j-1+1=j by omega,List.getElem?_eq_getElem hjr,List.getElem?_eq_getElem hj1r,List.getElem?_eq_getElem hjl,List.getElem?_eq_getElem hj1l,Option.some.injEq]at a1 a2;exact⟨a1,a2⟩
    have q1:nth (r.map dg) j=dg l[j]:=by rw[bA hjr,q0.2]
    have q2:nth (r.map dg) (j-1)=dg l[j-1]:=by rw[bA hj1r,q0.1]
    have g3:r.drop j=l.drop j:=by
     have:(r.drop (j-1)).drop 1=(l.drop (j-1)).drop 1:=by rw[g2]
     rwa [List.drop_drop,List.drop_drop,show j-1+1=j by omega]at this
    refine aK ?_;simp (maxSteps:=4000000) only[↓sP,sA,tyS,simprocAttr];repeat refine AI ?_
    refine hK _ _ _ ?_;clear hK K;refine aE fun K hK=>?_;have key: ∀(i':Nat) (r':List Dig) fr ob nx,r'.length=l.length→1≤i'→i'<j+1→dws (r'.take i')=cH (dws (l.take (j+1)))→r'.drop j=l.drop j→Fits 1 fr ob (fin [(0,.own 0 l.length),(3,.c (.int .i64 i')),(4,.osl 0 l.length k 32 l.length),(5,.c (.int .i64 ((j-k:Nat):Int)))]) (fob [(0,.row 44 32 (r'.map dg))]) 500→K fr ob nx:=by
     rintro i' r' fr ob nx w1 w2 w3 w4 w5 hf;refine hK _ _ _ (bX hf ?_);clear hf hK K;refine aD (by kernel_rfl) ?_;simp (maxSteps:=4000000) only[↓sP,sA,tyS,simprocAttr,m3];refine⟨⟨(i',j+1,r'),w1,w2,w3,hjl,by simp only;omega,w4,w5⟩,aI (by omega) (by simp[aY,fin_at,finA_at,upd_at,HV.men,HV.menL,HV.norm,HV.toC,HV.toCL]) (by simp[bB,fob_at,upd_at,none0_at,bN,HO.men,HV.men,HV.menL,HV.norm,HV.toC,HV.toCL]),?_⟩;show l.length-(j+1)<l.length-j;omega
    refine aP ?_;refine aE fun K hK=>eW mixed (by kernel_rfl) (by kernel_rfl) (by kernel_rfl) ?_;simp only[sR,simprocAttr];iterate 10
     (refine aC (g:=none) rfl rfl fun K' hK'=>?_;simp only[sH,↓sP,sA,tyS,simprocAttr,hr,m2,e1,e2,z1,z2,q1,q2,hjl,hj1l,hjr,hj1r,Int.natCast_nonneg,Int.ofNat_lt];(repeat refine AI ?_);refine hK' _ _ ?_;clear hK' K')
    simp only[sE,↓reduceIte,simprocAttr];repeat refine AI ?_
    refine hK _ _ _ ?_;clear hK K;refine aG (b:=!(l[j]==l[j-1])) rfl (fun hb=>?_) (fun hb=>?_)
    ·
     refine aE fun K hK=>aD (by kernel_rfl) ?_;simp only[sR,simprocAttr];iterate 8
      (refine aC (g:=none) rfl rfl fun K' hK'=>?_;simp only[sH,↓sP,sA,tyS,simprocAttr,hr,e1,z1,q1,bA hir,hil,hir,hjl,hjr,Int.natCast_nonneg,Int.ofNat_lt,←List.map_set];(repeat refine AI ?_);refine hK' _ _ ?_;clear hK' K')
     simp only[sE,↓reduceIte,simprocAttr];repeat refine AI ?_
     refine hK _ _ _ ?_;clear hK K;refine aD (by kernel_rfl) ?_;simp (maxSteps:=4000000) only[↓sP,sA,tyS,simprocAttr,IntWalk.i64_in _ (show-9223372036854775808≤(i:Int)+1∧(i:Int)+1≤9223372036854775807 by omega)];refine key (i+1) (r.set i l[j]) _ _ _ (by simp[hr]) (by omega) (by omega) ?_ ?_ (aI (by omega) (by simp[aY,fin_at,finA_at,upd_at,HV.men,HV.menL,HV.norm,HV.toC,HV.toCL]) (by simp[bB,fob_at,upd_at,none0_at,bN,HO.men,HV.men,HV.menL,HV.norm,HV.toC,HV.toCL]))
     · exact cJ5 (by omega) hjl (by simpa using hb) (by omega) g1
     rw[List.drop_set_of_lt (by omega),g3]
    refine aK ?_;simp (maxSteps:=4000000) only[↓sP,sA,tyS,simprocAttr];exact key i r _ _ _ hr hi1 (by omega) (by rw[bA6 (by omega) hjl (by simpa using hb),g1]) g3 (aI (by omega) (by simp[aY,fin_at,finA_at,upd_at,HV.men,HV.menL,HV.norm,HV.toC,HV.toCL]) (by simp[bB,fob_at,upd_at,none0_at,bN,HO.men,HV.men,HV.menL,HV.norm,HV.toC,HV.toCL]))
   have hjl:j=l.length:=by simp at hb;omega
   subst hjl;rw[List.take_length]at g1;refine bK ?_;simp (maxSteps:=4000000) only[↓sP,sA,tyS,simprocAttr];clear hK K;repeat refine AI ?_
   refine hK _ _ _ ?_;clear hK K;refine aE fun K hK=>aD (by kernel_rfl) ?_;simp only[sR,simprocAttr];iterate 4
    (refine aC (g:=none) rfl rfl fun K' hK'=>?_;simp only[sH,↓sP,sA,tyS,simprocAttr,hr];(repeat refine AI ?_);refine hK' _ _ ?_;clear hK' K')
   simp only[sE,↓reduceIte,simprocAttr];repeat refine AI ?_
   refine hK _ _ _ ?_;clear hK K;refine aE fun K hK=>aD (by kernel_rfl) ?_;simp only[sR,simprocAttr];iterate 4
    (refine aC (g:=none) rfl rfl fun K' hK'=>?_;simp only[sH,↓sP,sA,tyS,simprocAttr,hr];(repeat refine AI ?_);refine hK' _ _ ?_;clear hK' K')
   simp only[sE,↓reduceIte,simprocAttr];repeat refine AI ?_
   refine hK _ _ _ ?_;clear hK K;refine aJ ?_;simp (maxSteps:=4000000) only[aT,Tryz.results57,aR,aS,aQ,↓sP,sA,tyS,simprocAttr];refine bN7 _ rfl ?_ ?_ ?_ ?_
   · simp[hr];omega
   · simp[hr];omega
   · simp[hr];omega
   refine⟨r.take i,?_,g1⟩;simp[hr];rw[List.take_append_of_le_length (by simp[hr];omega),List.take_take,Nat.min_self]
  refine aK ?_;simp (maxSteps:=4000000) only[↓sP,sA,tyS,simprocAttr];repeat refine AI ?_
  refine hK _ _ _ ?_;clear hK K;refine aD (by kernel_rfl) ?_;simp (maxSteps:=4000000) only[↓sP,sA,tyS,simprocAttr,IntWalk.i64_in _ (show-9223372036854775808≤(k:Int)+1∧(k:Int)+1≤9223372036854775807 by omega)];refine⟨⟨k+1,by omega,hlt,cC1 hk1 hlt hb hd⟩,aI (by omega) (by simp[aY,fin_at,finA_at,upd_at,HV.men,HV.menL,HV.norm,HV.toC,HV.toCL]) (by simp[bB,fob_at,upd_at,none0_at,bN,HO.men,HV.men,HV.menL,HV.norm,HV.toC,HV.toCL]),?_⟩;show l.length-(k+1)<l.length-k;omega
 refine bK ?_;simp (maxSteps:=4000000) only[↓sP,sA,tyS,simprocAttr];clear hK K;repeat refine AI ?_
 refine hK _ _ _ ?_;clear hK K;refine aE fun K hK=>aD (by kernel_rfl) ?_;simp (maxSteps:=4000000) only[↓sP,sA,tyS,simprocAttr];repeat refine AI ?_
 refine hK _ _ _ ?_;clear hK K;refine aJ ?_;simp (maxSteps:=4000000) only[aT,Tryz.results57,aR,aS,aQ,↓sP,sA,tyS,simprocAttr];have hkl:k=l.length:=by simp at hb;omega
 subst hkl;rw[List.take_length]at hd;exact qM (l.map dg) rfl (by simp) ⟨l,rfl,by rw[hd]⟩
theorem bB5 (l:List Dig)(d:Dig)(hl:l.length<2^40):dB Tryz.prog 30 [.slc (l.map dg),dg d] (fun v=> ∃l':List Dig,v= .slc (l'.map dg)∧dws l'=mD (dws l) d.1):=by
 refine bD Tryz.func30 rfl (by kernel_rfl) (bH _) (Nat.le_of_ble_eq_true rfl) ?_;refine aE fun K hK=>aD (by kernel_rfl) ?_;simp (maxSteps:=4000000) only[↓sP,sA,tyS,simprocAttr];repeat refine AI ?_
 refine hK _ _ _ ?_;clear hK K;refine aE fun K hK=>?_;refine aE fun K hK=>aD (by kernel_rfl) ?_;simp only[sR,simprocAttr];iterate 2
  (refine aC (g:=none) rfl rfl fun K' hK'=>?_;simp only[sH,↓sP,sA,tyS,simprocAttr];(repeat refine AI ?_);refine hK' _ _ ?_;clear hK' K')
 refine aC (g:=none) rfl rfl fun K' hK'=>?_;simp (maxSteps:=4000000) only[sH,↓sP,sA,tyS,simprocAttr];refine aX (args:=[_,_]) (cD9 l d hl) ⟨rfl,rfl,rfl,rfl⟩ ?_;rintro u rfl;repeat refine AI ?_
 refine hK' _ _ ?_;clear hK' K';simp only[sE,↓reduceIte,simprocAttr];repeat refine AI ?_
 refine hK _ _ _ ?_;clear hK K;refine aG (b:=l.contains d) rfl (fun hb=>?_) (fun hb=>?_)
 ·
  refine aE fun K hK=>aD (by kernel_rfl) ?_;simp (maxSteps:=4000000) only[↓sP,sA,tyS,simprocAttr];repeat refine AI ?_
  refine hK _ _ _ ?_;clear hK K;refine aJ ?_;simp (maxSteps:=4000000) only[aT,Tryz.results30,aR,aS,aQ,↓sP,sA,tyS,simprocAttr];exact aW [] (.slc (l.map dg)) (by simp[HV.close,CV.denil,denilL_dg,HV.norm,HV.toC]) ⟨l,rfl,by rw[mD,←lX,hb,if_pos rfl]⟩
 refine aK ?_;simp (maxSteps:=4000000) only[↓sP,sA,tyS,simprocAttr];repeat refine AI ?_
 refine hK _ _ _ ?_;clear hK K;refine aE fun K hK=>aD (by kernel_rfl) ?_;simp (maxSteps:=4000000) only[↓sP,sA,tyS,simprocAttr];repeat refine AI ?_
 refine hK _ _ _ ?_;clear hK K;refine aE fun K hK=>aD (by kernel_rfl) ?_;simp (maxSteps:=4000000) only[↓sP,sA,tyS,simprocAttr];repeat refine AI ?_
 refine hK _ _ _ ?_;clear hK K;refine aE fun K hK=>?_;refine aP ?_;refine jJ 5 0 44 32 rfl rfl rfl rfl ?_;refine bR (α:={i:Nat//i≤l.length∧ ∀j (h:j<i) (h':j<(dws l).length),slt (dws l)[j] d.1=true}) (fun i=>(fin [(0,.c (.slc (l.map dg))),(3,.ptr 0 0),(5,.own 28 i.1),(6,.c (.int .i64 i.1))],fob [(0,.box 44 (.c (dg d))),(28,.row 44 32 ((l.take i.1).map dg))])) 100 (fun i=>l.length-i.1) ⟨0,by omega,fun j h=>by omega⟩ (aI (by omega) (by simp[aY,fin_at,finA_at,upd_at,HV.men,HV.menL,HV.norm,HV.toC,HV.toCL]) (by simp[bB,fob_at,upd_at,none0_at,bN,HO.men,HV.men,HV.menL,HV.norm,HV.toC,HV.toCL])) ?_;rintro⟨i,hi,hni⟩;have hti:(l.take i).length=i:=by simp;omega
 have hlc:decide ((i:Int)<(l.length:Int))=true→i<l.length:=fun h=>by simpa using h
 refine aE fun K hK=>?_;by_cases hlt:i<l.length
 ·
  refine aE fun K hK=>dJ mixed [(0,[],[]),(1,[],[]),(2,[],[]),(3,[],[]),(4,[],[]),(5,[],[]),(6,[],[]),(7,[],[]),(8,[],[]),(9,[],[]),(10,[],[]),(11,[],[])] [0,0,2,7,15,31,31,127,255,31,1023,2047] (by kernel_rfl) (by kernel_rfl) (by kernel_rfl) (by kernel_rfl) rfl (by kernel_rfl) ?_;iterate 5
   (refine bG (g:=none) rfl rfl fun K' hK'=>?_;simp only[sH,↓sP,sA,tyS,simprocAttr,Int.natCast_nonneg,Int.ofNat_lt,hlt,bA hlt];(repeat refine AI ?_);refine hK' _ _ ?_;clear hK' K')
  iterate 5
   (refine bG (g:=some (15,true)) rfl rfl fun K' hK'=>?_;simp only[sH,↓sP,sA,tyS,simprocAttr,Int.natCast_nonneg,Int.ofNat_lt,hlt,bA hlt];(repeat refine AI ?_);refine hK' _ _ ?_;clear hK' K')
  refine bG (g:=some (15,true)) rfl rfl fun K' hK'=>?_;simp (maxSteps:=4000000) only[sH,↓sP,sA,tyS,simprocAttr,Int.natCast_nonneg,Int.ofNat_lt,hlt,bA hlt];refine aX (args:=[_,_]) (cE0 l[i] d) ⟨rfl,rfl,rfl,rfl⟩ ?_;rintro u rfl;repeat refine AI ?_
  refine hK' _ _ ?_;clear hK' K';refine bG (g:=none) rfl rfl fun K' hK'=>?_;simp (maxSteps:=4000000) only[sH,↓sP,sA,tyS,simprocAttr,Int.natCast_nonneg,Int.ofNat_lt,hlt,bA hlt];repeat refine AI ?_
  refine hK' _ _ ?_;clear hK' K';simp only[sE,↓reduceIte,simprocAttr];repeat refine AI ?_
  refine hK _ _ _ ?_;clear hK K;refine aG (b:=dlt l[i] d) rfl (fun hb=>?_) (fun hb=>?_)
  ·
   refine aK ?_;simp (maxSteps:=4000000) only[↓sP,sA,tyS,simprocAttr];repeat refine AI ?_
   refine hK _ _ _ ?_;clear hK K;refine aP ?_;refine aE fun K hK=>aD (by kernel_rfl) ?_;simp only[sR,simprocAttr];iterate 8
    (refine aC (g:=none) rfl rfl fun K' hK'=>?_;simp only[sH,↓sP,sA,tyS,simprocAttr,Int.natCast_nonneg,Int.ofNat_lt,hlt,bA hlt,hti,List.length_append];(repeat refine AI ?_);refine hK' _ _ ?_;clear hK' K')
   simp only[sE,↓reduceIte,simprocAttr];repeat refine AI ?_
   refine hK _ _ _ ?_;clear hK K;refine aD (by kernel_rfl) ?_;simp (maxSteps:=4000000) only[↓sP,sA,tyS,simprocAttr,IntWalk.i64_in _ (show-9223372036854775808≤(i:Int)+1∧(i:Int)+1≤9223372036854775807 by omega)];refine⟨⟨i+1,by omega,fun j h h'=>?_⟩,aI (by omega) ?_ ?_,?_⟩
   ·
    by_cases e:j=i
    · subst e;rw[rH];exact hb
    exact hni j (by omega) h'
   · simp[aY,upd_at,fin_at,HV.men]
   · refine⟨rfl,by omega,trivial,?_,by omega,trivial,trivial⟩;simp only[List.take_succ_eq_append_getElem hlt,List.map_append];rfl
   show l.length-(i+1)<l.length-i;omega
  refine bK ?_;simp (maxSteps:=4000000) only[↓sP,sA,tyS,simprocAttr];clear hK K;repeat refine AI ?_
  refine hK _ _ _ ?_;clear hK K;refine aE fun K hK=>dJ mixed [(0,[],[]),(1,[],[]),(2,[],[]),(4,[2],[]),(5,[2],[]),(6,[2],[]),(3,[],[4,5,6]),(7,[],[]),(8,[],[])] [0,0,2,7,0,0,48,127,255] (by kernel_rfl) (by kernel_rfl) (by kernel_rfl) (by kernel_rfl) rfl (by kernel_rfl) ?_;iterate 9
   (refine bG (g:=none) rfl rfl fun K' hK'=>?_;simp only[sH,↓sP,sA,tyS,simprocAttr,hti,←List.map_drop,←List.map_take,aM4];(repeat refine AI ?_);refine hK' _ _ ?_;clear hK' K')
  simp only[sE,↓reduceIte,simprocAttr];repeat refine AI ?_
  refine hK _ _ _ ?_;clear hK K;refine aJ ?_;simp (maxSteps:=4000000) only[aT,Tryz.results30,aR,aS,aQ,↓sP,sA,tyS,simprocAttr];refine aW [28] (.slc ((l.take i++d::l.drop i).map dg)) ?_ ⟨_,rfl,?_⟩
  · simp[HV.close,upd_at,HV.norm,HV.toC,List.take_of_length_le]
  rw[lW,show dws (d::l.drop i)=d.1::dws (l.drop i)from rfl,show dws (l.drop i)=(dws l).drop i from List.map_drop,jU];rw[aX8 (by rw[←lX];assumption) (by rw[eU];exact hi) hni (fun h=>by rw[rH];exact hb)]
 refine aE fun K hK=>dJ mixed [(0,[],[]),(1,[],[]),(2,[],[]),(3,[],[]),(4,[],[]),(5,[],[]),(6,[],[]),(7,[],[]),(8,[],[]),(9,[],[]),(10,[],[]),(11,[],[])] [0,0,2,7,15,31,31,127,255,31,1023,2047] (by kernel_rfl) (by kernel_rfl) (by kernel_rfl) (by kernel_rfl) rfl (by kernel_rfl) ?_;iterate 5
  (refine bG (g:=none) rfl rfl fun K' hK'=>?_;simp only[sH,↓sP,sA,tyS,simprocAttr,Int.ofNat_lt,hlt];(repeat refine AI ?_);refine hK' _ _ ?_;clear hK' K')
 iterate 6
  (refine bG (g:=some (15,true)) rfl rfl fun K' hK'=>?_;simp only[sH,↓sP,sA,tyS,simprocAttr,Int.ofNat_lt,hlt];(repeat refine AI ?_);refine hK' _ _ ?_;clear hK' K')
 refine bG (g:=none) rfl rfl fun K' hK'=>?_;simp (maxSteps:=4000000) only[sH,↓sP,sA,tyS,simprocAttr,Int.ofNat_lt,hlt];repeat refine AI ?_
 refine hK' _ _ ?_;clear hK' K';simp only[sE,↓reduceIte,simprocAttr];repeat refine AI ?_
 refine hK _ _ _ ?_;clear hK K;refine aG (b:=_) rfl (fun hb=>?_) (fun hb=>?_)
 · cases hb
 refine bK ?_;simp (maxSteps:=4000000) only[↓sP,sA,tyS,simprocAttr];clear hK K;repeat refine AI ?_
 refine hK _ _ _ ?_;clear hK K;refine aE fun K hK=>dJ mixed [(0,[],[]),(1,[],[]),(2,[],[]),(4,[2],[]),(5,[2],[]),(6,[2],[]),(3,[],[4,5,6]),(7,[],[]),(8,[],[])] [0,0,2,7,0,0,48,127,255] (by kernel_rfl) (by kernel_rfl) (by kernel_rfl) (by kernel_rfl) rfl (by kernel_rfl) ?_;iterate 9
  (refine bG (g:=none) rfl rfl fun K' hK'=>?_;simp only[sH,↓sP,sA,tyS,simprocAttr,hti,←List.map_drop,←List.map_take,aM4];(repeat refine AI ?_);refine hK' _ _ ?_;clear hK' K')
 simp only[sE,↓reduceIte,simprocAttr];repeat refine AI ?_
 refine hK _ _ _ ?_;clear hK K;refine aJ ?_;simp (maxSteps:=4000000) only[aT,Tryz.results30,aR,aS,aQ,↓sP,sA,tyS,simprocAttr];refine aW [28] (.slc ((l.take i++d::l.drop i).map dg)) ?_ ⟨_,rfl,?_⟩
 · simp[HV.close,upd_at,HV.norm,HV.toC,List.take_of_length_le]
 rw[lW,show dws (d::l.drop i)=d.1::dws (l.drop i)from rfl,show dws (l.drop i)=(dws l).drop i from List.map_drop,jU];rw[aX8 (by rw[←lX];assumption) (by rw[eU];exact hi) hni (fun h=>absurd (by rwa [eU]at h) hlt)]
end Go.Proofs.YthedbjfipmkpiaaGreatDoor
