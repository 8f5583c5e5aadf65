/- The comparison of digests that sorting uses, at this seat: what it does to the world, exactly. By an AI agent. -/
import Derived.Test.YthedbjfipmkpiaaGreatDoorHdUl
import Derived.Test.YthedbjfipmkpiaaGreatDoorHdSb
import Derived.Test.YthedbjfipmkpiaaGreatDoorHdU6
import Derived.Test.YthedbjfipmkpiaaGreatDoorPl31h
import Derived.Test.YthedbjfipmkpiaaGreatDoorPl11c
import Derived.Shelf.SlSortCmp.InsertionK
import Derived.Test.YthedbjfipmkpiaaGreatDoorPl18e
import Derived.Deep.QuietTactic
import Derived.BigQuiet
import Derived.Test.YthedbjfipmkpiaaGreatDoorChecked
set_option linter.unusedSimpArgs false
set_option linter.unusedVariables false
set_option linter.defProp false
namespace Go.Proofs.YthedbjfipmkpiaaGreatDoor
open Go Go.Hl Go.Pl
set_option maxRecDepth 10000
set_option maxHeartbeats 16000000
def cU3 (l:List Nd)(S:List Sp)(f i:Nat)(W:List Ln)(m:Nat)(r:HV)(os':List HO):Prop:=
 ∃(W':List Ln) (m':Nat),r= .tup [.c (.int .i64 (if dK l (cF S) i then(m':Int)-1 else 0)),.c (.bool (dK l (cF S) i))]∧os'=osP l S W' m'∧m'≤W'.length∧W'.length≤W.length+(aft l i-i)∧W'.take m'=if dK l (cF S) i then prv l S f i (W.take m)else W.take m
theorem cB5 (n:Nat)(a b:CV):HV.ren (sub [0,1] n) (.tup [.c a,.c b])= .tup [.c a,.c b]:=rfl
variable {ob:Ob}
theorem aK7 (id n sz m:Nat){cl:List Nat}(h:id∉cl):(cI id n sz m).close ob cl=cI id n sz m:=by
 unfold cI;split<;>simp[HV.close,h]
theorem zK {l:List Nd}(ht:IsTree l){i:Nat}(hi:i<l.length){j:Nat}: ∀d,j+d≤l[i].c.toNat→cB l j (i+1)≤cB l (j+d) (i+1)
 |0,_=>Nat.le_refl _
 |d+1,h=>by
  have h1:=zK ht hi (j:=j) d (by omega);have h2:=(fI ht (gQ ht hi (k:=j+d) (by omega))).1;rw[←Nat.add_assoc,cK];omega
theorem pG {l:List Nd}(ht:IsTree l){i:Nat}(hi:i<l.length){j:Nat}(h:j≤l[i].c.toNat):cB l j (i+1)≤aft l i:=by
 have h1:=zK ht hi (j:=j) (l[i].c.toNat-j) (by omega);rw[show j+(l[i].c.toNat-j)=l[i].c.toNat from by omega,iT ht hi]at h1;exact h1
theorem aK8 {l:List Nd}{S:List Sp}{f i:Nat}{out:List Ln}: ∀j,(gZ l S f i j out).2.length≤j
 |0=>by simp[lS]
 |j+1=>by
  have h1:=aK8 (l:=l) (S:=S) (f:=f) (i:=i) (out:=out) j;rw[eO,mY];split
  · simp only[List.length_append,List.length_cons,List.length_nil];omega
  omega
structure PvSt (l:List Nd)(S:List Sp)(g i:Nat)(W:List Ln)(m j:Nat)(W':List Ln)(m':Nat)(F:List Int):Prop where
 le:m'≤W'.length
 len:W'.length+(i+1)≤W.length+cB l j (i+1)
 out:W'.take m'=(gZ l S g i j (W.take m)).1
 fr:F=(gZ l S g i j (W.take m)).2
theorem uI {l:List Nd}{S:List Sp}{g i:Nat}{out:List Ln}: ∀{j:Nat} (k:Nat),(gZ l S g i j out).2.length=wantN (l.getD i nd0)→gZ l S g i (j+k) out=gZ l S g i j out
 |j,0,_=>rfl
 |j,k+1,h=>by
  have ih:=uI (l:=l) (S:=S) (g:=g) (i:=i) (out:=out) k h;rw[←Nat.add_assoc,eO,ih,mY,if_neg (fun hc=>by omega)]
theorem cB6 (l:List Nd)(htb:dU l=true)(hn: ∀n∈l,n.q.t.length<2^63)(S:List Sp)(hS:S.length<2^40)(hd: ∀x∈S,x.d.length<2^42)(f:Nat): ∀(W:List Ln) (m i:Nat),i<l.length→l.length-i≤f→m≤W.length→W.length+(aft l i-i)<2^39→
  HGe Tryz.prog 37 [.ptr 0 0,.c (.int .i64 i)] (osP l S W m) (cU3 l S f i W m):=by
 induction f using Nat.strongRecOn with
 |ind f ih=>?_
 intro W m i hi hf hm hW;refine bI (args:=[.ptr 0 0,.c (.int .i64 i)]) Tryz.func37 rfl (by kernel_rfl) (eZ rfl (by simp[pvb,dS,HO.men,HV.men,HV.menL,bG]) (by simp[HV.menL,HV.men])) (Nat.le_of_ble_eq_true rfl) ?_;show Hw _ _ 2 _ _ _ (lst _) 2;rw[cB3];have ht:=eT htb;have hgd:l.getD i nd0=l[i]:=rK hi;have haf:=fI ht hi;obtain⟨g,rfl⟩: ∃g,f=g+1:=⟨f-1,by omega⟩;refine aC fun K hK=>aE (by kernel_rfl) ?_;simp (maxSteps:=4000000) only[↓sP,sA,tyS,simprocAttr];repeat refine AI ?_
 refine hK _ _ _ ?_;clear hK K;refine aC fun K hK=>aE (by kernel_rfl) ?_;simp only[sR,simprocAttr];iterate 9
  (refine aF (g:=none) rfl rfl fun K' hK'=>?_;simp only[sH,↓sP,sA,tyS,simprocAttr,pvb,aV,aS,aR,cO,Int.natCast_nonneg,Int.ofNat_lt,hi,bK hi];(repeat refine AI ?_);refine hK' _ _ ?_;clear hK' K')
 simp only[sE,↓reduceIte,simprocAttr];repeat refine AI ?_
 refine hK _ _ _ ?_;clear hK K;refine aC fun K hK=>?_;refine aC fun K hK=>aE (by kernel_rfl) ?_;simp (maxSteps:=4000000) only[↓sP,sA,tyS,simprocAttr];repeat refine AI ?_
 refine hK _ _ _ ?_;clear hK K;refine aK (b:=(l[i].k==1)) rfl (fun hb=>?_) (fun hb=>?_)
 ·
  have hk:l[i].k=1:=by simpa using hb
  have hv:dK l (cF S) i=(S.getD (lv (l.take i)) sp0).h:=by rw[mK hi hk,aO6]
  clear hb;refine aC fun K hK=>aE (by kernel_rfl) ?_;simp only[sR,simprocAttr];iterate 2
   (refine aF (g:=none) rfl rfl fun K' hK'=>?_;simp only[sH,↓sP,sA,tyS,simprocAttr];(repeat refine AI ?_);refine hK' _ _ ?_;clear hK' K')
  refine aF (g:=none) rfl rfl fun K' hK'=>?_;simp (maxSteps:=4000000) only[sH,↓sP,sA,tyS,simprocAttr];refine eX [0,1] (cB4 l htb S hS hd W m i hm (by omega) hi hk) rfl ⟨(by rw[wG];rfl),rfl,trivial⟩ (by simp) (by simp) ⟨rfl,rfl,rfl,rfl⟩ (by simp[dS,HO.men,HV.men,HV.menL,bG]) (by simp[HV.menL,HV.men]) ?_;rintro r os' ⟨rfl,hos⟩;obtain⟨W',m',hos2,g1,g2,g3,g4⟩: ∃(W':List Ln) (m':Nat),os'=osP l S W' m'∧(if(S.getD (lv (l.take i)) sp0).h then(m:Int)else 0)=(if dK l (cF S) i then(m':Int)-1 else 0)∧m'≤W'.length∧W'.length≤W.length+(aft l i-i)∧W'.take m'=if dK l (cF S) i then prv l S (g+1) i (W.take m)else W.take m:=by
   rw[hv];cases hh:(S.getD (lv (l.take i)) sp0).h with
   |true=>
    rw[hh]at hos;refine⟨_,_,hos,by simp,by rw[kO hm];omega,by rw[kO hm];omega,?_⟩;rw[uH hm,if_pos rfl,kH (by rw[hgd];exact hk)]
   |false=>
    rw[hh]at hos;exact⟨_,_,hos,by simp,hm,by omega,by simp⟩
  subst hos2;rw[wF,cB5];repeat refine AI ?_
  refine hK' _ _ ?_;clear hK' K';iterate 4
   (refine aF (g:=none) rfl rfl fun K' hK'=>?_;simp only[sH,↓sP,sA,tyS,simprocAttr];(repeat refine AI ?_);refine hK' _ _ ?_;clear hK' K')
  simp only[sE,↓reduceIte,simprocAttr];repeat refine AI ?_
  refine hK _ _ _ ?_;clear hK K;refine aH ?_;simp (maxSteps:=4000000) only[bS,Tryz.results37,bP,bR,bN,↓sP,sA,tyS,simprocAttr];exact kP (W:=W') (m:=m') rfl rfl rfl ⟨W',m',by rw[←g1,hv];rfl,rfl,g2,g3,g4⟩
 have hk:l[i].k≠1:=by simpa using hb
 clear hb;have hvd:=aX6 ht S hi hk;have hnb:=ht.node _ (List.getElem_mem hi);obtain⟨c1,c2,c3,c4⟩:=eS hnb;have hkn:l[i].k=2∨l[i].k=3∨(l[i].k=4∧1≤l[i].n):=by
  unfold dB inB at hnb;grind
 have hc1:=c4 hk;refine aM ?_;simp (maxSteps:=4000000) only[↓sP,sA,tyS,simprocAttr];repeat refine AI ?_
 refine hK _ _ _ ?_;clear hK K;refine aC fun K hK=>kF mixed (by kernel_rfl) (by kernel_rfl) (by kernel_rfl) ?_;simp only[sR,simprocAttr];iterate 4
  (refine aF (g:=none) rfl rfl fun K' hK'=>?_;simp only[sH,↓sP,sA,tyS,simprocAttr];(repeat refine AI ?_);refine hK' _ _ ?_;clear hK' K')
 simp only[sE,↓reduceIte,simprocAttr];repeat refine AI ?_
 refine hK _ _ _ ?_;clear hK K;refine aC fun K hK=>?_;have key: ∀fr ob nx,Fits 2 fr ob (fin [(0,.ptr 0 0),(1,.c (.int .i64 i)),(7,.c (.int .i64 (eI l[i]))),(8,.c (.int .i64 (wantN l[i]:Nat)))]) (fob [(0,.box 80 (pvb l S (cI 1 W.length 4 m))),(1,.row 41 4 (W.map Ln.cv))]) 100→K fr ob nx:=by
  rintro fr ob nx hf;refine hK _ _ _ (bJ hf ?_);clear hf hK K;refine aC fun K hK=>?_;have key: ∀fr ob nx,Fits 2 fr ob (fin [(0,.ptr 0 0),(1,.c (.int .i64 i)),(7,.c (.int .i64 (eI l[i]))),(8,.c (.int .i64 (wantN l[i]:Nat))),(9,.c (.int .i64 m))]) (fob [(0,.box 80 (pvb l S (cI 1 W.length 4 m))),(1,.row 41 4 (W.map Ln.cv))]) 200→K fr ob nx:=by
   rintro fr ob nx hf;refine hK _ _ _ (bJ hf ?_);clear hf hK K;refine aC fun K hK=>aE (by kernel_rfl) ?_;simp (maxSteps:=4000000) only[↓sP,sA,tyS,simprocAttr];repeat refine AI ?_
   refine hK _ _ _ ?_;clear hK K;refine aC fun K hK=>?_;have key: ∀(W':List Ln) (m':Nat) (F:List Int) fr ob nx,PvSt l S g i W m l[i].c.toNat W' m' F→Fits 2 fr ob (fin [(0,.ptr 0 0),(1,.c (.int .i64 i)),(7,.c (.int .i64 (eI l[i]))),(8,.c (.int .i64 (wantN l[i]:Nat))),(9,.c (.int .i64 m)),(10,.own 236 F.length)]) (fob [(0,.box 80 (pvb l S (cI 1 W'.length 4 m'))),(1,.row 41 4 (W'.map Ln.cv)),(236,.row 3 1 (F.map (CV.int .i64)))]) 30000→K fr ob nx:=by
    rintro W' m' F fr ob nx hst hf;refine hK _ _ _ (bJ hf ?_);clear hf hK K;have q1:=hst.le;have q2:=hst.len;have q3:=hst.out;have q4:=hst.fr;rw[iT ht hi]at q2;have q5:=rJ l S g i (W.take m) l[i].c.toNat;rw[←q4,hgd]at q5;obtain⟨L,q6⟩:=bZ0 l S g i l[i].c.toNat (W.take m);have hml:(W.take m).length=m:=by simp;omega
    have hm':m'=m+L.length:=by
     have h1:=congrArg List.length (q3.trans q6);rw[List.length_take,List.length_append,hml]at h1;omega
    have hWt:W'.take m=W.take m:=by
     have h1:(W'.take m').take m=(W.take m++L).take m:=by rw[q3.trans q6]
     rw[List.take_take,Nat.min_eq_left (by omega),List.take_append_of_le_length (by omega),List.take_take,Nat.min_self]at h1;exact h1
    refine aC fun K hK=>?_;refine aC fun K hK=>aE (by kernel_rfl) ?_;simp only[sR,simprocAttr];iterate 4
     (refine aF (g:=none) rfl rfl fun K' hK'=>?_;simp only[sH,↓sP,sA,tyS,simprocAttr];(repeat refine AI ?_);refine hK' _ _ ?_;clear hK' K')
    simp only[sE,↓reduceIte,simprocAttr];repeat refine AI ?_
    refine hK _ _ _ ?_;clear hK K;refine aK (b:=decide ((F.length:Int)<(wantN l[i]:Nat))) rfl (fun hb=>?_) (fun hb=>?_)
    ·
     have hvf:dK l (cF S) i=false:=by
      rw[hvd];have:(F.length:Int)<(wantN l[i]:Nat):=of_decide_eq_true hb;simp;omega
     clear hb;by_cases hmW:m'=W'.length
     ·
      refine aC fun K hK=>bY (by kernel_rfl) ?_;simp only[sR,simprocAttr];iterate 6
       (refine aU (g:=none) rfl rfl fun K' hK'=>?_;simp only[sH,↓sP,sA,tyS,simprocAttr,pvb,hmW,cA,aV,aS,aR,List.length_map,Int.toNat_natCast];(repeat refine AI ?_);refine hK' _ _ ?_;clear hK' K')
      refine dG (g:=none) rfl rfl fun K' hK'=>?_;simp (maxSteps:=4000000) only[sN,↓hopH.eq_def,sH,↓sP,sA,tyS,simprocAttr,pvb,hmW,cA,aV,aS,aR,List.length_map,Int.toNat_natCast];repeat refine AI ?_
      refine hK' _ _ ?_;clear hK' K';iterate 3
       (refine aU (g:=none) rfl rfl fun K' hK'=>?_;simp only[sH,↓sP,sA,tyS,simprocAttr,pvb,hmW,cA,aV,aS,aR,List.length_map,Int.toNat_natCast];(repeat refine AI ?_);refine hK' _ _ ?_;clear hK' K')
      simp only[sE,↓reduceIte,simprocAttr];repeat refine AI ?_
      refine hK _ _ _ ?_;clear hK K;refine aC fun K hK=>aE (by kernel_rfl) ?_;simp (maxSteps:=4000000) only[↓sP,sA,tyS,simprocAttr];repeat refine AI ?_
      refine hK _ _ _ ?_;clear hK K;refine aH ?_;simp (maxSteps:=4000000) only[bS,Tryz.results37,bP,bR,bN,↓sP,sA,tyS,simprocAttr];exact kP (W:=W') (m:=m) rfl rfl rfl ⟨W',m,by rw[hvf];rfl,rfl,by omega,by omega,by rw[hvf];exact hWt⟩
     refine aC fun K hK=>bY (by kernel_rfl) ?_;simp only[sR,simprocAttr];iterate 6
      (refine aU (g:=none) rfl rfl fun K' hK'=>?_;simp only[sH,↓sP,sA,tyS,simprocAttr,pvb,bW hmW,aV,aS,aR,List.length_map,Int.toNat_natCast,Int.toNat_zero];(repeat refine AI ?_);refine hK' _ _ ?_;clear hK' K')
     refine dG (g:=none) rfl rfl fun K' hK'=>?_;simp (maxSteps:=4000000) only[sN,↓hopH.eq_def,sH,↓sP,sA,tyS,simprocAttr,pvb,bW hmW,aV,aS,aR,List.length_map,Int.toNat_natCast,Int.toNat_zero];repeat refine AI ?_
     refine hK' _ _ ?_;clear hK' K';iterate 3
      (refine aU (g:=none) rfl rfl fun K' hK'=>?_;simp only[sH,↓sP,sA,tyS,simprocAttr,pvb,bW hmW,aV,aS,aR,List.length_map,Int.toNat_natCast,Int.toNat_zero];(repeat refine AI ?_);refine hK' _ _ ?_;clear hK' K')
     simp only[sE,↓reduceIte,simprocAttr];repeat refine AI ?_
     refine hK _ _ _ ?_;clear hK K;refine aC fun K hK=>aE (by kernel_rfl) ?_;simp (maxSteps:=4000000) only[↓sP,sA,tyS,simprocAttr];repeat refine AI ?_
     refine hK _ _ _ ?_;clear hK K;refine aH ?_;simp (maxSteps:=4000000) only[bS,Tryz.results37,bP,bR,bN,↓sP,sA,tyS,simprocAttr];have hmn:m≠W'.length:=by omega
     exact kP (W:=W') (m:=m) rfl (by rw[bW hmn];rfl) rfl ⟨W',m,by rw[hvf];rfl,rfl,by omega,by omega,by rw[hvf];exact hWt⟩
    have hge:wantN l[i]≤F.length:=by
     have h1:=of_decide_eq_false hb;omega
    have hvt:dK l (cF S) i=true:=by
     rw[hvd];simp;omega
    clear hb;refine aM ?_;simp (maxSteps:=4000000) only[↓sP,sA,tyS,simprocAttr];repeat refine AI ?_
    refine hK _ _ _ ?_;clear hK K;refine fL [236] (bJ (fr2:=fin [(0,.ptr 0 0),(1,.c (.int .i64 i)),(7,.c (.int .i64 (eI l[i]))),(10,.c (.slc (F.map (CV.int .i64))))]) (ob2:=fob [(0,.box 80 (pvb l S (cI 1 W'.length 4 m'))),(1,.row 41 4 (W'.map Ln.cv))]) (nx2:=31000) (aO (by omega) (by simp[aX,fS,fin_at,finA_at,upd_at,fob_at,HV.close,HV.closeL,CV.denil,CV.denilL,denilL_int,HV.men,HV.menL,HV.norm,HV.toC,HV.toCL]) (by simp[aY,iH,fob_at,upd_at,none0_at,bO,HO.close,HV.close,HV.closeL,pvb,aK7,CV.denil,denilL_Nd,cO,denilL_Sp,qN,aR,bG,HO.men,HV.men,HV.menL,HV.norm,HV.toC,HV.toCL])) ?_);refine aC fun K hK=>aE (by kernel_rfl) ?_;simp only[sR,simprocAttr];iterate 5
     (refine aF (g:=none) rfl rfl fun K' hK'=>?_;simp only[sH,↓sP,sA,tyS,simprocAttr,pvb,aV,aS,aR,denilL_int];(repeat refine AI ?_);refine hK' _ _ ?_;clear hK' K')
    refine aF (g:=none) rfl rfl fun K' hK'=>?_;simp (maxSteps:=4000000) only[sH,↓sP,sA,tyS,simprocAttr,pvb,aV,aS,aR,denilL_int];refine eX [0,1] (aK5 l S W' m' ⟨eI l[i],i,[],F⟩ q1 (by omega)) rfl ⟨(by rw[wG];rfl),rfl,trivial⟩ (by simp) (by simp) ⟨rfl,rfl,rfl,rfl⟩ (by simp[dS,HO.men,HV.men,HV.menL,bG]) (by simp[HV.menL,HV.men]) ?_;rintro r os' ⟨rfl,rfl⟩;rw[wF,cL7];repeat refine AI ?_
    refine hK' _ _ ?_;clear hK' K';iterate 2
     (refine aF (g:=none) rfl rfl fun K' hK'=>?_;simp only[sH,↓sP,sA,tyS,simprocAttr,pvb,aV,aS,aR,denilL_int];(repeat refine AI ?_);refine hK' _ _ ?_;clear hK' K')
    simp only[sE,↓reduceIte,simprocAttr];repeat refine AI ?_
    refine hK _ _ _ ?_;clear hK K;refine aH ?_;simp (maxSteps:=4000000) only[bS,Tryz.results37,bP,bR,bN,↓sP,sA,tyS,simprocAttr];refine kP (W:=oH W' m' ⟨eI l[i],i,[],F⟩) (m:=m'+1) rfl rfl rfl ⟨_,m'+1,by rw[hvt];simp[CV.denil],rfl,by rw[kO q1];omega,by rw[kO q1];omega,?_⟩;rw[uH q1,hvt,if_pos rfl,lT (by rw[hgd];exact hk),hgd,←q4,←q3]
   refine aC fun K hK=>aE (by kernel_rfl) ?_;simp only[sR,simprocAttr];iterate 5
    (refine aF (g:=none) rfl rfl fun K' hK'=>?_;simp only[sH,↓sP,sA,tyS,simprocAttr,pvb,aV,aS,aR];(repeat refine AI ?_);refine hK' _ _ ?_;clear hK' K')
   refine aF (g:=none) rfl rfl fun K' hK'=>?_;simp (maxSteps:=4000000) only[sH,↓sP,sA,tyS,simprocAttr,pvb,aV,aS,aR];refine cZ (args:=[_,_]) (aT2 l hn i) ⟨rfl,rfl,rfl,rfl⟩ ?_;rintro u rfl;have hck:nS l i=cY l l[i].c.toNat (i+1):=pE htb hi;rw[hck];repeat refine AI ?_
   refine hK' _ _ ?_;clear hK' K';iterate 2
    (refine aF (g:=none) rfl rfl fun K' hK'=>?_;simp only[sH,↓sP,sA,tyS,simprocAttr,pvb,aV,aS,aR];(repeat refine AI ?_);refine hK' _ _ ?_;clear hK' K')
   simp only[sE,↓reduceIte,simprocAttr];repeat refine AI ?_
   refine hK _ _ _ ?_;clear hK K;refine aN ?_;refine jI 10 0 3 1 rfl rfl rfl rfl ?_;refine bH (α:={y:Nat×List Ln×Nat×List Int//y.1≤l[i].c.toNat∧PvSt l S g i W m y.1 y.2.1 y.2.2.1 y.2.2.2}) (fun y=>(fin [(0,.ptr 0 0),(1,.c (.int .i64 i)),(7,.c (.int .i64 (eI l[i]))),(8,.c (.int .i64 (wantN l[i]:Nat))),(9,.c (.int .i64 m)),(10,.own 236 y.1.2.2.2.length),(50,.c (.slc ((cY l l[i].c.toNat (i+1)).map iC))),(51,.c (.int .i64 (l[i].c.toNat:Nat))),(52,.c (.int .i64 y.1.1))],fob [(0,.box 80 (pvb l S (cI 1 y.1.2.1.length 4 y.1.2.2.1))),(1,.row 41 4 (y.1.2.1.map Ln.cv)),(236,.row 3 1 (y.1.2.2.2.map (CV.int .i64)))])) 20000 (fun y=>l[i].c.toNat-y.1.1) ⟨(0,W,m,[]),Nat.zero_le _,⟨hm,by simp[cB],by rw[lS],by rw[lS]⟩⟩ (aO (by omega) (by simp[aX,fin_at,finA_at,upd_at,HV.men,HV.menL,HV.norm,HV.toC,HV.toCL,pvb,bG,aR,iS]) (by simp[aY,fob_at,upd_at,none0_at,bO,HO.men,HV.men,HV.menL,HV.norm,HV.toC,HV.toCL,pvb,bG,aR,iS])) ?_;rintro⟨⟨j,W',m',F⟩,hj,hst⟩;simp only at hj hst⊢;have q1:=hst.le;have q2:=hst.len;have q3:=hst.out;have q4:=hst.fr;have hkl:(cY l l[i].c.toNat (i+1)).length=l[i].c.toNat:=iS l _ _;refine aC fun K hK=>aE (by kernel_rfl) ?_;simp (maxSteps:=4000000) only[↓sP,sA,tyS,simprocAttr];repeat refine AI ?_
   refine hK _ _ _ ?_;clear hK K;refine aC fun K hK=>?_;refine aK (b:=decide ((j:Int)<(l[i].c.toNat:Nat))) rfl (fun hb=>?_) (fun hb=>?_)
   ·
    have hlt:j<l[i].c.toNat:=by have:=of_decide_eq_true hb;omega
    have hltk:j<(cY l l[i].c.toNat (i+1)).length:=by rw[hkl];exact hlt
    have hel:(cY l l[i].c.toNat (i+1))[j]=cB l j (i+1):=by
     have h1:=kG l l[i].c.toNat (i+1) (j+1) hlt;rw[gA,List.take_succ_eq_append_getElem hltk,kG l _ _ _ hj]at h1;simpa using h1
    clear hb;have hkb:=gQ ht hi hlt;have hks:=gB ht hi j (by omega);have hka:=fI ht hkb;have hkn:=pG ht hi (j:=j+1) (by omega);rw[cK]at hkn;have hF1:=aK8 (l:=l) (S:=S) (f:=g) (i:=i) (out:=W.take m) j;rw[←q4]at hF1;have hF2:F.length+1≤maxLen:=by simp only[maxLen];omega
    have hF3:(F.length+1)*8≤140737488355328:=by omega
    refine aM ?_;simp (maxSteps:=4000000) only[↓sP,sA,tyS,simprocAttr];repeat refine AI ?_
    refine hK _ _ _ ?_;clear hK K;refine aC fun K hK=>?_;refine aN ?_;refine aC fun K hK=>aE (by kernel_rfl) ?_;simp (maxSteps:=4000000) only[↓sP,sA,tyS,simprocAttr,Int.natCast_nonneg,Int.ofNat_lt,hltk,bK hltk,hel,iC];repeat refine AI ?_
    refine hK _ _ _ ?_;clear hK K;refine aC fun K hK=>?_;refine aC fun K hK=>aE (by kernel_rfl) ?_;simp only[sR,simprocAttr];iterate 4
     (refine aF (g:=none) rfl rfl fun K' hK'=>?_;simp only[sH,↓sP,sA,tyS,simprocAttr,List.length_map];(repeat refine AI ?_);refine hK' _ _ ?_;clear hK' K')
    simp only[sE,↓reduceIte,simprocAttr];repeat refine AI ?_
    refine hK _ _ _ ?_;clear hK K;refine aK (b:=((F.length:Int)==(wantN l[i]:Nat))) rfl (fun hb=>?_) (fun hb=>?_)
    ·
     refine aZ ?_;simp (maxSteps:=4000000) only[↓sP,sA,tyS,simprocAttr];clear hK K;clear hK K;have hfl:F.length=wantN l[i]:=by
      have:(F.length:Int)=(wantN l[i]:Nat):=by simpa using hb
      omega
     have hsp:=uI (l:=l) (S:=S) (g:=g) (i:=i) (out:=W.take m) (j:=j) (l[i].c.toNat-j) (by rw[←q4,hgd];exact hfl);rw[show j+(l[i].c.toNat-j)=l[i].c.toNat from by omega]at hsp;refine key W' m' F _ _ _ ⟨q1,?_,by rw[hsp];exact q3,by rw[hsp];exact q4⟩ (aO (by omega) (by simp[aX,fin_at,finA_at,upd_at,HV.men,HV.menL,HV.norm,HV.toC,HV.toCL,pvb,bG,aR]) (by simp[aY,fob_at,upd_at,none0_at,bO,HO.men,HV.men,HV.menL,HV.norm,HV.toC,HV.toCL,pvb,bG,aR]));have hkf:=pG ht hi hj;rw[iT ht hi];omega
    have hwn: ¬(F.length:Int)=(wantN l[i]:Nat):=by simpa using hb
    refine aM ?_;simp (maxSteps:=4000000) only[↓sP,sA,tyS,simprocAttr];repeat refine AI ?_
    refine hK _ _ _ ?_;clear hK K;refine aC fun K hK=>aE (by kernel_rfl) ?_;simp only[sR,simprocAttr];iterate 2
     (refine aF (g:=none) rfl rfl fun K' hK'=>?_;simp only[sH,↓sP,sA,tyS,simprocAttr];(repeat refine AI ?_);refine hK' _ _ ?_;clear hK' K')
    refine aF (g:=none) rfl rfl fun K' hK'=>?_;simp (maxSteps:=4000000) only[sH,↓sP,sA,tyS,simprocAttr];refine eX [0,1] (ih g (by omega) W' m' (cB l j (i+1)) hkb (by omega) q1 (by omega)) rfl ⟨(by rw[wG];rfl),rfl,trivial⟩ (by simp) (by simp) ⟨rfl,rfl,rfl,rfl⟩ (by simp[dS,HO.men,HV.men,HV.menL,bG]) (by simp[HV.menL,HV.men]) ?_;rintro r os' ⟨W2,m2,rfl,rfl,g2,g3,g4⟩;rw[wF,cB5];repeat refine AI ?_
    refine hK' _ _ ?_;clear hK' K';iterate 5
     (refine aF (g:=none) rfl rfl fun K' hK'=>?_;simp only[sH,↓sP,sA,tyS,simprocAttr];(repeat refine AI ?_);refine hK' _ _ ?_;clear hK' K')
    simp only[sE,↓reduceIte,simprocAttr];repeat refine AI ?_
    refine hK _ _ _ ?_;clear hK K;refine aC fun K hK=>aE (by kernel_rfl) ?_;simp (maxSteps:=4000000) only[↓sP,sA,tyS,simprocAttr];repeat refine AI ?_
    refine hK _ _ _ ?_;clear hK K;refine aK (b:=dK l (cF S) (cB l j (i+1))) rfl (fun hb=>?_) (fun hb=>?_)
    ·
     have hkv:dK l (cF S) (cB l j (i+1))=true:=hb;have hfl:F.length<wantN l[i]:=by
      have h1:=rJ l S g i (W.take m) j;rw[←q4,hgd]at h1;have:F.length≠wantN l[i]:=fun e=>hwn (by rw[e]);omega
     have hsp:gZ l S g i (j+1) (W.take m)=(prv l S g (cB l j (i+1)) (W'.take m'),F++[((prv l S g (cB l j (i+1)) (W'.take m')).length:Int)-1]):=by
      rw[eO,mY,←q3,←q4,if_pos ⟨by rw[hgd];exact hfl,hkv⟩]
     rw[if_pos hkv]at g4;have hm2:(prv l S g (cB l j (i+1)) (W'.take m')).length=m2:=by rw[←g4,List.length_take];omega
     rw[hm2]at hsp;refine aE (by kernel_rfl) ?_;simp only[sR,simprocAttr];iterate 5
      (refine aF (g:=none) rfl rfl fun K' hK'=>?_;simp only[sH,↓sP,sA,tyS,simprocAttr,List.length_map,hF2,hF3];(repeat refine AI ?_);refine hK' _ _ ?_;clear hK' K')
     simp only[sE,↓reduceIte,simprocAttr];repeat refine AI ?_
     refine hK _ _ _ ?_;clear hK K;refine aE (by kernel_rfl) ?_;simp (maxSteps:=4000000) only[↓sP,sA,tyS,simprocAttr,IntWalk.i64_in _ (show-9223372036854775808≤(j:Int)+1∧(j:Int)+1≤9223372036854775807 by omega)];refine⟨⟨(j+1,W2,m2,F++[(m2:Int)-1]),hlt,⟨g2,?_,by rw[hsp];exact g4,by rw[hsp]⟩⟩,(aO (by omega) (by simp[aX,fin_at,finA_at,upd_at,HV.men,HV.menL,HV.norm,HV.toC,HV.toCL,pvb,bG,aR,List.map_append,List.length_append,List.length_map,hkv]) (by simp[aY,fob_at,upd_at,none0_at,bO,HO.men,HV.men,HV.menL,HV.norm,HV.toC,HV.toCL,pvb,bG,aR,List.map_append,List.length_append,List.length_map,hkv])),?_⟩
     · show W2.length+(i+1)≤W.length+cB l (j+1) (i+1);rw[cK];omega
     show l[i].c.toNat-(j+1)<l[i].c.toNat-j;omega
    have hkv:dK l (cF S) (cB l j (i+1))=false:=hb;refine aM ?_;simp (maxSteps:=4000000) only[↓sP,sA,tyS,simprocAttr];repeat refine AI ?_
    refine hK _ _ _ ?_;clear hK K;refine aE (by kernel_rfl) ?_;simp (maxSteps:=4000000) only[↓sP,sA,tyS,simprocAttr,IntWalk.i64_in _ (show-9223372036854775808≤(j:Int)+1∧(j:Int)+1≤9223372036854775807 by omega)];refine⟨⟨(j+1,W2,m2,F),hlt,⟨g2,?_,?_,?_⟩⟩,(aO (by omega) (by simp[aX,fin_at,finA_at,upd_at,HV.men,HV.menL,HV.norm,HV.toC,HV.toCL,pvb,bG,aR]) (by simp[aY,fob_at,upd_at,none0_at,bO,HO.men,HV.men,HV.menL,HV.norm,HV.toC,HV.toCL,pvb,bG,aR])),?_⟩
    · show W2.length+(i+1)≤W.length+cB l (j+1) (i+1);rw[cK];omega
    · rw[eO,mY,if_neg (fun hc=>by rw[hkv]at hc;cases hc.2),←q3];rw[hkv]at g4;exact g4
    · rw[eO,mY,if_neg (fun hc=>by rw[hkv]at hc;cases hc.2)];exact q4
    show l[i].c.toNat-(j+1)<l[i].c.toNat-j;omega
   refine aZ ?_;simp (maxSteps:=4000000) only[↓sP,sA,tyS,simprocAttr];clear hK K;have hje:j=l[i].c.toNat:=by have:=of_decide_eq_false hb;omega
   subst hje;exact key W' m' F _ _ _ hst (aO (by omega) (by simp[aX,fin_at,finA_at,upd_at,HV.men,HV.menL,HV.norm,HV.toC,HV.toCL,pvb,bG,aR]) (by simp[aY,fob_at,upd_at,none0_at,bO,HO.men,HV.men,HV.menL,HV.norm,HV.toC,HV.toCL,pvb,bG,aR]))
  by_cases hmW:m=W.length
  ·
   refine aE (by kernel_rfl) ?_;simp only[sR,simprocAttr];iterate 6
    (refine aF (g:=none) rfl rfl fun K' hK'=>?_;simp only[sH,↓sP,sA,tyS,simprocAttr,pvb,hmW,cA,List.length_map];(repeat refine AI ?_);refine hK' _ _ ?_;clear hK' K')
   simp only[sE,↓reduceIte,simprocAttr];exact key _ _ _ (aO (by omega) (by simp[aX,fin_at,finA_at,upd_at,HV.men,HV.menL,HV.norm,HV.toC,HV.toCL,pvb,bG,aR,hmW,cA]) (by simp[aY,fob_at,upd_at,none0_at,bO,HO.men,HV.men,HV.menL,HV.norm,HV.toC,HV.toCL,pvb,bG,aR,hmW,cA]))
  have hWp:0<W.length:=by omega
  refine aE (by kernel_rfl) ?_;simp only[sR,simprocAttr];iterate 6
   (refine aF (g:=none) rfl rfl fun K' hK'=>?_;simp only[sH,↓sP,sA,tyS,simprocAttr,pvb,bW hmW,List.length_map,hWp,hm,Nat.zero_le,List.length_take,List.length_drop,Nat.sub_zero,Nat.min_eq_left hm];(repeat refine AI ?_);refine hK' _ _ ?_;clear hK' K')
  simp only[sE,↓reduceIte,simprocAttr];exact key _ _ _ (aO (by omega) (by simp[aX,fin_at,finA_at,upd_at,HV.men,HV.menL,HV.norm,HV.toC,HV.toCL,pvb,bG,aR,bW hmW]) (by simp[aY,fob_at,upd_at,none0_at,bO,HO.men,HV.men,HV.menL,HV.norm,HV.toC,HV.toCL,pvb,bG,aR,bW hmW]))
 refine aC fun K hK=>aE (by kernel_rfl) ?_;simp (maxSteps:=4000000) only[↓sP,sA,tyS,simprocAttr];repeat refine AI ?_
 refine hK _ _ _ ?_;clear hK K;refine aN ?_;refine aC fun K hK=>aE (by kernel_rfl) ?_;simp (maxSteps:=4000000) only[↓sP,sA,tyS,simprocAttr];repeat refine AI ?_
 refine hK _ _ _ ?_;clear hK K;refine aK (b:=(l[i].k==3)) rfl (fun hb=>?_) (fun hb=>?_)
 ·
  refine aE (by kernel_rfl) ?_;simp (maxSteps:=4000000) only[↓sP,sA,tyS,simprocAttr];have h3:l[i].k=3:=by simpa using hb
  have e1:eI l[i]=3:=by unfold eI;rw[if_neg (by omega),if_pos h3]
  have e2:wantN l[i]=1:=by unfold wantN;rw[if_neg (by omega),if_pos h3]
  exact key _ _ _ (aO (by omega) (by simp[aX,fin_at,finA_at,upd_at,HV.men,HV.menL,HV.norm,HV.toC,HV.toCL,pvb,bG,aR,e1,e2]) (by simp[aY,fob_at,upd_at,none0_at,bO,HO.men,HV.men,HV.menL,HV.norm,HV.toC,HV.toCL,pvb,bG,aR,e1,e2]))
 have hk3:l[i].k≠3:=by simpa using hb
 refine aC fun K hK=>aE (by kernel_rfl) ?_;simp (maxSteps:=4000000) only[↓sP,sA,tyS,simprocAttr];repeat refine AI ?_
 refine hK _ _ _ ?_;clear hK K;refine aK (b:=(l[i].k==4)) rfl (fun hb=>?_) (fun hb=>?_)
 ·
  refine kF mixed (by kernel_rfl) (by kernel_rfl) (by kernel_rfl) ?_;simp only[sR,simprocAttr];iterate 4
   (refine aF (g:=none) rfl rfl fun K' hK'=>?_;simp only[sH,↓sP,sA,tyS,simprocAttr];(repeat refine AI ?_);refine hK' _ _ ?_;clear hK' K')
  simp only[sE,↓reduceIte,simprocAttr];have h4:l[i].k=4:=by simpa using hb
  have h5:1≤l[i].n:=by omega
  have e1:eI l[i]=4:=by unfold eI;rw[if_neg (by omega),if_neg (by omega)]
  have e2:l[i].n=(wantN l[i]:Nat):=by unfold wantN;rw[if_neg (by omega),if_neg (by omega)];omega
  exact key _ _ _ (aO (by omega) (by simp[aX,fin_at,finA_at,upd_at,HV.men,HV.menL,HV.norm,HV.toC,HV.toCL,pvb,bG,aR,e1,←e2]) (by simp[aY,fob_at,upd_at,none0_at,bO,HO.men,HV.men,HV.menL,HV.norm,HV.toC,HV.toCL,pvb,bG,aR,e1,←e2]))
 refine aM ?_;simp (maxSteps:=4000000) only[↓sP,sA,tyS,simprocAttr];have h4:l[i].k=2:=by simp at hb;omega
 have e1:eI l[i]=2:=by unfold eI;rw[if_pos h4]
 have e2:l[i].c=(wantN l[i]:Nat):=by unfold wantN;rw[if_pos h4];omega
 exact key _ _ _ (aO (by omega) (by simp[aX,fin_at,finA_at,upd_at,HV.men,HV.menL,HV.norm,HV.toC,HV.toCL,pvb,bG,aR,e1,←e2]) (by simp[aY,fob_at,upd_at,none0_at,bO,HO.men,HV.men,HV.menL,HV.norm,HV.toC,HV.toCL,pvb,bG,aR,e1,←e2]))
theorem cU4 (a b n:Nat)(ob:Ob)(x y:HO):jD (sub [a,b] n) ob 0 [x,y]=upd (upd ob a (some (x.ren (sub [a,b] n)))) b (some (y.ren (sub [a,b] n))):=rfl
theorem aT9 (a b n:Nat)(ob:Ob)(l:List Nd)(S:List Sp)(W:List Ln)(m:Nat):jD (sub [a,b] n) ob 0 (osP l S W m)=upd (upd ob a (some (.box 80 (pvb l S (cI b W.length 4 m))))) b (some (.row 41 4 (W.map Ln.cv))):=by
 rw[cU4];simp[HO.ren,HV.ren,HV.renL,pvb,jW,sub]
theorem aU0 (a b n:Nat)(t:TypeId)(l:List Nd)(S:List Sp)(k m:Nat):(HO.box t (pvb l S (cI 1 k 4 m))).ren (sub [a,b] n)= .box t (pvb l S (cI b k 4 m)):=by
 simp[HO.ren,HV.ren,HV.renL,pvb,jW,sub]
theorem cJ1 (a b n:Nat)(x y:CV):HV.ren (sub [a,b] n) (.tup [.c x,.c y])= .tup [.c x,.c y]:=rfl
theorem cP9 (a b n:Nat)(x:CV):HV.ren (sub [a,b] n) (.c x)= .c x:=rfl
theorem bA6 {id n m:Nat}{e:TypeId}{L:List CV}(h:ob id=some (.row e 4 L))(hn:n=L.length)(hm:m≤n):(cI id n 4 m).close ob [id]= .c (.slc (L.take m)):=by
 unfold cI;split
 · rename_i e1;rw[HV.close,if_pos (by simp)];simp only[h];rw[if_pos hn,e1,hn,List.take_length]
 rename_i e1;rw[HV.close,if_pos (by simp)];simp only[h];rw[if_pos ⟨hn,by omega,trivial,by omega,hm⟩];rfl
theorem bO8 (id n sz m:Nat):HV.getAt 0 1 false (cI id n sz m)=some (cI id n sz m):=by unfold cI;split<;>rfl
theorem cB7 (l:List Nd)(hn: ∀n∈l,n.q.t.length<2^63)(S:List Sp)(hS:S.length<2^40)(hd: ∀x∈S,x.d.length<2^42):iJ Tryz.prog 14 [.slc (l.map Nd.cv),.slc (S.map Sp.cv)] (fun u v=>u= .slc ((dY l S).map Ln.cv)∧v= .bool (eH l (cF S))):=by
 have hTl:(cF S).length<2^63:=by unfold cF;rw[List.length_map];omega
 refine bI Tryz.func14 rfl (by kernel_rfl) (dJ _) (Nat.le_of_ble_eq_true rfl) ?_;refine aC fun K hK=>aE (by kernel_rfl) ?_;simp (maxSteps:=4000000) only[↓sP,sA,tyS,simprocAttr];repeat refine AI ?_
 refine hK _ _ _ ?_;clear hK K;refine aC fun K hK=>?_;refine aC fun K hK=>aE (by kernel_rfl) ?_;simp only[sR,simprocAttr];iterate 2
  (refine aF (g:=none) rfl rfl fun K' hK'=>?_;simp only[sH,↓sP,sA,tyS,simprocAttr,denilL_Sp,denilL_Nd,dT];(repeat refine AI ?_);refine hK' _ _ ?_;clear hK' K')
 refine aF (g:=none) rfl rfl fun K' hK'=>?_;simp (maxSteps:=4000000) only[sH,↓sP,sA,tyS,simprocAttr,denilL_Sp,denilL_Nd,dT];refine cZ (args:=[_]) (cB2 S hS) ⟨rfl,rfl,rfl,rfl⟩ ?_;rintro u rfl;repeat refine AI ?_
 refine hK' _ _ ?_;clear hK' K';refine aF (g:=none) rfl rfl fun K' hK'=>?_;simp (maxSteps:=4000000) only[sH,↓sP,sA,tyS,simprocAttr,denilL_Sp,denilL_Nd,dT];refine cZ (args:=[_,_]) (cI9 l hn (cF S) hTl) ⟨rfl,rfl,rfl,rfl⟩ ?_;rintro u rfl;repeat refine AI ?_
 refine hK' _ _ ?_;clear hK' K';refine aF (g:=none) rfl rfl fun K' hK'=>?_;simp (maxSteps:=4000000) only[sH,↓sP,sA,tyS,simprocAttr,denilL_Sp,denilL_Nd,dT];repeat refine AI ?_
 refine hK' _ _ ?_;clear hK' K';simp only[sE,↓reduceIte,simprocAttr];repeat refine AI ?_
 refine hK _ _ _ ?_;clear hK K;refine aK (b:=!eH l (cF S)) rfl (fun hb=>?_) (fun hb=>?_)
 ·
  refine aC fun K hK=>aE (by kernel_rfl) ?_;simp (maxSteps:=4000000) only[↓sP,sA,tyS,simprocAttr];repeat refine AI ?_
  refine hK _ _ _ ?_;clear hK K;refine aH ?_;simp (maxSteps:=4000000) only[bS,Tryz.results14,bP,bR,bN,↓sP,sA,tyS,simprocAttr];have hev:eH l (cF S)=false:=by simpa using hb
  exact bD [] (.slc []) (.bool false) (by simp[HV.close,HV.closeL,CV.denil,CV.denilL,HV.norm,HV.toC,HV.toCL]) ⟨by rw[dY,hev];rfl,by rw[hev]⟩
 have hev:eH l (cF S)=true:=by simpa using hb
 clear hb;have htb:dU l=true:=by
  unfold eH at hev;rw[Bool.and_eq_true]at hev;exact hev.1
 have hv:dK l (cF S) 0=true:=by
  unfold eH at hev;rw[Bool.and_eq_true]at hev;exact hev.2
 have ht:=eT htb;have hlen:=ht.len;have hne:0<l.length:=ht.ne;refine aM ?_;simp (maxSteps:=4000000) only[↓sP,sA,tyS,simprocAttr];repeat refine AI ?_
 refine hK _ _ _ ?_;clear hK K;refine aC fun K hK=>aE (by kernel_rfl) ?_;simp only[sR,simprocAttr];iterate 2
  (refine aF (g:=none) rfl rfl fun K' hK'=>?_;simp only[sH,↓sP,sA,tyS,simprocAttr,denilL_Sp,denilL_Nd];(repeat refine AI ?_);refine hK' _ _ ?_;clear hK' K')
 refine aF (g:=none) rfl rfl fun K' hK'=>?_;simp (maxSteps:=4000000) only[sH,↓sP,sA,tyS,simprocAttr,denilL_Sp,denilL_Nd];refine cZ (args:=[_]) (uF l hn) ⟨rfl,rfl,rfl,rfl⟩ ?_;rintro u rfl;repeat refine AI ?_
 refine hK' _ _ ?_;clear hK' K';iterate 4
  (refine aF (g:=none) rfl rfl fun K' hK'=>?_;simp only[sH,↓sP,sA,tyS,simprocAttr,denilL_Sp,denilL_Nd];(repeat refine AI ?_);refine hK' _ _ ?_;clear hK' K')
 simp only[sE,↓reduceIte,simprocAttr];repeat refine AI ?_
 refine hK _ _ _ ?_;clear hK K;refine dX 48 3 41 4 rfl rfl rfl rfl ?_;refine aC fun K hK=>aE (by kernel_rfl) ?_;simp only[sR,simprocAttr];refine aF (g:=none) rfl rfl fun K' hK'=>?_;simp (maxSteps:=4000000) only[sH,↓sP,sA,tyS,simprocAttr,pvb];repeat refine AI ?_
 refine hK' _ _ ?_;clear hK' K';refine aF (g:=none) rfl rfl fun K' hK'=>?_;simp (maxSteps:=4000000) only[sH,↓sP,sA,tyS,simprocAttr,pvb];refine eX [48,56] (cB6 l htb hn S hS hd l.length [] 0 0 hne (by omega) (by simp) (by have:=(fI ht hne).2.1;simp only[List.length_nil];omega)) rfl ⟨(by rw[aU0];rfl),rfl,trivial⟩ (by simp) (by simp) ⟨rfl,rfl,rfl,rfl⟩ (by simp[dS,HO.men,HV.men,HV.menL,bG]) (by simp[HV.menL,HV.men]) ?_;rintro r os' ⟨W',m',rfl,rfl,g2,g3,g4⟩;rw[aT9,cJ1,hv];have ha:=(fI ht hne).2.1;have g5:W'.take m'=nT l S:=by rw[g4,if_pos hv];rfl
 have g6:m'=(nT l S).length:=by rw[←g5,List.length_take];omega
 simp only[List.length_nil]at g3;repeat refine AI ?_
 refine hK' _ _ ?_;clear hK' K';iterate 5
  (refine aF (g:=none) rfl rfl fun K' hK'=>?_;simp only[sH,↓sP,sA,tyS,simprocAttr,pvb];(repeat refine AI ?_);refine hK' _ _ ?_;clear hK' K')
 simp only[sE,↓reduceIte,simprocAttr];repeat refine AI ?_
 refine hK _ _ _ ?_;clear hK K;refine aC fun K hK=>?_;refine aC fun K hK=>aE (by kernel_rfl) ?_;simp (maxSteps:=4000000) only[↓sP,sA,tyS,simprocAttr];repeat refine AI ?_
 refine hK _ _ _ ?_;clear hK K;refine aK (b:=false) rfl (fun hb=>?_) (fun hb=>?_)
 · cases hb
 refine aM ?_;simp (maxSteps:=4000000) only[↓sP,sA,tyS,simprocAttr];repeat refine AI ?_
 refine hK _ _ _ ?_;clear hK K;refine aC fun K hK=>bY (by kernel_rfl) ?_;simp only[sR,simprocAttr];iterate 2
  (refine aU (g:=none) rfl rfl fun K' hK'=>?_;simp only[sH,↓sP,sA,tyS,simprocAttr,pvb,aV,aS,aR];(repeat refine AI ?_);refine hK' _ _ ?_;clear hK' K')
 refine cT (g:=none) 101 rfl rfl fun K' hK'=>?_;simp (maxSteps:=4000000) only[gP,jP,sH,↓sP,sA,tyS,simprocAttr,pvb,aV,aS,aR];repeat refine AI ?_
 refine dA (by first|rfl|simp) ?_;try simp (maxSteps:=4000000) only[sH,↓sP,sA,tyS,simprocAttr,pvb,aV,aS,aR]
 repeat refine AI ?_
 refine hK' _ _ ?_;clear hK' K';refine aU (g:=none) rfl rfl fun K' hK'=>?_;simp (maxSteps:=4000000) only[sH,↓sP,sA,tyS,simprocAttr,pvb,aV,aS,aR];repeat refine AI ?_
 refine hK' _ _ ?_;clear hK' K';refine aU (g:=none) rfl rfl fun K' hK'=>?_;simp (maxSteps:=4000000) only[sH,↓sP,sA,tyS,simprocAttr,pvb,aV,aS,aR];refine eX [48,56] (aK5 l S W' m' ⟨5,0,[],[(m':Int)-1]⟩ g2 (by omega)) rfl ⟨(by rw[aU0];rfl),rfl,trivial⟩ (by simp) (by simp) ⟨rfl,rfl,rfl,rfl⟩ (by simp[dS,HO.men,HV.men,HV.menL,bG]) (by simp[HV.menL,HV.men]) ?_;rintro r os' ⟨rfl,rfl⟩;rw[aT9,cP9];repeat refine AI ?_
 refine hK' _ _ ?_;clear hK' K';simp only[sE,↓reduceIte,simprocAttr];repeat refine AI ?_
 refine hK _ _ _ ?_;clear hK K;refine aC fun K hK=>aE (by kernel_rfl) ?_;simp only[sR,simprocAttr];iterate 6
  (refine aF (g:=none) rfl rfl fun K' hK'=>?_;simp only[sH,↓sP,sA,tyS,simprocAttr,pvb,bO8,zF,aV,aS,aR];(repeat refine AI ?_);refine hK' _ _ ?_;clear hK' K')
 simp only[sE,↓reduceIte,simprocAttr];repeat refine AI ?_
 refine hK _ _ _ ?_;clear hK K;refine aH ?_;simp (maxSteps:=4000000) only[bS,Tryz.results14,bP,bR,bN,↓sP,sA,tyS,simprocAttr];refine⟨by rw[zF];exact not_false,?_⟩;refine bD [56] (.slc ((dY l S).map Ln.cv)) (.bool true) ?_ ⟨rfl,by rw[hev]⟩;have e1:List.take (m'+1) ((oH W' m' ⟨5,0,[],[(m':Int)-1]⟩).map Ln.cv)=(dY l S).map Ln.cv:=by
  rw[←List.map_take,uH g2,g5,dY,if_pos hev,g6]
 simp only[HV.close,HV.closeL];rw[bA6 (L:=(oH W' m' ⟨5,0,[],[(m':Int)-1]⟩).map Ln.cv) rfl (by simp) (by rw[kO g2];omega),e1];simp[HV.norm,HV.toC,HV.toCL,CV.denil]
theorem cJ2 (l:List Dig)(d:Dig)(hl:l.length<2^40):cE Tryz.prog 65 [.slc (l.map dg),dg d] (fun v=>v= .bool (l.contains d)):=by
 refine bI Tryz.func65 rfl (by kernel_rfl) (dJ _) (Nat.le_of_ble_eq_true rfl) ?_;refine aC fun K hK=>aE (by kernel_rfl) ?_;simp (maxSteps:=4000000) only[↓sP,sA,tyS,simprocAttr];repeat refine AI ?_
 refine hK _ _ _ ?_;clear hK K;refine aC fun K hK=>?_;refine aC fun K hK=>aE (by kernel_rfl) ?_;simp (maxSteps:=4000000) only[↓sP,sA,tyS,simprocAttr];repeat refine AI ?_
 refine hK _ _ _ ?_;clear hK K;refine aN ?_;refine bH (α:={i:Nat//i≤l.length∧ ∀x∈l.take i,(x==d)=false}) (fun i=>(fin [(0,.c (.slc (l.map dg))),(3,.ptr 0 0),(5,.c (.int .i64 i.1))],fob [(0,.box 44 (.c (dg d)))])) 100 (fun i=>l.length-i.1) ⟨0,by omega,by simp⟩ (aO (by omega) (by simp[aX,fin_at,finA_at,upd_at,HV.men,HV.menL,HV.norm,HV.toC,HV.toCL]) (by simp[aY,fob_at,upd_at,none0_at,bO,HO.men,HV.men,HV.menL,HV.norm,HV.toC,HV.toCL])) ?_;rintro⟨i,hi,h0⟩;refine aC fun K hK=>?_;refine aC fun K hK=>aE (by kernel_rfl) ?_;simp only[sR,simprocAttr];iterate 4
  (refine aF (g:=none) rfl rfl fun K' hK'=>?_;simp only[sH,↓sP,sA,tyS,simprocAttr];(repeat refine AI ?_);refine hK' _ _ ?_;clear hK' K')
 simp only[sE,↓reduceIte,simprocAttr];repeat refine AI ?_
 refine hK _ _ _ ?_;clear hK K;refine aK (b:=decide ((i:Int)<l.length)) rfl (fun hb=>?_) (fun hb=>?_)
 ·
  have hlt:i<l.length:=by simpa using hb
  refine aM ?_;simp (maxSteps:=4000000) only[↓sP,sA,tyS,simprocAttr];repeat refine AI ?_
  refine hK _ _ _ ?_;clear hK K;refine aC fun K hK=>?_;refine aN ?_;refine aC fun K hK=>kF mixed (by kernel_rfl) (by kernel_rfl) (by kernel_rfl) ?_;simp only[sR,simprocAttr];iterate 6
   (refine aF (g:=none) rfl rfl fun K' hK'=>?_;simp only[sH,↓sP,sA,tyS,simprocAttr,Int.natCast_nonneg,Int.ofNat_lt,hlt,bK hlt];(repeat refine AI ?_);refine hK' _ _ ?_;clear hK' K')
  simp only[sE,↓reduceIte,simprocAttr];repeat refine AI ?_
  refine hK _ _ _ ?_;clear hK K;refine aK (b:=l[i]==d) rfl (fun hb=>?_) (fun hb=>?_)
  ·
   refine aC fun K hK=>aE (by kernel_rfl) ?_;simp (maxSteps:=4000000) only[↓sP,sA,tyS,simprocAttr];repeat refine AI ?_
   refine hK _ _ _ ?_;clear hK K;refine aH ?_;simp (maxSteps:=4000000) only[bS,Tryz.results65,bP,bR,bN,↓sP,sA,tyS,simprocAttr];exact aJ [] (.bool true) rfl (by have:=List.getElem_mem hlt;have e:l[i]=d:=(eq_of_beq hb);rw[e]at this;simp[this])
  refine aM ?_;simp (maxSteps:=4000000) only[↓sP,sA,tyS,simprocAttr];repeat refine AI ?_
  refine hK _ _ _ ?_;clear hK K;refine aE (by kernel_rfl) ?_;simp (maxSteps:=4000000) only[↓sP,sA,tyS,simprocAttr,IntWalk.i64_in _ (show-9223372036854775808≤(i:Int)+1∧(i:Int)+1≤9223372036854775807 by omega)];refine⟨⟨i+1,hlt,aD9 (p:=fun x=>x==d) hlt hb h0⟩,aO (by omega) (by simp[aX,fin_at,finA_at,upd_at,HV.men,HV.menL,HV.norm,HV.toC,HV.toCL]) (by simp[aY,fob_at,upd_at,none0_at,bO,HO.men,HV.men,HV.menL,HV.norm,HV.toC,HV.toCL]),?_⟩;show l.length-(i+1)<l.length-i;omega
 refine aZ ?_;simp (maxSteps:=4000000) only[↓sP,sA,tyS,simprocAttr];clear hK K;repeat refine AI ?_
 refine hK _ _ _ ?_;clear hK K;refine aC fun K hK=>aE (by kernel_rfl) ?_;simp (maxSteps:=4000000) only[↓sP,sA,tyS,simprocAttr];repeat refine AI ?_
 refine hK _ _ _ ?_;clear hK K;refine aH ?_;simp (maxSteps:=4000000) only[bS,Tryz.results65,bP,bR,bN,↓sP,sA,tyS,simprocAttr];have hei:i=l.length:=by simp at hb;omega
 subst hei;exact aJ [] (.bool false) rfl (by rw[List.take_length]at h0;have:d∉l:=(fun hm=>by have:=h0 d hm;simp at this);simp[this])
theorem cJ3 (a b:Dig):cE Tryz.prog 66 [dg a,dg b] (fun v=>v= .bool (dlt a b)):=by
 refine bI Tryz.func66 rfl (by kernel_rfl) (dJ _) (Nat.le_of_ble_eq_true rfl) ?_;refine aC fun K hK=>aE (by kernel_rfl) ?_;simp (maxSteps:=4000000) only[↓sP,sA,tyS,simprocAttr];repeat refine AI ?_
 refine hK _ _ _ ?_;clear hK K;refine aC fun K hK=>?_;refine aC fun K hK=>aE (by kernel_rfl) ?_;simp (maxSteps:=4000000) only[↓sP,sA,tyS,simprocAttr];repeat refine AI ?_
 refine hK _ _ _ ?_;clear hK K;refine aN ?_;refine bH (α:={i:Nat//i≤32∧a.1.take i=b.1.take i}) (fun i=>(fin [(2,.ptr 0 0),(3,.ptr 4 0),(5,.c (.int .i64 i.1))],fob [(0,.box 44 (.c (dg a))),(4,.box 44 (.c (dg b)))])) 100 (fun i=>32-i.1) ⟨0,by omega,by simp⟩ (aO (by omega) (by simp[aX,fin_at,finA_at,upd_at,HV.men,HV.menL,HV.norm,HV.toC,HV.toCL]) (by simp[aY,fob_at,upd_at,none0_at,bO,HO.men,HV.men,HV.menL,HV.norm,HV.toC,HV.toCL])) ?_;rintro⟨i,hi,h0⟩;refine aC fun K hK=>?_;refine aC fun K hK=>aE (by kernel_rfl) ?_;simp (maxSteps:=4000000) only[↓sP,sA,tyS,simprocAttr];repeat refine AI ?_
 refine hK _ _ _ ?_;clear hK K;refine aK (b:=decide ((i:Int)<32)) rfl (fun hb=>?_) (fun hb=>?_)
 ·
  have hlt:i<32:=by simp at hb;omega
  have hlt':(i:Int)<32:=by omega
  have ha:i<a.1.length:=by rw[a.2];exact hlt
  have hb':i<b.1.length:=by rw[b.2];exact hlt
  refine aM ?_;simp (maxSteps:=4000000) only[↓sP,sA,tyS,simprocAttr];repeat refine AI ?_
  refine hK _ _ _ ?_;clear hK K;refine aC fun K hK=>?_;refine aN ?_;refine aC fun K hK=>kF mixed (by kernel_rfl) (by kernel_rfl) (by kernel_rfl) ?_;simp only[sR,simprocAttr];iterate 7
   (refine aF (g:=none) rfl rfl fun K' hK'=>?_;simp only[sH,↓sP,sA,tyS,simprocAttr,Int.natCast_nonneg,hlt',bV5 hlt,Nat.mul_one,u8];(repeat refine AI ?_);refine hK' _ _ ?_;clear hK' K')
  simp only[sE,↓reduceIte,simprocAttr];repeat refine AI ?_
  refine hK _ _ _ ?_;clear hK K;refine aK (b:=(((a.1[i]).toNat:Int) !=((b.1[i]).toNat:Int))) rfl (fun hb=>?_) (fun hb=>?_)
  ·
   refine aC fun K hK=>kF mixed (by kernel_rfl) (by kernel_rfl) (by kernel_rfl) ?_;simp only[sR,simprocAttr];iterate 8
    (refine aF (g:=none) rfl rfl fun K' hK'=>?_;simp only[sH,↓sP,sA,tyS,simprocAttr,Int.natCast_nonneg,hlt',bV5 hlt,Nat.mul_one,u8];(repeat refine AI ?_);refine hK' _ _ ?_;clear hK' K')
   simp only[sE,↓reduceIte,simprocAttr];repeat refine AI ?_
   refine hK _ _ _ ?_;clear hK K;refine aH ?_;simp (maxSteps:=4000000) only[bS,Tryz.results66,bP,bR,bN,↓sP,sA,tyS,simprocAttr];rw[cL3]at hb;exact aJ [] (.bool _) rfl (by rw[cT1,cN6 hlt h0 (by simpa using hb)])
  refine aM ?_;simp (maxSteps:=4000000) only[↓sP,sA,tyS,simprocAttr];repeat refine AI ?_
  refine hK _ _ _ ?_;clear hK K;refine aE (by kernel_rfl) ?_;simp (maxSteps:=4000000) only[↓sP,sA,tyS,simprocAttr,IntWalk.i64_in _ (show-9223372036854775808≤(i:Int)+1∧(i:Int)+1≤9223372036854775807 by omega)];rw[cL3]at hb;refine⟨⟨i+1,hlt,?_⟩,aO (by omega) (by simp[aX,fin_at,finA_at,upd_at,HV.men,HV.menL,HV.norm,HV.toC,HV.toCL]) (by simp[aY,fob_at,upd_at,none0_at,bO,HO.men,HV.men,HV.menL,HV.norm,HV.toC,HV.toCL]),?_⟩
  ·
   rw[List.take_succ_eq_append_getElem ha,List.take_succ_eq_append_getElem hb',h0];have:a.1[i]=b.1[i]:=by simpa using hb
   rw[this]
  show 32-(i+1)<32-i;omega
 refine aZ ?_;simp (maxSteps:=4000000) only[↓sP,sA,tyS,simprocAttr];clear hK K;repeat refine AI ?_
 refine hK _ _ _ ?_;clear hK K;refine aC fun K hK=>aE (by kernel_rfl) ?_;simp (maxSteps:=4000000) only[↓sP,sA,tyS,simprocAttr];repeat refine AI ?_
 refine hK _ _ _ ?_;clear hK K;refine aH ?_;simp (maxSteps:=4000000) only[bS,Tryz.results66,bP,bR,bN,↓sP,sA,tyS,simprocAttr];have hei:i=32:=by simp at hb;omega
 subst hei;exact aJ [] (.bool false) rfl (by rw[bV4 h0])
theorem aU1 (l:List Dig)(hl:l.length<2^40):cN3 Tryz.prog 57 44 32 (l.map dg) [] (fun l'=> ∃K:List Dig,l'=K.map dg∧dws K=cM (dws l)):=by
 refine cD9 ?_;show HFn _ _ [.own 0 (l.map dg).length] 1 _ _;rw[List.length_map];refine bI (args:=[.own 0 l.length]) Tryz.func57 rfl (by kernel_rfl) (xI 44 32 l.length _) (Nat.le_of_ble_eq_true rfl) ?_;refine R0 ?_;refine aC fun K hK=>?_;refine R0 ?_;refine aK (b:=decide ((l.length:Int)<2)) rfl (fun hb=>?_) (fun hb=>?_)
 · refine R0 ?_;refine aH (RT Tryz.results57 ?_);exact rL (l.map dg) rfl (by simp) ⟨l,rfl,by rw[vF (by rw[fW];simp at hb;omega)]⟩
 refine aM ?_;refine T0 (hK _ _ _ ?_);clear hK K;refine aC fun K hK=>?_;refine R0 ?_;refine aN ?_;have h2:2≤l.length:=by simp at hb;omega
 refine bH (α:={k:Nat//1≤k∧k≤l.length∧cM (dws (l.take k))=dws (l.take k)}) (fun k=>(fin [(0,.own 0 l.length),(3,.c (.int .i64 k.1))],fob [(0,.row 44 32 (l.map dg))])) 100 (fun k=>l.length-k.1) ⟨1,by omega,by omega,vF (by rw[fW];simp;omega)⟩ (fF) ?_;clear hb;rintro⟨k,hk1,hk,hd⟩;refine aC fun K hK=>?_;refine aC fun K hK=>Rg ?_;iterate 4 refine S0 ?_
 refine T2 (hK _ _ _ ?_);clear hK K;refine aK (b:=decide ((k:Int)<l.length)) rfl (fun hb=>?_) (fun hb=>?_)
 ·
  have hlt:k<l.length:=by simpa using hb
  have hlt1:k-1<l.length:=by omega
  have m1:IntKind.i64.wrap ((k:Int)-1)=((k-1:Nat):Int):=by rw[IntWalk.i64_in _ (by omega)];omega
  refine aM ?_;refine T0 (hK _ _ _ ?_);clear hK K;refine aC fun K hK=>?_;refine aN ?_;refine aC fun K hK=>QR ?_;have F:=aI m1 (aI @Int.natCast_nonneg (aI @Int.ofNat_lt (aI hlt (aI hlt1 (aI (nM hlt) (nM hlt1))))));iterate 10 refine SF ?_
  refine T2 (hK _ _ _ ?_);clear hK K;refine aK (b:=l[k]==l[k-1]) rfl (fun hb=>?_) (fun hb=>?_)
  ·
   refine aC fun K hK=>Rg ?_;iterate 4 refine S0 ?_
   refine T2 (hK _ _ _ ?_);clear hK K;refine aC fun K hK=>?_;refine R0 ?_;refine aN ?_;refine bH (α:={x:Nat×Nat×List Dig//x.2.2.length=l.length∧1≤x.1∧x.1<x.2.1∧x.2.1≤l.length∧k<x.2.1∧dws (x.2.2.take x.1)=cM (dws (l.take x.2.1))∧x.2.2.drop (x.2.1-1)=l.drop (x.2.1-1)}) (fun x=>(fin [(0,.own 0 l.length),(3,.c (.int .i64 x.1.1)),(4,.osl 0 l.length k 32 l.length),(5,.c (.int .i64 ((x.1.2.1-k:Nat):Int)))],fob [(0,.row 44 32 (x.1.2.2.map dg))])) 300 (fun x=>l.length-x.1.2.1) ⟨(k,k+1,l),rfl,hk1,by simp,hlt,by simp,by rw[bF5 hk1 hlt hb,hd],rfl⟩ (fF) ?_;rintro⟨⟨i,j,r⟩,hr,hi1,hij,hj,hkj,g1,g2⟩;simp only at hr hi1 hij hj hkj g1 g2⊢;have hrl:(r.map dg).length=l.length:=by rw[List.length_map,hr]
   have p0:0<l.length:=by omega
   have e9:(List.take (l.length-k) (List.drop k (r.map dg))).length=l.length-k:=by simp[hr]
   refine aC fun K hK=>?_;refine aC fun K hK=>Rg ?_;have F:=aI hr (aI p0 (aI hk (aI @Nat.le_refl e9)));iterate 4 refine SF ?_
   refine T2 (hK _ _ _ ?_);clear hK K;refine aK (b:=decide (((j-k:Nat):Int)<((l.length-k:Nat):Int))) rfl (fun hb=>?_) (fun hb=>?_)
   ·
    have hjl:j<l.length:=by simp at hb;omega
    have hjr:j<r.length:=by omega
    have hj1r:j-1<r.length:=by omega
    have hir:i<r.length:=by omega
    have hil:i<l.length:=by omega
    have hj1l:j-1<l.length:=by omega
    have z1:((j-k:Nat):Int)<((l.length-k:Nat):Int):=by omega
    have z2:((j-k-1:Nat):Int)<((l.length-k:Nat):Int):=by omega
    have e1:k+(j-k)=j:=by omega
    have e2:k+(j-k-1)=j-1:=by omega
    have m2:IntKind.i64.wrap (((j-k:Nat):Int)-1)=((j-k-1:Nat):Int):=by rw[IntWalk.i64_in _ (by omega)];omega
    have m3:IntKind.i64.wrap (((j-k:Nat):Int)+1)=((j+1-k:Nat):Int):=by rw[IntWalk.i64_in _ (by omega)];omega
    have q0:r[j-1]=l[j-1]∧r[j]=l[j]:=by
     have a1:(r.drop (j-1))[0]? =(l.drop (j-1))[0]? :=by rw[g2]
     have a2:(r.drop (j-1))[1]? =(l.drop (j-1))[1]? :=by rw[g2]
     simp only[List.getElem?_drop,Nat.add_zero,show j-1+1=j by omega,List.getElem?_eq_getElem hjr,List.getElem?_eq_getElem hj1r,List.getElem?_eq_getElem hjl,List.getElem?_eq_getElem hj1l,Option.some.injEq]at a1 a2;exact⟨a1,a2⟩
    have q1:nth (r.map dg) j=dg l[j]:=by rw[bK hjr,q0.2]
    have q2:nth (r.map dg) (j-1)=dg l[j-1]:=by rw[bK hj1r,q0.1]
    have g3:r.drop j=l.drop j:=by
     have:(r.drop (j-1)).drop 1=(l.drop (j-1)).drop 1:=by rw[g2]
     rwa [List.drop_drop,List.drop_drop,show j-1+1=j by omega]at this
    refine aM ?_;refine T0 (hK _ _ _ ?_);clear hK K;refine aC fun K hK=>?_;have key: ∀(i':Nat) (r':List Dig) fr ob nx,r'.length=l.length→1≤i'→i'<j+1→dws (r'.take i')=cM (dws (l.take (j+1)))→r'.drop j=l.drop j→Fits 1 fr ob (fin [(0,.own 0 l.length),(3,.c (.int .i64 i')),(4,.osl 0 l.length k 32 l.length),(5,.c (.int .i64 ((j-k:Nat):Int)))]) (fob [(0,.row 44 32 (r'.map dg))]) 500→K fr ob nx:=by
     rintro i' r' fr ob nx w1 w2 w3 w4 w5 hf;refine hK _ _ _ (bJ hf ?_);clear hf hK K;refine aE (by kernel_rfl) ?_;refine TQ m3 ?_;refine⟨⟨(i',j+1,r'),w1,w2,w3,hjl,by simp only;omega,w4,w5⟩,fF,?_⟩;show l.length-(j+1)<l.length-j;omega
    refine aN ?_;refine aC fun K hK=>QR ?_;iterate 10 refine S0 ?_ (e:=fun _ h_=>by simp only[sH,↓sP,sA,tyS,simprocAttr,hr,m2,e1,e2,z1,z2,q1,q2,hjl,hj1l,hjr,hj1r,Int.natCast_nonneg,Int.ofNat_lt];exact AX h_)
    refine T2 (hK _ _ _ ?_);clear hK K;refine aK (b:=!(l[j]==l[j-1])) rfl (fun hb=>?_) (fun hb=>?_)
    ·
     refine aC fun K hK=>Rg ?_;iterate 8 refine S0 ?_ (e:=fun _ h_=>by simp only[sH,↓sP,sA,tyS,simprocAttr,hr,e1,z1,q1,bK hir,hil,hir,hjl,hjr,Int.natCast_nonneg,Int.ofNat_lt,←List.map_set];exact AX h_)
     refine T2 (hK _ _ _ ?_);clear hK K;refine aE (by kernel_rfl) ?_;refine TQ (jE i) ?_;refine key (i+1) (r.set i l[j]) _ _ _ (by simp[hr]) (by omega) (by omega) ?_ ?_ (fF)
     · exact cP4 (by omega) hjl (by simpa using hb) (by omega) g1
     rw[List.drop_set_of_lt (by omega),g3]
    refine aM (T3 ?_);exact key i r _ _ _ hr hi1 (by omega) (by rw[bF5 (by omega) hjl (by simpa using hb),g1]) g3 (fF)
   have hjl:j=l.length:=by simp at hb;omega
   subst hjl;rw[List.take_length]at g1;refine aZ (T3 ?_);clear hK K;refine AX (hK _ _ _ ?_);clear hK K;refine aC fun K hK=>Rg ?_;have F:=hr;iterate 4 refine SF ?_
   refine T2 (hK _ _ _ ?_);clear hK K;refine aC fun K hK=>Rg ?_;iterate 4 refine SF ?_
   refine T2 (hK _ _ _ ?_);clear hK K;refine aH (RT Tryz.results57 ?_);refine bS6 _ rfl ?_ ?_ ?_ ?_
   · simp[hr];omega
   · simp[hr];omega
   · simp[hr];omega
   refine⟨r.take i,?_,g1⟩;simp[hr];rw[List.take_append_of_le_length (by simp[hr];omega),List.take_take,Nat.min_self]
  refine aM ?_;refine T0 (hK _ _ _ ?_);clear hK K;refine aE (by kernel_rfl) ?_;refine TQ (jE k) ?_;refine⟨⟨k+1,by omega,hlt,cH6 hk1 hlt hb hd⟩,fF,?_⟩;show l.length-(k+1)<l.length-k;omega
 refine aZ (T3 ?_);clear hK K;refine AX (hK _ _ _ ?_);clear hK K;refine R0 ?_;refine aH (RT Tryz.results57 ?_);have hkl:k=l.length:=by simp at hb;omega
 subst hkl;rw[List.take_length]at hd;exact rL (l.map dg) rfl (by simp) ⟨l,rfl,by rw[hd]⟩
theorem cJ4 (l:List Dig)(d:Dig)(hl:l.length<2^40):cE Tryz.prog 30 [.slc (l.map dg),dg d] (fun v=> ∃l':List Dig,v= .slc (l'.map dg)∧dws l'=rE (dws l) d.1):=by
 refine FW Tryz.func30 ?_;refine R0 ?_;refine aC fun K hK=>?_;refine aC fun K hK=>Rg ?_;iterate 2 refine S0 ?_
 refine HS rfl rfl fun K' hK'=>T5 ?_;refine C2 (cJ2 l d hl) ?_;rintro u rfl;refine AX (hK' _ _ ?_);clear hK' K';refine T2 (hK _ _ _ ?_);clear hK K;refine aK (b:=l.contains d) rfl (fun hb=>?_) (fun hb=>?_)
 · refine R0 ?_;refine aH (RT Tryz.results30 ?_);exact aJ [] (.slc (l.map dg)) (by simp[HV.close,CV.denil,denilL_dg,HV.norm,HV.toC]) ⟨l,rfl,by rw[rE,←mT,hb,if_pos rfl]⟩
 refine aM ?_;refine T0 (hK _ _ _ ?_);clear hK K;refine R0 ?_;refine R0 ?_;refine aC fun K hK=>?_;refine aN ?_;refine jI 5 0 44 32 rfl rfl rfl rfl ?_;refine bH (α:={i:Nat//i≤l.length∧ ∀j (h:j<i) (h':j<(dws l).length),slt (dws l)[j] d.1=true}) (fun i=>(fin [(0,.c (.slc (l.map dg))),(3,.ptr 0 0),(5,.own 28 i.1),(6,.c (.int .i64 i.1))],fob [(0,.box 44 (.c (dg d))),(28,.row 44 32 ((l.take i.1).map dg))])) 100 (fun i=>l.length-i.1) ⟨0,by omega,fun j h=>by omega⟩ (fF) ?_;rintro⟨i,hi,hni⟩;have hti:(l.take i).length=i:=by simp;omega
 have hlc:decide ((i:Int)<(l.length:Int))=true→i<l.length:=fun h=>by simpa using h
 refine aC fun K hK=>?_;by_cases hlt:i<l.length
 ·
  refine aC fun K hK=>DW [(0,[],[]),(1,[],[]),(2,[],[]),(3,[],[]),(4,[],[]),(5,[],[]),(6,[],[]),(7,[],[]),(8,[],[]),(9,[],[]),(10,[],[]),(11,[],[])] [0,0,2,7,15,31,31,127,255,31,1023,2047] ?_;have F:=aI @Int.natCast_nonneg (aI @Int.ofNat_lt (aI hlt (nM hlt)));iterate 10 refine WF ?_
  refine cJ (g:=some (15,true)) rfl rfl fun K' hK'=>T6 ?_;refine C2 (cJ3 l[i] d) ?_;rintro u rfl;refine AX (hK' _ _ ?_);clear hK' K';refine WF ?_;refine T2 (hK _ _ _ ?_);clear hK K;refine aK (b:=dlt l[i] d) rfl (fun hb=>?_) (fun hb=>?_)
  ·
   refine aM ?_;refine T0 (hK _ _ _ ?_);clear hK K;refine aN ?_;refine aC fun K hK=>Rg ?_;have F:=aI @Int.natCast_nonneg (aI @Int.ofNat_lt (aI hlt (aI (nM hlt) (aI hti @List.length_append.{0}))));iterate 8 refine SF ?_
   refine T2 (hK _ _ _ ?_);clear hK K;refine aE (by kernel_rfl) ?_;refine TQ (jE i) ?_;refine⟨⟨i+1,by omega,fun j h h'=>?_⟩,aO (by omega) ?_ ?_,?_⟩
   ·
    by_cases e:j=i
    · subst e;rw[sM];exact hb
    exact hni j (by omega) h'
   · simp[aX,upd_at,fin_at,HV.men]
   · refine⟨rfl,by omega,trivial,?_,by omega,trivial,trivial⟩;simp only[List.take_succ_eq_append_getElem hlt,List.map_append];rfl
   show l.length-(i+1)<l.length-i;omega
  refine aZ (T3 ?_);clear hK K;refine AX (hK _ _ _ ?_);clear hK K;refine aC fun K hK=>DW [(0,[],[]),(1,[],[]),(2,[],[]),(4,[2],[]),(5,[2],[]),(6,[2],[]),(3,[],[4,5,6]),(7,[],[]),(8,[],[])] [0,0,2,7,0,0,48,127,255] ?_;iterate 9 refine W0 ?_ (e:=fun _ h_=>by simp only[sH,↓sP,sA,tyS,simprocAttr,hti,←List.map_drop,←List.map_take,aR0];exact AX h_)
  refine T2 (hK _ _ _ ?_);clear hK K;refine aH (RT Tryz.results30 ?_);refine aJ [28] (.slc ((l.take i++d::l.drop i).map dg)) ?_ ⟨_,rfl,?_⟩
  · simp[HV.close,upd_at,HV.norm,HV.toC,List.take_of_length_le]
  rw[qJ,show dws (d::l.drop i)=d.1::dws (l.drop i)from rfl,show dws (l.drop i)=(dws l).drop i from List.map_drop,kM];rw[bC6 (by rw[←mT];assumption) (by rw[fW];exact hi) hni (fun h=>by rw[sM];exact hb)]
 refine aC fun K hK=>DW [(0,[],[]),(1,[],[]),(2,[],[]),(3,[],[]),(4,[],[]),(5,[],[]),(6,[],[]),(7,[],[]),(8,[],[]),(9,[],[]),(10,[],[]),(11,[],[])] [0,0,2,7,15,31,31,127,255,31,1023,2047] ?_;have F:=aI @Int.ofNat_lt hlt;iterate 12 refine WF ?_
 refine T2 (hK _ _ _ ?_);clear hK K;refine aK (b:=_) rfl (fun hb=>?_) (fun hb=>?_)
 · cases hb
 refine aZ (T3 ?_);clear hK K;refine AX (hK _ _ _ ?_);clear hK K;refine aC fun K hK=>DW [(0,[],[]),(1,[],[]),(2,[],[]),(4,[2],[]),(5,[2],[]),(6,[2],[]),(3,[],[4,5,6]),(7,[],[]),(8,[],[])] [0,0,2,7,0,0,48,127,255] ?_;iterate 9 refine W0 ?_ (e:=fun _ h_=>by simp only[sH,↓sP,sA,tyS,simprocAttr,hti,←List.map_drop,←List.map_take,aR0];exact AX h_)
 refine T2 (hK _ _ _ ?_);clear hK K;refine aH (RT Tryz.results30 ?_);refine aJ [28] (.slc ((l.take i++d::l.drop i).map dg)) ?_ ⟨_,rfl,?_⟩
 · simp[HV.close,upd_at,HV.norm,HV.toC,List.take_of_length_le]
 rw[qJ,show dws (d::l.drop i)=d.1::dws (l.drop i)from rfl,show dws (l.drop i)=(dws l).drop i from List.map_drop,kM];rw[bC6 (by rw[←mT];assumption) (by rw[fW];exact hi) hni (fun h=>absurd (by rwa [fW]at h) hlt)]
end Go.Proofs.YthedbjfipmkpiaaGreatDoor
namespace Go.Proofs.YthedbjfipmkpiaaGreatDoor
open Go Go.Hl Go.Pl Go.Sort Go.RowKit
set_option maxRecDepth 100000
theorem bA7 (x y:Dig)(b c:Nat)(W:World)(h:(callFunc 90 #[.slice (some ⟨b,0,none⟩) 32 32,.slice (some ⟨c,0,none⟩) 32 32]).run Tryz.prog W= .ok (.value (.int .i64 (kJ x.1 y.1))) W):
    Calls Tryz.prog 56 #[.slice (some ⟨b,0,none⟩) 32 32,.slice (some ⟨c,0,none⟩) 32 32] W fun e w'=>e= .returned (.int .i64 (kJ x.1 y.1))∧w'=W:=by
  generalize kJ x.1 y.1=r at h⊢
  go_enter Tryz.func56,Tryz.ntmps56
  go_wp2_with fail
  go_ret
  exact⟨rfl,rfl⟩
theorem aU2 (x y:Dig)(W:World)
    (hc: ∀W':World,W'.heap=((W.alloc (Obj.cells (eK x).toArray 44)).alloc (Obj.cells (eK y).toArray 44)).heap→Calls Tryz.prog 56 #[.slice (some ⟨W.heap.size,0,none⟩) 32 32,.slice (some ⟨W.heap.size+1,0,none⟩) 32 32] W' fun e w'=>e= .returned (.int .i64 (kJ x.1 y.1))∧w'=W'):
    Calls Tryz.prog 55 #[.agg (eK x).toArray,.agg (eK y).toArray] W fun e w'=>e= .returned (.int .i64 (kJ x.1 y.1))∧ ∃q os',w'=grow (W.drewN q) os':=by
  go_enter Tryz.func55,Tryz.ntmps55
  go_wp2_with fail
  go_quiet (first|(go_at_call 56;refine Calls.quiet_of_same (hc _ rfl)))
  go_wp2
  go_ret
  exact⟨rfl,nq,_,by rw[alloc_eq_grow,alloc_eq_grow,grow_grow];rfl⟩
theorem aG4 {W:World}{b:Nat}{d:Dig}{t:TypeId}{ρ:Env}(hb:W.heap[b]? =some (.cells (eK d).toArray t (0,0))):RepV W ρ (fun _=>False) (.c (.slc (d.1.map u8))) (.slice (some ⟨b,0,none⟩) 32 32):=by
  refine bQ ?_ rfl rfl;simp only[RepC];refine⟨some ⟨b,0,none⟩,32,eK d,1,by simp[d.2],zH.2 rfl,fun v hv=>?_,by simp[d.2],fun h=>(by cases h),fun ad h=>?_⟩
  · obtain⟨x,_,rfl⟩:=List.mem_map.1 hv;rfl
  · cases h
    refine⟨fun j u hj=>?_,fun _ h=>h⟩;have h1:(eK d).toArray[j]? =some u:=by simpa using hj
    rw[show(⟨b,0,none⟩:Addr).add j=⟨b,j,none⟩from by unfold Addr.add;split<;>simp_all];simp only[World.cell?,hb,h1,Option.isSome_none,Bool.false_eq_true,if_false]
theorem aU3 (x y:Dig)(W:World):Calls Tryz.prog 55 #[.agg (eK x).toArray,.agg (eK y).toArray] W fun e w'=>e= .returned (.int .i64 (kJ x.1 y.1))∧ ∃q os',w'=grow (W.drewN q) os':=
  aU2 x y W fun W' hW=>bA7 x y _ _ W' (by
    have h1:W'.heap[W.heap.size]? =some (.cells (eK x).toArray 44 (0,0)):=by
      rw[hW];simp only[World.alloc,Array.getElem?_push,Array.size_push];rw[if_neg (by omega),if_true]
    have h2:W'.heap[W.heap.size+1]? =some (.cells (eK y).toArray 44 (0,0)):=by
      rw[hW];simp only[World.alloc,Array.getElem?_push,Array.size_push];rw[if_true]
    have hr:=cE9 (P:=Tryz.prog) (aG4 (ρ:=fun _=>none) h1) (aG4 (ρ:=fun _=>none) h2);rw[run_callFunc_extern Tryz.func90 (by kernel_rfl) (by kernel_rfl) (by kernel_rfl) (e:=Extern.BytealgCompare.compare) (by kernel_rfl),hr];rfl)
theorem bA8 (blk size:Nat)(w:World):CmpLays Tryz.prog 55 #[] eK 32 (fun x y=>kJ x.1 y.1) blk 0 size w:=fun _ _ _ _ x y=>aU3 x y _
theorem cB8 :SWO (ltOf fun x y:Dig=>kJ x.1 y.1):=by
  have e: ∀x y:Dig,ltOf (fun x y:Dig=>kJ x.1 y.1) x y=true↔x.1<y.1:=fun x y=>by
    rw[←vY];show decide (kJ x.1 y.1<0)=true↔slt x.1 y.1=true;unfold kJ;by_cases h:slt x.1 y.1=true
    · simp[h]
    · have h':slt x.1 y.1=false:=by simpa using h
      rw[h'];by_cases h2:x.1=y.1<;>simp[h2]
  have e2: ∀x y:Dig,ltOf (fun x y:Dig=>kJ x.1 y.1) x y=false↔y.1≤x.1:=fun x y=>by
    rw[←List.not_lt,←e,Bool.not_eq_true]
  refine⟨fun x=>(e2 x x).2 (List.le_refl _),fun x y z h1 h2=>(e x z).2 (List.lt_trans ((e x y).1 h1) ((e y z).1 h2)),fun x y z h1 h2=>(e2 x z).2 (List.le_trans ((e2 y z).1 h2) ((e2 x y).1 h1))⟩
end Go.Proofs.YthedbjfipmkpiaaGreatDoor
