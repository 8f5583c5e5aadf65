/- slices.SortFunc at this seat: from the shelf. By an AI agent. -/
import Derived.Test.YthedbjfipmkpiaaGreatDoorHdUl
import Derived.Test.YthedbjfipmkpiaaGreatDoorHdSb
import Derived.Test.YthedbjfipmkpiaaGreatDoorHdFm
import Derived.Test.YthedbjfipmkpiaaGreatDoorHdX3
import Derived.Test.YthedbjfipmkpiaaGreatDoorPl02g
import Derived.Shelf.SlSortCmp.InsertionK
import Derived.Test.YthedbjfipmkpiaaGreatDoorPl18e
import Derived.Deep.QuietTactic
import Derived.BigQuiet
import Derived.Test.YthedbjfipmkpiaaGreatDoorChecked
import Derived.Shelf.SlSortCmp.NoneTotal
import Derived.Ground.SlsfProg
import Derived.Test.YthedbjfipmkpiaaGreatDoorHlTlaw
set_option linter.unusedSimpArgs false
set_option linter.unusedVariables false
set_option linter.defProp false
namespace Go.Proofs.YthedbjfipmkpiaaGreatDoor
open Go Go.Hl Go.Pl
set_option maxRecDepth 10000
set_option maxHeartbeats 16000000
def cW1 (l:List Nd)(S:List Sp)(f i:Nat)(W:List Ln)(m:Nat)(r:HV)(os':List HO):Prop:=
 ∃(W':List Ln) (m':Nat),r= .tup [.c (.int .i64 (if fJ l (eD S) i then(m':Int)-1 else 0)),.c (.bool (fJ l (eD S) i))]∧os'=osP l S W' m'∧m'≤W'.length∧W'.length≤W.length+(aft l i-i)∧W'.take m'=if fJ l (eD S) i then prv l S f i (W.take m)else W.take m
theorem cD0 (n:Nat)(a b:CV):HV.ren (sub [0,1] n) (.tup [.c a,.c b])= .tup [.c a,.c b]:=rfl
variable {ob:Ob}
theorem aL9 (id n sz m:Nat){cl:List Nat}(h:id∉cl):(cM id n sz m).close ob cl=cM id n sz m:=by
 unfold cM;split<;>simp[HV.close,h]
theorem zT {l:List Nd}(ht:IsTree l){i:Nat}(hi:i<l.length){j:Nat}: ∀d,j+d≤l[i].c.toNat→dS l j (i+1)≤dS l (j+d) (i+1)
 |0,_=>Nat.le_refl _
 |d+1,h=>by
  have h1:=zT ht hi (j:=j) d (by omega);have h2:=(lU ht (sD ht hi (k:=j+d) (by omega))).1;rw[←Nat.add_assoc,fN];omega
theorem aG9 {l:List Nd}(ht:IsTree l){i:Nat}(hi:i<l.length){j:Nat}(h:j≤l[i].c.toNat):dS l j (i+1)≤aft l i:=by
 have h1:=zT ht hi (j:=j) (l[i].c.toNat-j) (by omega);rw[show j+(l[i].c.toNat-j)=l[i].c.toNat from by omega,uM ht hi]at h1;exact h1
theorem bH6 {l:List Nd}{S:List Sp}{f i:Nat}{out:List Ln}: ∀j,(pU l S f i j out).2.length≤j
 |0=>by simp[uL]
 |j+1=>by
  have h1:=bH6 (l:=l) (S:=S) (f:=f) (i:=i) (out:=out) j;rw[kD,wT];split
  · simp only[List.length_append,List.length_cons,List.length_nil];omega
  omega
structure PvSt (l:List Nd)(S:List Sp)(g i:Nat)(W:List Ln)(m j:Nat)(W':List Ln)(m':Nat)(F:List Int):Prop where
 le:m'≤W'.length
 len:W'.length+(i+1)≤W.length+dS l j (i+1)
 out:W'.take m'=(pU l S g i j (W.take m)).1
 fr:F=(pU l S g i j (W.take m)).2
theorem aH0 {l:List Nd}{S:List Sp}{g i:Nat}{out:List Ln}: ∀{j:Nat} (k:Nat),(pU l S g i j out).2.length=wantN (l.getD i nd0)→pU l S g i (j+k) out=pU l S g i j out
 |j,0,_=>rfl
 |j,k+1,h=>by
  have ih:=aH0 (l:=l) (S:=S) (g:=g) (i:=i) (out:=out) k h;rw[←Nat.add_assoc,kD,ih,wT,if_neg (fun hc=>by omega)]
theorem cD1 (l:List Nd)(htb:eN l=true)(hn: ∀n∈l,n.q.t.length<2^63)(S:List Sp)(hS:S.length<2^40)(hd: ∀x∈S,x.d.length<2^42)(f:Nat): ∀(W:List Ln) (m i:Nat),i<l.length→l.length-i≤f→m≤W.length→W.length+(aft l i-i)<2^39→
  HGe Tryz.prog 37 [.ptr 0 0,.c (.int .i64 i)] (osP l S W m) (cW1 l S f i W m):=by
 induction f using Nat.strongRecOn with
 |ind f ih=>?_
 intro W m i hi hf hm hW;refine cI (args:=[.ptr 0 0,.c (.int .i64 i)]) Tryz.func37 rfl (by kernel_rfl) (fP rfl (by simp[pvb,eH,HO.men,HV.men,HV.menL,bJ]) (by simp[HV.menL,HV.men])) (Nat.le_of_ble_eq_true rfl) ?_;show Hw _ _ 2 _ _ _ (lst _) 2;rw[cC8];have ht:=jL htb;have hgd:l.getD i nd0=l[i]:=cG0 hi;have haf:=lU ht hi;obtain⟨g,rfl⟩: ∃g,f=g+1:=⟨f-1,by omega⟩;refine aB fun K hK=>aD (by kernel_rfl) ?_;simp (maxSteps:=4000000) only[↓sP,sA,tyS,simprocAttr];repeat refine AI ?_
 refine hK _ _ _ ?_;clear hK K;refine aB fun K hK=>aD (by kernel_rfl) ?_;simp only[sR,simprocAttr];iterate 9
  (refine aE (g:=none) rfl rfl fun K' hK'=>?_;simp only[sH,↓sP,sA,tyS,simprocAttr,pvb,aV,aS,aQ,cQ,Int.natCast_nonneg,Int.ofNat_lt,hi,bP hi];(repeat refine AI ?_);refine hK' _ _ ?_;clear hK' K')
 simp only[sE,↓reduceIte,simprocAttr];repeat refine AI ?_
 refine hK _ _ _ ?_;clear hK K;refine aB fun K hK=>?_;refine aB fun K hK=>aD (by kernel_rfl) ?_;simp (maxSteps:=4000000) only[↓sP,sA,tyS,simprocAttr];repeat refine AI ?_
 refine hK _ _ _ ?_;clear hK K;refine aH (b:=(l[i].k==1)) rfl (fun hb=>?_) (fun hb=>?_)
 ·
  have hk:l[i].k=1:=by simpa using hb
  have hv:fJ l (eD S) i=(S.getD (lv (l.take i)) sp0).h:=by rw[aY3 hi hk,bU1]
  clear hb;refine aB fun K hK=>aD (by kernel_rfl) ?_;simp only[sR,simprocAttr];iterate 2
   (refine aE (g:=none) rfl rfl fun K' hK'=>?_;simp only[sH,↓sP,sA,tyS,simprocAttr];(repeat refine AI ?_);refine hK' _ _ ?_;clear hK' K')
  refine aE (g:=none) rfl rfl fun K' hK'=>?_;simp (maxSteps:=4000000) only[sH,↓sP,sA,tyS,simprocAttr];refine fV [0,1] (cC9 l htb S hS hd W m i hm (by omega) hi hk) rfl ⟨(by rw[xD];rfl),rfl,trivial⟩ (by simp) (by simp) ⟨rfl,rfl,rfl,rfl⟩ (by simp[eH,HO.men,HV.men,HV.menL,bJ]) (by simp[HV.menL,HV.men]) ?_;rintro r os' ⟨rfl,hos⟩;obtain⟨W',m',hos2,g1,g2,g3,g4⟩: ∃(W':List Ln) (m':Nat),os'=osP l S W' m'∧(if(S.getD (lv (l.take i)) sp0).h then(m:Int)else 0)=(if fJ l (eD S) i then(m':Int)-1 else 0)∧m'≤W'.length∧W'.length≤W.length+(aft l i-i)∧W'.take m'=if fJ l (eD S) i then prv l S (g+1) i (W.take m)else W.take m:=by
   rw[hv];cases hh:(S.getD (lv (l.take i)) sp0).h with
   |true=>
    rw[hh]at hos;refine⟨_,_,hos,by simp,by rw[kT hm];omega,by rw[kT hm];omega,?_⟩;rw[vI hm,if_pos rfl,bU2 (by rw[hgd];exact hk)]
   |false=>
    rw[hh]at hos;exact⟨_,_,hos,by simp,hm,by omega,by simp⟩
  subst hos2;rw[xC,cD0];repeat refine AI ?_
  refine hK' _ _ ?_;clear hK' K';iterate 4
   (refine aE (g:=none) rfl rfl fun K' hK'=>?_;simp only[sH,↓sP,sA,tyS,simprocAttr];(repeat refine AI ?_);refine hK' _ _ ?_;clear hK' K')
  simp only[sE,↓reduceIte,simprocAttr];repeat refine AI ?_
  refine hK _ _ _ ?_;clear hK K;refine aF ?_;simp (maxSteps:=4000000) only[bS,Tryz.results37,bN,bR,bM,↓sP,sA,tyS,simprocAttr];exact kU (W:=W') (m:=m') rfl rfl rfl ⟨W',m',by rw[←g1,hv];rfl,rfl,g2,g3,g4⟩
 have hk:l[i].k≠1:=by simpa using hb
 clear hb;have hvd:=aY5 ht S hi hk;have hnb:=ht.node _ (List.getElem_mem hi);obtain⟨c1,c2,c3,c4⟩:=iB hnb;have hkn:l[i].k=2∨l[i].k=3∨(l[i].k=4∧1≤l[i].n):=by
  unfold eR inB at hnb;grind
 have hc1:=c4 hk;refine aK ?_;simp (maxSteps:=4000000) only[↓sP,sA,tyS,simprocAttr];repeat refine AI ?_
 refine hK _ _ _ ?_;clear hK K;refine aB fun K hK=>yA mixed (by kernel_rfl) (by kernel_rfl) (by kernel_rfl) ?_;simp only[sR,simprocAttr];iterate 4
  (refine aE (g:=none) rfl rfl fun K' hK'=>?_;simp only[sH,↓sP,sA,tyS,simprocAttr];(repeat refine AI ?_);refine hK' _ _ ?_;clear hK' K')
 simp only[sE,↓reduceIte,simprocAttr];repeat refine AI ?_
 refine hK _ _ _ ?_;clear hK K;refine aB fun K hK=>?_;have key: ∀fr ob nx,Fits 2 fr ob (fin [(0,.ptr 0 0),(1,.c (.int .i64 i)),(7,.c (.int .i64 (kK l[i]))),(8,.c (.int .i64 (wantN l[i]:Nat)))]) (fob [(0,.box 80 (pvb l S (cM 1 W.length 4 m))),(1,.row 41 4 (W.map Ln.cv))]) 100→K fr ob nx:=by
  rintro fr ob nx hf;refine hK _ _ _ (bE hf ?_);clear hf hK K;refine aB fun K hK=>?_;have key: ∀fr ob nx,Fits 2 fr ob (fin [(0,.ptr 0 0),(1,.c (.int .i64 i)),(7,.c (.int .i64 (kK l[i]))),(8,.c (.int .i64 (wantN l[i]:Nat))),(9,.c (.int .i64 m))]) (fob [(0,.box 80 (pvb l S (cM 1 W.length 4 m))),(1,.row 41 4 (W.map Ln.cv))]) 200→K fr ob nx:=by
   rintro fr ob nx hf;refine hK _ _ _ (bE hf ?_);clear hf hK K;refine aB fun K hK=>aD (by kernel_rfl) ?_;simp (maxSteps:=4000000) only[↓sP,sA,tyS,simprocAttr];repeat refine AI ?_
   refine hK _ _ _ ?_;clear hK K;refine aB fun K hK=>?_;have key: ∀(W':List Ln) (m':Nat) (F:List Int) fr ob nx,PvSt l S g i W m l[i].c.toNat W' m' F→Fits 2 fr ob (fin [(0,.ptr 0 0),(1,.c (.int .i64 i)),(7,.c (.int .i64 (kK l[i]))),(8,.c (.int .i64 (wantN l[i]:Nat))),(9,.c (.int .i64 m)),(10,.own 236 F.length)]) (fob [(0,.box 80 (pvb l S (cM 1 W'.length 4 m'))),(1,.row 41 4 (W'.map Ln.cv)),(236,.row 3 1 (F.map (CV.int .i64)))]) 30000→K fr ob nx:=by
    rintro W' m' F fr ob nx hst hf;refine hK _ _ _ (bE hf ?_);clear hf hK K;have q1:=hst.le;have q2:=hst.len;have q3:=hst.out;have q4:=hst.fr;rw[uM ht hi]at q2;have q5:=yH l S g i (W.take m) l[i].c.toNat;rw[←q4,hgd]at q5;obtain⟨L,q6⟩:=cA9 l S g i l[i].c.toNat (W.take m);have hml:(W.take m).length=m:=by simp;omega
    have hm':m'=m+L.length:=by
     have h1:=congrArg List.length (q3.trans q6);rw[List.length_take,List.length_append,hml]at h1;omega
    have hWt:W'.take m=W.take m:=by
     have h1:(W'.take m').take m=(W.take m++L).take m:=by rw[q3.trans q6]
     rw[List.take_take,Nat.min_eq_left (by omega),List.take_append_of_le_length (by omega),List.take_take,Nat.min_self]at h1;exact h1
    refine aB fun K hK=>?_;refine aB fun K hK=>aD (by kernel_rfl) ?_;simp only[sR,simprocAttr];iterate 4
     (refine aE (g:=none) rfl rfl fun K' hK'=>?_;simp only[sH,↓sP,sA,tyS,simprocAttr];(repeat refine AI ?_);refine hK' _ _ ?_;clear hK' K')
    simp only[sE,↓reduceIte,simprocAttr];repeat refine AI ?_
    refine hK _ _ _ ?_;clear hK K;refine aH (b:=decide ((F.length:Int)<(wantN l[i]:Nat))) rfl (fun hb=>?_) (fun hb=>?_)
    ·
     have hvf:fJ l (eD S) i=false:=by
      rw[hvd];have:(F.length:Int)<(wantN l[i]:Nat):=of_decide_eq_true hb;simp;omega
     clear hb;by_cases hmW:m'=W'.length
     ·
      refine aB fun K hK=>bY (by kernel_rfl) ?_;simp only[sR,simprocAttr];iterate 6
       (refine aZ (g:=none) rfl rfl fun K' hK'=>?_;simp only[sH,↓sP,sA,tyS,simprocAttr,pvb,hmW,cG,aV,aS,aQ,List.length_map,Int.toNat_natCast];(repeat refine AI ?_);refine hK' _ _ ?_;clear hK' K')
      refine cA (g:=none) rfl rfl fun K' hK'=>?_;simp (maxSteps:=4000000) only[sN,↓hopH.eq_def,sH,↓sP,sA,tyS,simprocAttr,pvb,hmW,cG,aV,aS,aQ,List.length_map,Int.toNat_natCast];repeat refine AI ?_
      refine hK' _ _ ?_;clear hK' K';iterate 3
       (refine aZ (g:=none) rfl rfl fun K' hK'=>?_;simp only[sH,↓sP,sA,tyS,simprocAttr,pvb,hmW,cG,aV,aS,aQ,List.length_map,Int.toNat_natCast];(repeat refine AI ?_);refine hK' _ _ ?_;clear hK' K')
      simp only[sE,↓reduceIte,simprocAttr];repeat refine AI ?_
      refine hK _ _ _ ?_;clear hK K;refine aB fun K hK=>aD (by kernel_rfl) ?_;simp (maxSteps:=4000000) only[↓sP,sA,tyS,simprocAttr];repeat refine AI ?_
      refine hK _ _ _ ?_;clear hK K;refine aF ?_;simp (maxSteps:=4000000) only[bS,Tryz.results37,bN,bR,bM,↓sP,sA,tyS,simprocAttr];exact kU (W:=W') (m:=m) rfl rfl rfl ⟨W',m,by rw[hvf];rfl,rfl,by omega,by omega,by rw[hvf];exact hWt⟩
     refine aB fun K hK=>bY (by kernel_rfl) ?_;simp only[sR,simprocAttr];iterate 6
      (refine aZ (g:=none) rfl rfl fun K' hK'=>?_;simp only[sH,↓sP,sA,tyS,simprocAttr,pvb,cB hmW,aV,aS,aQ,List.length_map,Int.toNat_natCast,Int.toNat_zero];(repeat refine AI ?_);refine hK' _ _ ?_;clear hK' K')
     refine cA (g:=none) rfl rfl fun K' hK'=>?_;simp (maxSteps:=4000000) only[sN,↓hopH.eq_def,sH,↓sP,sA,tyS,simprocAttr,pvb,cB hmW,aV,aS,aQ,List.length_map,Int.toNat_natCast,Int.toNat_zero];repeat refine AI ?_
     refine hK' _ _ ?_;clear hK' K';iterate 3
      (refine aZ (g:=none) rfl rfl fun K' hK'=>?_;simp only[sH,↓sP,sA,tyS,simprocAttr,pvb,cB hmW,aV,aS,aQ,List.length_map,Int.toNat_natCast,Int.toNat_zero];(repeat refine AI ?_);refine hK' _ _ ?_;clear hK' K')
     simp only[sE,↓reduceIte,simprocAttr];repeat refine AI ?_
     refine hK _ _ _ ?_;clear hK K;refine aB fun K hK=>aD (by kernel_rfl) ?_;simp (maxSteps:=4000000) only[↓sP,sA,tyS,simprocAttr];repeat refine AI ?_
     refine hK _ _ _ ?_;clear hK K;refine aF ?_;simp (maxSteps:=4000000) only[bS,Tryz.results37,bN,bR,bM,↓sP,sA,tyS,simprocAttr];have hmn:m≠W'.length:=by omega
     exact kU (W:=W') (m:=m) rfl (by rw[cB hmn];rfl) rfl ⟨W',m,by rw[hvf];rfl,rfl,by omega,by omega,by rw[hvf];exact hWt⟩
    have hge:wantN l[i]≤F.length:=by
     have h1:=of_decide_eq_false hb;omega
    have hvt:fJ l (eD S) i=true:=by
     rw[hvd];simp;omega
    clear hb;refine aK ?_;simp (maxSteps:=4000000) only[↓sP,sA,tyS,simprocAttr];repeat refine AI ?_
    refine hK _ _ _ ?_;clear hK K;refine cR [236] (bE (fr2:=fin [(0,.ptr 0 0),(1,.c (.int .i64 i)),(7,.c (.int .i64 (kK l[i]))),(10,.c (.slc (F.map (CV.int .i64))))]) (ob2:=fob [(0,.box 80 (pvb l S (cM 1 W'.length 4 m'))),(1,.row 41 4 (W'.map Ln.cv))]) (nx2:=31000) (aM (by omega) (by simp[aW,dA,fin_at,finA_at,upd_at,fob_at,HV.close,HV.closeL,CV.denil,CV.denilL,denilL_int,HV.men,HV.menL,HV.norm,HV.toC,HV.toCL]) (by simp[aX,dL,fob_at,upd_at,none0_at,bT,HO.close,HV.close,HV.closeL,pvb,aL9,CV.denil,denilL_Nd,cQ,denilL_Sp,rH,aQ,bJ,HO.men,HV.men,HV.menL,HV.norm,HV.toC,HV.toCL])) ?_);refine aB fun K hK=>aD (by kernel_rfl) ?_;simp only[sR,simprocAttr];iterate 5
     (refine aE (g:=none) rfl rfl fun K' hK'=>?_;simp only[sH,↓sP,sA,tyS,simprocAttr,pvb,aV,aS,aQ,denilL_int];(repeat refine AI ?_);refine hK' _ _ ?_;clear hK' K')
    refine aE (g:=none) rfl rfl fun K' hK'=>?_;simp (maxSteps:=4000000) only[sH,↓sP,sA,tyS,simprocAttr,pvb,aV,aS,aQ,denilL_int];refine fV [0,1] (aL7 l S W' m' ⟨kK l[i],i,[],F⟩ q1 (by omega)) rfl ⟨(by rw[xD];rfl),rfl,trivial⟩ (by simp) (by simp) ⟨rfl,rfl,rfl,rfl⟩ (by simp[eH,HO.men,HV.men,HV.menL,bJ]) (by simp[HV.menL,HV.men]) ?_;rintro r os' ⟨rfl,rfl⟩;rw[xC,cN8];repeat refine AI ?_
    refine hK' _ _ ?_;clear hK' K';iterate 2
     (refine aE (g:=none) rfl rfl fun K' hK'=>?_;simp only[sH,↓sP,sA,tyS,simprocAttr,pvb,aV,aS,aQ,denilL_int];(repeat refine AI ?_);refine hK' _ _ ?_;clear hK' K')
    simp only[sE,↓reduceIte,simprocAttr];repeat refine AI ?_
    refine hK _ _ _ ?_;clear hK K;refine aF ?_;simp (maxSteps:=4000000) only[bS,Tryz.results37,bN,bR,bM,↓sP,sA,tyS,simprocAttr];refine kU (W:=oV W' m' ⟨kK l[i],i,[],F⟩) (m:=m'+1) rfl rfl rfl ⟨_,m'+1,by rw[hvt];simp[CV.denil],rfl,by rw[kT q1];omega,by rw[kT q1];omega,?_⟩;rw[vI q1,hvt,if_pos rfl,bK4 (by rw[hgd];exact hk),hgd,←q4,←q3]
   refine aB fun K hK=>aD (by kernel_rfl) ?_;simp only[sR,simprocAttr];iterate 5
    (refine aE (g:=none) rfl rfl fun K' hK'=>?_;simp only[sH,↓sP,sA,tyS,simprocAttr,pvb,aV,aS,aQ];(repeat refine AI ?_);refine hK' _ _ ?_;clear hK' K')
   refine aE (g:=none) rfl rfl fun K' hK'=>?_;simp (maxSteps:=4000000) only[sH,↓sP,sA,tyS,simprocAttr,pvb,aV,aS,aQ];refine dN (args:=[_,_]) (aU0 l hn i) ⟨rfl,rfl,rfl,rfl⟩ ?_;rintro u rfl;have hck:uK l i=eZ l l[i].c.toNat (i+1):=aG4 htb hi;rw[hck];repeat refine AI ?_
   refine hK' _ _ ?_;clear hK' K';iterate 2
    (refine aE (g:=none) rfl rfl fun K' hK'=>?_;simp only[sH,↓sP,sA,tyS,simprocAttr,pvb,aV,aS,aQ];(repeat refine AI ?_);refine hK' _ _ ?_;clear hK' K')
   simp only[sE,↓reduceIte,simprocAttr];repeat refine AI ?_
   refine hK _ _ _ ?_;clear hK K;refine aN ?_;refine gQ 10 0 3 1 rfl rfl rfl rfl ?_;refine bF (α:={y:Nat×List Ln×Nat×List Int//y.1≤l[i].c.toNat∧PvSt l S g i W m y.1 y.2.1 y.2.2.1 y.2.2.2}) (fun y=>(fin [(0,.ptr 0 0),(1,.c (.int .i64 i)),(7,.c (.int .i64 (kK l[i]))),(8,.c (.int .i64 (wantN l[i]:Nat))),(9,.c (.int .i64 m)),(10,.own 236 y.1.2.2.2.length),(50,.c (.slc ((eZ l l[i].c.toNat (i+1)).map iC))),(51,.c (.int .i64 (l[i].c.toNat:Nat))),(52,.c (.int .i64 y.1.1))],fob [(0,.box 80 (pvb l S (cM 1 y.1.2.1.length 4 y.1.2.2.1))),(1,.row 41 4 (y.1.2.1.map Ln.cv)),(236,.row 3 1 (y.1.2.2.2.map (CV.int .i64)))])) 20000 (fun y=>l[i].c.toNat-y.1.1) ⟨(0,W,m,[]),Nat.zero_le _,⟨hm,by simp[dS],by rw[uL],by rw[uL]⟩⟩ (aM (by omega) (by simp[aW,fin_at,finA_at,upd_at,HV.men,HV.menL,HV.norm,HV.toC,HV.toCL,pvb,bJ,aQ,mE]) (by simp[aX,fob_at,upd_at,none0_at,bT,HO.men,HV.men,HV.menL,HV.norm,HV.toC,HV.toCL,pvb,bJ,aQ,mE])) ?_;rintro⟨⟨j,W',m',F⟩,hj,hst⟩;simp only at hj hst⊢;have q1:=hst.le;have q2:=hst.len;have q3:=hst.out;have q4:=hst.fr;have hkl:(eZ l l[i].c.toNat (i+1)).length=l[i].c.toNat:=mE l _ _;refine aB fun K hK=>aD (by kernel_rfl) ?_;simp (maxSteps:=4000000) only[↓sP,sA,tyS,simprocAttr];repeat refine AI ?_
   refine hK _ _ _ ?_;clear hK K;refine aB fun K hK=>?_;refine aH (b:=decide ((j:Int)<(l[i].c.toNat:Nat))) rfl (fun hb=>?_) (fun hb=>?_)
   ·
    have hlt:j<l[i].c.toNat:=by have:=of_decide_eq_true hb;omega
    have hltk:j<(eZ l l[i].c.toNat (i+1)).length:=by rw[hkl];exact hlt
    have hel:(eZ l l[i].c.toNat (i+1))[j]=dS l j (i+1):=by
     have h1:=qQ l l[i].c.toNat (i+1) (j+1) hlt;rw[jG,List.take_succ_eq_append_getElem hltk,qQ l _ _ _ hj]at h1;simpa using h1
    clear hb;have hkb:=sD ht hi hlt;have hks:=mY ht hi j (by omega);have hka:=lU ht hkb;have hkn:=aG9 ht hi (j:=j+1) (by omega);rw[fN]at hkn;have hF1:=bH6 (l:=l) (S:=S) (f:=g) (i:=i) (out:=W.take m) j;rw[←q4]at hF1;have hF2:F.length+1≤maxLen:=by simp only[maxLen];omega
    have hF3:(F.length+1)*8≤140737488355328:=by omega
    refine aK ?_;simp (maxSteps:=4000000) only[↓sP,sA,tyS,simprocAttr];repeat refine AI ?_
    refine hK _ _ _ ?_;clear hK K;refine aB fun K hK=>?_;refine aN ?_;refine aB fun K hK=>aD (by kernel_rfl) ?_;simp (maxSteps:=4000000) only[↓sP,sA,tyS,simprocAttr,Int.natCast_nonneg,Int.ofNat_lt,hltk,bP hltk,hel,iC];repeat refine AI ?_
    refine hK _ _ _ ?_;clear hK K;refine aB fun K hK=>?_;refine aB fun K hK=>aD (by kernel_rfl) ?_;simp only[sR,simprocAttr];iterate 4
     (refine aE (g:=none) rfl rfl fun K' hK'=>?_;simp only[sH,↓sP,sA,tyS,simprocAttr,List.length_map];(repeat refine AI ?_);refine hK' _ _ ?_;clear hK' K')
    simp only[sE,↓reduceIte,simprocAttr];repeat refine AI ?_
    refine hK _ _ _ ?_;clear hK K;refine aH (b:=((F.length:Int)==(wantN l[i]:Nat))) rfl (fun hb=>?_) (fun hb=>?_)
    ·
     refine bA ?_;simp (maxSteps:=4000000) only[↓sP,sA,tyS,simprocAttr];clear hK K;clear hK K;have hfl:F.length=wantN l[i]:=by
      have:(F.length:Int)=(wantN l[i]:Nat):=by simpa using hb
      omega
     have hsp:=aH0 (l:=l) (S:=S) (g:=g) (i:=i) (out:=W.take m) (j:=j) (l[i].c.toNat-j) (by rw[←q4,hgd];exact hfl);rw[show j+(l[i].c.toNat-j)=l[i].c.toNat from by omega]at hsp;refine key W' m' F _ _ _ ⟨q1,?_,by rw[hsp];exact q3,by rw[hsp];exact q4⟩ (aM (by omega) (by simp[aW,fin_at,finA_at,upd_at,HV.men,HV.menL,HV.norm,HV.toC,HV.toCL,pvb,bJ,aQ]) (by simp[aX,fob_at,upd_at,none0_at,bT,HO.men,HV.men,HV.menL,HV.norm,HV.toC,HV.toCL,pvb,bJ,aQ]));have hkf:=aG9 ht hi hj;rw[uM ht hi];omega
    have hwn: ¬(F.length:Int)=(wantN l[i]:Nat):=by simpa using hb
    refine aK ?_;simp (maxSteps:=4000000) only[↓sP,sA,tyS,simprocAttr];repeat refine AI ?_
    refine hK _ _ _ ?_;clear hK K;refine aB fun K hK=>aD (by kernel_rfl) ?_;simp only[sR,simprocAttr];iterate 2
     (refine aE (g:=none) rfl rfl fun K' hK'=>?_;simp only[sH,↓sP,sA,tyS,simprocAttr];(repeat refine AI ?_);refine hK' _ _ ?_;clear hK' K')
    refine aE (g:=none) rfl rfl fun K' hK'=>?_;simp (maxSteps:=4000000) only[sH,↓sP,sA,tyS,simprocAttr];refine fV [0,1] (ih g (by omega) W' m' (dS l j (i+1)) hkb (by omega) q1 (by omega)) rfl ⟨(by rw[xD];rfl),rfl,trivial⟩ (by simp) (by simp) ⟨rfl,rfl,rfl,rfl⟩ (by simp[eH,HO.men,HV.men,HV.menL,bJ]) (by simp[HV.menL,HV.men]) ?_;rintro r os' ⟨W2,m2,rfl,rfl,g2,g3,g4⟩;rw[xC,cD0];repeat refine AI ?_
    refine hK' _ _ ?_;clear hK' K';iterate 5
     (refine aE (g:=none) rfl rfl fun K' hK'=>?_;simp only[sH,↓sP,sA,tyS,simprocAttr];(repeat refine AI ?_);refine hK' _ _ ?_;clear hK' K')
    simp only[sE,↓reduceIte,simprocAttr];repeat refine AI ?_
    refine hK _ _ _ ?_;clear hK K;refine aB fun K hK=>aD (by kernel_rfl) ?_;simp (maxSteps:=4000000) only[↓sP,sA,tyS,simprocAttr];repeat refine AI ?_
    refine hK _ _ _ ?_;clear hK K;refine aH (b:=fJ l (eD S) (dS l j (i+1))) rfl (fun hb=>?_) (fun hb=>?_)
    ·
     have hkv:fJ l (eD S) (dS l j (i+1))=true:=hb;have hfl:F.length<wantN l[i]:=by
      have h1:=yH l S g i (W.take m) j;rw[←q4,hgd]at h1;have:F.length≠wantN l[i]:=fun e=>hwn (by rw[e]);omega
     have hsp:pU l S g i (j+1) (W.take m)=(prv l S g (dS l j (i+1)) (W'.take m'),F++[((prv l S g (dS l j (i+1)) (W'.take m')).length:Int)-1]):=by
      rw[kD,wT,←q3,←q4,if_pos ⟨by rw[hgd];exact hfl,hkv⟩]
     rw[if_pos hkv]at g4;have hm2:(prv l S g (dS l j (i+1)) (W'.take m')).length=m2:=by rw[←g4,List.length_take];omega
     rw[hm2]at hsp;refine aD (by kernel_rfl) ?_;simp only[sR,simprocAttr];iterate 5
      (refine aE (g:=none) rfl rfl fun K' hK'=>?_;simp only[sH,↓sP,sA,tyS,simprocAttr,List.length_map,hF2,hF3];(repeat refine AI ?_);refine hK' _ _ ?_;clear hK' K')
     simp only[sE,↓reduceIte,simprocAttr];repeat refine AI ?_
     refine hK _ _ _ ?_;clear hK K;refine aD (by kernel_rfl) ?_;simp (maxSteps:=4000000) only[↓sP,sA,tyS,simprocAttr,IntWalk.i64_in _ (show-9223372036854775808≤(j:Int)+1∧(j:Int)+1≤9223372036854775807 by omega)];refine⟨⟨(j+1,W2,m2,F++[(m2:Int)-1]),hlt,⟨g2,?_,by rw[hsp];exact g4,by rw[hsp]⟩⟩,(aM (by omega) (by simp[aW,fin_at,finA_at,upd_at,HV.men,HV.menL,HV.norm,HV.toC,HV.toCL,pvb,bJ,aQ,List.map_append,List.length_append,List.length_map,hkv]) (by simp[aX,fob_at,upd_at,none0_at,bT,HO.men,HV.men,HV.menL,HV.norm,HV.toC,HV.toCL,pvb,bJ,aQ,List.map_append,List.length_append,List.length_map,hkv])),?_⟩
     · show W2.length+(i+1)≤W.length+dS l (j+1) (i+1);rw[fN];omega
     show l[i].c.toNat-(j+1)<l[i].c.toNat-j;omega
    have hkv:fJ l (eD S) (dS l j (i+1))=false:=hb;refine aK ?_;simp (maxSteps:=4000000) only[↓sP,sA,tyS,simprocAttr];repeat refine AI ?_
    refine hK _ _ _ ?_;clear hK K;refine aD (by kernel_rfl) ?_;simp (maxSteps:=4000000) only[↓sP,sA,tyS,simprocAttr,IntWalk.i64_in _ (show-9223372036854775808≤(j:Int)+1∧(j:Int)+1≤9223372036854775807 by omega)];refine⟨⟨(j+1,W2,m2,F),hlt,⟨g2,?_,?_,?_⟩⟩,(aM (by omega) (by simp[aW,fin_at,finA_at,upd_at,HV.men,HV.menL,HV.norm,HV.toC,HV.toCL,pvb,bJ,aQ]) (by simp[aX,fob_at,upd_at,none0_at,bT,HO.men,HV.men,HV.menL,HV.norm,HV.toC,HV.toCL,pvb,bJ,aQ])),?_⟩
    · show W2.length+(i+1)≤W.length+dS l (j+1) (i+1);rw[fN];omega
    · rw[kD,wT,if_neg (fun hc=>by rw[hkv]at hc;cases hc.2),←q3];rw[hkv]at g4;exact g4
    · rw[kD,wT,if_neg (fun hc=>by rw[hkv]at hc;cases hc.2)];exact q4
    show l[i].c.toNat-(j+1)<l[i].c.toNat-j;omega
   refine bA ?_;simp (maxSteps:=4000000) only[↓sP,sA,tyS,simprocAttr];clear hK K;have hje:j=l[i].c.toNat:=by have:=of_decide_eq_false hb;omega
   subst hje;exact key W' m' F _ _ _ hst (aM (by omega) (by simp[aW,fin_at,finA_at,upd_at,HV.men,HV.menL,HV.norm,HV.toC,HV.toCL,pvb,bJ,aQ]) (by simp[aX,fob_at,upd_at,none0_at,bT,HO.men,HV.men,HV.menL,HV.norm,HV.toC,HV.toCL,pvb,bJ,aQ]))
  by_cases hmW:m=W.length
  ·
   refine aD (by kernel_rfl) ?_;simp only[sR,simprocAttr];iterate 6
    (refine aE (g:=none) rfl rfl fun K' hK'=>?_;simp only[sH,↓sP,sA,tyS,simprocAttr,pvb,hmW,cG,List.length_map];(repeat refine AI ?_);refine hK' _ _ ?_;clear hK' K')
   simp only[sE,↓reduceIte,simprocAttr];exact key _ _ _ (aM (by omega) (by simp[aW,fin_at,finA_at,upd_at,HV.men,HV.menL,HV.norm,HV.toC,HV.toCL,pvb,bJ,aQ,hmW,cG]) (by simp[aX,fob_at,upd_at,none0_at,bT,HO.men,HV.men,HV.menL,HV.norm,HV.toC,HV.toCL,pvb,bJ,aQ,hmW,cG]))
  have hWp:0<W.length:=by omega
  refine aD (by kernel_rfl) ?_;simp only[sR,simprocAttr];iterate 6
   (refine aE (g:=none) rfl rfl fun K' hK'=>?_;simp only[sH,↓sP,sA,tyS,simprocAttr,pvb,cB hmW,List.length_map,hWp,hm,Nat.zero_le,List.length_take,List.length_drop,Nat.sub_zero,Nat.min_eq_left hm];(repeat refine AI ?_);refine hK' _ _ ?_;clear hK' K')
  simp only[sE,↓reduceIte,simprocAttr];exact key _ _ _ (aM (by omega) (by simp[aW,fin_at,finA_at,upd_at,HV.men,HV.menL,HV.norm,HV.toC,HV.toCL,pvb,bJ,aQ,cB hmW]) (by simp[aX,fob_at,upd_at,none0_at,bT,HO.men,HV.men,HV.menL,HV.norm,HV.toC,HV.toCL,pvb,bJ,aQ,cB hmW]))
 refine aB fun K hK=>aD (by kernel_rfl) ?_;simp (maxSteps:=4000000) only[↓sP,sA,tyS,simprocAttr];repeat refine AI ?_
 refine hK _ _ _ ?_;clear hK K;refine aN ?_;refine aB fun K hK=>aD (by kernel_rfl) ?_;simp (maxSteps:=4000000) only[↓sP,sA,tyS,simprocAttr];repeat refine AI ?_
 refine hK _ _ _ ?_;clear hK K;refine aH (b:=(l[i].k==3)) rfl (fun hb=>?_) (fun hb=>?_)
 ·
  refine aD (by kernel_rfl) ?_;simp (maxSteps:=4000000) only[↓sP,sA,tyS,simprocAttr];have h3:l[i].k=3:=by simpa using hb
  have e1:kK l[i]=3:=by unfold kK;rw[if_neg (by omega),if_pos h3]
  have e2:wantN l[i]=1:=by unfold wantN;rw[if_neg (by omega),if_pos h3]
  exact key _ _ _ (aM (by omega) (by simp[aW,fin_at,finA_at,upd_at,HV.men,HV.menL,HV.norm,HV.toC,HV.toCL,pvb,bJ,aQ,e1,e2]) (by simp[aX,fob_at,upd_at,none0_at,bT,HO.men,HV.men,HV.menL,HV.norm,HV.toC,HV.toCL,pvb,bJ,aQ,e1,e2]))
 have hk3:l[i].k≠3:=by simpa using hb
 refine aB fun K hK=>aD (by kernel_rfl) ?_;simp (maxSteps:=4000000) only[↓sP,sA,tyS,simprocAttr];repeat refine AI ?_
 refine hK _ _ _ ?_;clear hK K;refine aH (b:=(l[i].k==4)) rfl (fun hb=>?_) (fun hb=>?_)
 ·
  refine yA mixed (by kernel_rfl) (by kernel_rfl) (by kernel_rfl) ?_;simp only[sR,simprocAttr];iterate 4
   (refine aE (g:=none) rfl rfl fun K' hK'=>?_;simp only[sH,↓sP,sA,tyS,simprocAttr];(repeat refine AI ?_);refine hK' _ _ ?_;clear hK' K')
  simp only[sE,↓reduceIte,simprocAttr];have h4:l[i].k=4:=by simpa using hb
  have h5:1≤l[i].n:=by omega
  have e1:kK l[i]=4:=by unfold kK;rw[if_neg (by omega),if_neg (by omega)]
  have e2:l[i].n=(wantN l[i]:Nat):=by unfold wantN;rw[if_neg (by omega),if_neg (by omega)];omega
  exact key _ _ _ (aM (by omega) (by simp[aW,fin_at,finA_at,upd_at,HV.men,HV.menL,HV.norm,HV.toC,HV.toCL,pvb,bJ,aQ,e1,←e2]) (by simp[aX,fob_at,upd_at,none0_at,bT,HO.men,HV.men,HV.menL,HV.norm,HV.toC,HV.toCL,pvb,bJ,aQ,e1,←e2]))
 refine aK ?_;simp (maxSteps:=4000000) only[↓sP,sA,tyS,simprocAttr];have h4:l[i].k=2:=by simp at hb;omega
 have e1:kK l[i]=2:=by unfold kK;rw[if_pos h4]
 have e2:l[i].c=(wantN l[i]:Nat):=by unfold wantN;rw[if_pos h4];omega
 exact key _ _ _ (aM (by omega) (by simp[aW,fin_at,finA_at,upd_at,HV.men,HV.menL,HV.norm,HV.toC,HV.toCL,pvb,bJ,aQ,e1,←e2]) (by simp[aX,fob_at,upd_at,none0_at,bT,HO.men,HV.men,HV.menL,HV.norm,HV.toC,HV.toCL,pvb,bJ,aQ,e1,←e2]))
theorem cW2 (a b n:Nat)(ob:Ob)(x y:HO):kL (sub [a,b] n) ob 0 [x,y]=upd (upd ob a (some (x.ren (sub [a,b] n)))) b (some (y.ren (sub [a,b] n))):=rfl
theorem aU5 (a b n:Nat)(ob:Ob)(l:List Nd)(S:List Sp)(W:List Ln)(m:Nat):kL (sub [a,b] n) ob 0 (osP l S W m)=upd (upd ob a (some (.box 80 (pvb l S (cM b W.length 4 m))))) b (some (.row 41 4 (W.map Ln.cv))):=by
 rw[cW2];simp[HO.ren,HV.ren,HV.renL,pvb,kE,sub]
theorem aU6 (a b n:Nat)(t:TypeId)(l:List Nd)(S:List Sp)(k m:Nat):(HO.box t (pvb l S (cM 1 k 4 m))).ren (sub [a,b] n)= .box t (pvb l S (cM b k 4 m)):=by
 simp[HO.ren,HV.ren,HV.renL,pvb,kE,sub]
theorem cL3 (a b n:Nat)(x y:CV):HV.ren (sub [a,b] n) (.tup [.c x,.c y])= .tup [.c x,.c y]:=rfl
theorem cS0 (a b n:Nat)(x:CV):HV.ren (sub [a,b] n) (.c x)= .c x:=rfl
theorem bB0 {id n m:Nat}{e:TypeId}{L:List CV}(h:ob id=some (.row e 4 L))(hn:n=L.length)(hm:m≤n):(cM id n 4 m).close ob [id]= .c (.slc (L.take m)):=by
 unfold cM;split
 · rename_i e1;rw[HV.close,if_pos (by simp)];simp only[h];rw[if_pos hn,e1,hn,List.take_length]
 rename_i e1;rw[HV.close,if_pos (by simp)];simp only[h];rw[if_pos ⟨hn,by omega,trivial,by omega,hm⟩];rfl
theorem bP8 (id n sz m:Nat):HV.getAt 0 1 false (cM id n sz m)=some (cM id n sz m):=by unfold cM;split<;>rfl
theorem cD2 (l:List Nd)(hn: ∀n∈l,n.q.t.length<2^63)(S:List Sp)(hS:S.length<2^40)(hd: ∀x∈S,x.d.length<2^42):eU Tryz.prog 14 [.slc (l.map Nd.cv),.slc (S.map Sp.cv)] (fun u v=>u= .slc ((qR l S).map Ln.cv)∧v= .bool (mF l (eD S))):=by
 have hTl:(eD S).length<2^63:=by unfold eD;rw[List.length_map];omega
 refine cI Tryz.func14 rfl (by kernel_rfl) (dT _) (Nat.le_of_ble_eq_true rfl) ?_;refine aB fun K hK=>aD (by kernel_rfl) ?_;simp (maxSteps:=4000000) only[↓sP,sA,tyS,simprocAttr];repeat refine AI ?_
 refine hK _ _ _ ?_;clear hK K;refine aB fun K hK=>?_;refine aB fun K hK=>aD (by kernel_rfl) ?_;simp only[sR,simprocAttr];iterate 2
  (refine aE (g:=none) rfl rfl fun K' hK'=>?_;simp only[sH,↓sP,sA,tyS,simprocAttr,denilL_Sp,denilL_Nd,pR];(repeat refine AI ?_);refine hK' _ _ ?_;clear hK' K')
 refine aE (g:=none) rfl rfl fun K' hK'=>?_;simp (maxSteps:=4000000) only[sH,↓sP,sA,tyS,simprocAttr,denilL_Sp,denilL_Nd,pR];refine dN (args:=[_]) (cC7 S hS) ⟨rfl,rfl,rfl,rfl⟩ ?_;rintro u rfl;repeat refine AI ?_
 refine hK' _ _ ?_;clear hK' K';refine aE (g:=none) rfl rfl fun K' hK'=>?_;simp (maxSteps:=4000000) only[sH,↓sP,sA,tyS,simprocAttr,denilL_Sp,denilL_Nd,pR];refine dN (args:=[_,_]) (cL1 l hn (eD S) hTl) ⟨rfl,rfl,rfl,rfl⟩ ?_;rintro u rfl;repeat refine AI ?_
 refine hK' _ _ ?_;clear hK' K';refine aE (g:=none) rfl rfl fun K' hK'=>?_;simp (maxSteps:=4000000) only[sH,↓sP,sA,tyS,simprocAttr,denilL_Sp,denilL_Nd,pR];repeat refine AI ?_
 refine hK' _ _ ?_;clear hK' K';simp only[sE,↓reduceIte,simprocAttr];repeat refine AI ?_
 refine hK _ _ _ ?_;clear hK K;refine aH (b:=!mF l (eD S)) rfl (fun hb=>?_) (fun hb=>?_)
 ·
  refine aB fun K hK=>aD (by kernel_rfl) ?_;simp (maxSteps:=4000000) only[↓sP,sA,tyS,simprocAttr];repeat refine AI ?_
  refine hK _ _ _ ?_;clear hK K;refine aF ?_;simp (maxSteps:=4000000) only[bS,Tryz.results14,bN,bR,bM,↓sP,sA,tyS,simprocAttr];have hev:mF l (eD S)=false:=by simpa using hb
  exact aR [] (.slc []) (.bool false) (by simp[HV.close,HV.closeL,CV.denil,CV.denilL,HV.norm,HV.toC,HV.toCL]) ⟨by rw[qR,hev];rfl,by rw[hev]⟩
 have hev:mF l (eD S)=true:=by simpa using hb
 clear hb;have htb:eN l=true:=by
  unfold mF at hev;rw[Bool.and_eq_true]at hev;exact hev.1
 have hv:fJ l (eD S) 0=true:=by
  unfold mF at hev;rw[Bool.and_eq_true]at hev;exact hev.2
 have ht:=jL htb;have hlen:=ht.len;have hne:0<l.length:=ht.ne;refine aK ?_;simp (maxSteps:=4000000) only[↓sP,sA,tyS,simprocAttr];repeat refine AI ?_
 refine hK _ _ _ ?_;clear hK K;refine aB fun K hK=>aD (by kernel_rfl) ?_;simp only[sR,simprocAttr];iterate 2
  (refine aE (g:=none) rfl rfl fun K' hK'=>?_;simp only[sH,↓sP,sA,tyS,simprocAttr,denilL_Sp,denilL_Nd];(repeat refine AI ?_);refine hK' _ _ ?_;clear hK' K')
 refine aE (g:=none) rfl rfl fun K' hK'=>?_;simp (maxSteps:=4000000) only[sH,↓sP,sA,tyS,simprocAttr,denilL_Sp,denilL_Nd];refine dN (args:=[_]) (aG5 l hn) ⟨rfl,rfl,rfl,rfl⟩ ?_;rintro u rfl;repeat refine AI ?_
 refine hK' _ _ ?_;clear hK' K';iterate 4
  (refine aE (g:=none) rfl rfl fun K' hK'=>?_;simp only[sH,↓sP,sA,tyS,simprocAttr,denilL_Sp,denilL_Nd];(repeat refine AI ?_);refine hK' _ _ ?_;clear hK' K')
 simp only[sE,↓reduceIte,simprocAttr];repeat refine AI ?_
 refine hK _ _ _ ?_;clear hK K;refine dQ 48 3 41 4 rfl rfl rfl rfl ?_;refine aB fun K hK=>aD (by kernel_rfl) ?_;simp only[sR,simprocAttr];refine aE (g:=none) rfl rfl fun K' hK'=>?_;simp (maxSteps:=4000000) only[sH,↓sP,sA,tyS,simprocAttr,pvb];repeat refine AI ?_
 refine hK' _ _ ?_;clear hK' K';refine aE (g:=none) rfl rfl fun K' hK'=>?_;simp (maxSteps:=4000000) only[sH,↓sP,sA,tyS,simprocAttr,pvb];refine fV [48,56] (cD1 l htb hn S hS hd l.length [] 0 0 hne (by omega) (by simp) (by have:=(lU ht hne).2.1;simp only[List.length_nil];omega)) rfl ⟨(by rw[aU6];rfl),rfl,trivial⟩ (by simp) (by simp) ⟨rfl,rfl,rfl,rfl⟩ (by simp[eH,HO.men,HV.men,HV.menL,bJ]) (by simp[HV.menL,HV.men]) ?_;rintro r os' ⟨W',m',rfl,rfl,g2,g3,g4⟩;rw[aU5,cL3,hv];have ha:=(lU ht hne).2.1;have g5:W'.take m'=aP8 l S:=by rw[g4,if_pos hv];rfl
 have g6:m'=(aP8 l S).length:=by rw[←g5,List.length_take];omega
 simp only[List.length_nil]at g3;repeat refine AI ?_
 refine hK' _ _ ?_;clear hK' K';iterate 5
  (refine aE (g:=none) rfl rfl fun K' hK'=>?_;simp only[sH,↓sP,sA,tyS,simprocAttr,pvb];(repeat refine AI ?_);refine hK' _ _ ?_;clear hK' K')
 simp only[sE,↓reduceIte,simprocAttr];repeat refine AI ?_
 refine hK _ _ _ ?_;clear hK K;refine aB fun K hK=>?_;refine aB fun K hK=>aD (by kernel_rfl) ?_;simp (maxSteps:=4000000) only[↓sP,sA,tyS,simprocAttr];repeat refine AI ?_
 refine hK _ _ _ ?_;clear hK K;refine aH (b:=false) rfl (fun hb=>?_) (fun hb=>?_)
 · cases hb
 refine aK ?_;simp (maxSteps:=4000000) only[↓sP,sA,tyS,simprocAttr];repeat refine AI ?_
 refine hK _ _ _ ?_;clear hK K;refine aB fun K hK=>bY (by kernel_rfl) ?_;simp only[sR,simprocAttr];iterate 2
  (refine aZ (g:=none) rfl rfl fun K' hK'=>?_;simp only[sH,↓sP,sA,tyS,simprocAttr,pvb,aV,aS,aQ];(repeat refine AI ?_);refine hK' _ _ ?_;clear hK' K')
 refine eB (g:=none) 101 rfl rfl fun K' hK'=>?_;simp (maxSteps:=4000000) only[iT,kW,sH,↓sP,sA,tyS,simprocAttr,pvb,aV,aS,aQ];repeat refine AI ?_
 refine dO (by first|rfl|simp) ?_;try simp (maxSteps:=4000000) only[sH,↓sP,sA,tyS,simprocAttr,pvb,aV,aS,aQ]
 repeat refine AI ?_
 refine hK' _ _ ?_;clear hK' K';refine aZ (g:=none) rfl rfl fun K' hK'=>?_;simp (maxSteps:=4000000) only[sH,↓sP,sA,tyS,simprocAttr,pvb,aV,aS,aQ];repeat refine AI ?_
 refine hK' _ _ ?_;clear hK' K';refine aZ (g:=none) rfl rfl fun K' hK'=>?_;simp (maxSteps:=4000000) only[sH,↓sP,sA,tyS,simprocAttr,pvb,aV,aS,aQ];refine fV [48,56] (aL7 l S W' m' ⟨5,0,[],[(m':Int)-1]⟩ g2 (by omega)) rfl ⟨(by rw[aU6];rfl),rfl,trivial⟩ (by simp) (by simp) ⟨rfl,rfl,rfl,rfl⟩ (by simp[eH,HO.men,HV.men,HV.menL,bJ]) (by simp[HV.menL,HV.men]) ?_;rintro r os' ⟨rfl,rfl⟩;rw[aU5,cS0];repeat refine AI ?_
 refine hK' _ _ ?_;clear hK' K';simp only[sE,↓reduceIte,simprocAttr];repeat refine AI ?_
 refine hK _ _ _ ?_;clear hK K;refine aB fun K hK=>aD (by kernel_rfl) ?_;simp only[sR,simprocAttr];iterate 6
  (refine aE (g:=none) rfl rfl fun K' hK'=>?_;simp only[sH,↓sP,sA,tyS,simprocAttr,pvb,bP8,zO,aV,aS,aQ];(repeat refine AI ?_);refine hK' _ _ ?_;clear hK' K')
 simp only[sE,↓reduceIte,simprocAttr];repeat refine AI ?_
 refine hK _ _ _ ?_;clear hK K;refine aF ?_;simp (maxSteps:=4000000) only[bS,Tryz.results14,bN,bR,bM,↓sP,sA,tyS,simprocAttr];refine⟨by rw[zO];exact not_false,?_⟩;refine aR [56] (.slc ((qR l S).map Ln.cv)) (.bool true) ?_ ⟨rfl,by rw[hev]⟩;have e1:List.take (m'+1) ((oV W' m' ⟨5,0,[],[(m':Int)-1]⟩).map Ln.cv)=(qR l S).map Ln.cv:=by
  rw[←List.map_take,vI g2,g5,qR,if_pos hev,g6]
 simp only[HV.close,HV.closeL];rw[bB0 (L:=(oV W' m' ⟨5,0,[],[(m':Int)-1]⟩).map Ln.cv) rfl (by simp) (by rw[kT g2];omega),e1];simp[HV.norm,HV.toC,HV.toCL,CV.denil]
theorem aU7 (l:List Dig)(hl:l.length<2^40):cP5 Tryz.prog 57 44 32 (l.map dg) [] (fun l'=> ∃K:List Dig,l'=K.map dg∧dws K=cN (dws l)):=by
 refine cG1 ?_;show HFn _ _ [.own 0 (l.map dg).length] 1 _ _;rw[List.length_map];refine cI (args:=[.own 0 l.length]) Tryz.func57 rfl (by kernel_rfl) (yE 44 32 l.length _) (Nat.le_of_ble_eq_true rfl) ?_;refine R0 ?_;refine aB fun K hK=>?_;refine R0 ?_;refine aH (b:=decide ((l.length:Int)<2)) rfl (fun hb=>?_) (fun hb=>?_)
 · refine R0 ?_;refine aF (RT Tryz.results57 ?_);exact sG (l.map dg) rfl (by simp) ⟨l,rfl,by rw[wG (by rw[jY];simp at hb;omega)]⟩
 refine aK ?_;refine T0 (hK _ _ _ ?_);clear hK K;refine aB fun K hK=>?_;refine R0 ?_;refine aN ?_;have h2:2≤l.length:=by simp at hb;omega
 refine bF (α:={k:Nat//1≤k∧k≤l.length∧cN (dws (l.take k))=dws (l.take k)}) (fun k=>(fin [(0,.own 0 l.length),(3,.c (.int .i64 k.1))],fob [(0,.row 44 32 (l.map dg))])) 100 (fun k=>l.length-k.1) ⟨1,by omega,by omega,wG (by rw[jY];simp;omega)⟩ (fF) ?_;clear hb;rintro⟨k,hk1,hk,hd⟩;refine aB fun K hK=>?_;refine aB fun K hK=>Rg ?_;iterate 4 refine S0 ?_
 refine T2 (hK _ _ _ ?_);clear hK K;refine aH (b:=decide ((k:Int)<l.length)) rfl (fun hb=>?_) (fun hb=>?_)
 ·
  have hlt:k<l.length:=by simpa using hb
  have hlt1:k-1<l.length:=by omega
  have m1:IntKind.i64.wrap ((k:Int)-1)=((k-1:Nat):Int):=by rw[IntWalk.i64_in _ (by omega)];omega
  refine aK ?_;refine T0 (hK _ _ _ ?_);clear hK K;refine aB fun K hK=>?_;refine aN ?_;refine aB fun K hK=>QR ?_;have F:=aI m1 (aI @Int.natCast_nonneg (aI @Int.ofNat_lt (aI hlt (aI hlt1 (aI (nM hlt) (nM hlt1))))));iterate 10 refine SF ?_
  refine T2 (hK _ _ _ ?_);clear hK K;refine aH (b:=l[k]==l[k-1]) rfl (fun hb=>?_) (fun hb=>?_)
  ·
   refine aB fun K hK=>Rg ?_;iterate 4 refine S0 ?_
   refine T2 (hK _ _ _ ?_);clear hK K;refine aB fun K hK=>?_;refine R0 ?_;refine aN ?_;refine bF (α:={x:Nat×Nat×List Dig//x.2.2.length=l.length∧1≤x.1∧x.1<x.2.1∧x.2.1≤l.length∧k<x.2.1∧dws (x.2.2.take x.1)=cN (dws (l.take x.2.1))∧x.2.2.drop (x.2.1-1)=l.drop (x.2.1-1)}) (fun x=>(fin [(0,.own 0 l.length),(3,.c (.int .i64 x.1.1)),(4,.osl 0 l.length k 32 l.length),(5,.c (.int .i64 ((x.1.2.1-k:Nat):Int)))],fob [(0,.row 44 32 (x.1.2.2.map dg))])) 300 (fun x=>l.length-x.1.2.1) ⟨(k,k+1,l),rfl,hk1,by simp,hlt,by simp,by rw[bG7 hk1 hlt hb,hd],rfl⟩ (fF) ?_;rintro⟨⟨i,j,r⟩,hr,hi1,hij,hj,hkj,g1,g2⟩;simp only at hr hi1 hij hj hkj g1 g2⊢;have hrl:(r.map dg).length=l.length:=by rw[List.length_map,hr]
   have p0:0<l.length:=by omega
   have e9:(List.take (l.length-k) (List.drop k (r.map dg))).length=l.length-k:=by simp[hr]
   refine aB fun K hK=>?_;refine aB fun K hK=>Rg ?_;have F:=aI hr (aI p0 (aI hk (aI @Nat.le_refl e9)));iterate 4 refine SF ?_
   refine T2 (hK _ _ _ ?_);clear hK K;refine aH (b:=decide (((j-k:Nat):Int)<((l.length-k:Nat):Int))) rfl (fun hb=>?_) (fun hb=>?_)
   ·
    have hjl:j<l.length:=by simp at hb;omega
    have hjr:j<r.length:=by omega
    have hj1r:j-1<r.length:=by omega
    have hir:i<r.length:=by omega
    have hil:i<l.length:=by omega
    have hj1l:j-1<l.length:=by omega
    have z1:((j-k:Nat):Int)<((l.length-k:Nat):Int):=by omega
    have z2:((j-k-1:Nat):Int)<((l.length-k:Nat):Int):=by omega
    have e1:k+(j-k)=j:=by omega
    have e2:k+(j-k-1)=j-1:=by omega
    have m2:IntKind.i64.wrap (((j-k:Nat):Int)-1)=((j-k-1:Nat):Int):=by rw[IntWalk.i64_in _ (by omega)];omega
    have m3:IntKind.i64.wrap (((j-k:Nat):Int)+1)=((j+1-k:Nat):Int):=by rw[IntWalk.i64_in _ (by omega)];omega
    have q0:r[j-1]=l[j-1]∧r[j]=l[j]:=by
     have a1:(r.drop (j-1))[0]? =(l.drop (j-1))[0]? :=by rw[g2]
     have a2:(r.drop (j-1))[1]? =(l.drop (j-1))[1]? :=by rw[g2]
     simp only[List.getElem?_drop,Nat.add_zero,show j-1+1=j by omega,List.getElem?_eq_getElem hjr,List.getElem?_eq_getElem hj1r,List.getElem?_eq_getElem hjl,List.getElem?_eq_getElem hj1l,Option.some.injEq]at a1 a2;exact⟨a1,a2⟩
    have q1:nth (r.map dg) j=dg l[j]:=by rw[bP hjr,q0.2]
    have q2:nth (r.map dg) (j-1)=dg l[j-1]:=by rw[bP hj1r,q0.1]
    have g3:r.drop j=l.drop j:=by
     have:(r.drop (j-1)).drop 1=(l.drop (j-1)).drop 1:=by rw[g2]
     rwa [List.drop_drop,List.drop_drop,show j-1+1=j by omega]at this
    refine aK ?_;refine T0 (hK _ _ _ ?_);clear hK K;refine aB fun K hK=>?_;have key: ∀(i':Nat) (r':List Dig) fr ob nx,r'.length=l.length→1≤i'→i'<j+1→dws (r'.take i')=cN (dws (l.take (j+1)))→r'.drop j=l.drop j→Fits 1 fr ob (fin [(0,.own 0 l.length),(3,.c (.int .i64 i')),(4,.osl 0 l.length k 32 l.length),(5,.c (.int .i64 ((j-k:Nat):Int)))]) (fob [(0,.row 44 32 (r'.map dg))]) 500→K fr ob nx:=by
     rintro i' r' fr ob nx w1 w2 w3 w4 w5 hf;refine hK _ _ _ (bE hf ?_);clear hf hK K;refine aD (by kernel_rfl) ?_;refine TQ m3 ?_;refine⟨⟨(i',j+1,r'),w1,w2,w3,hjl,by simp only;omega,w4,w5⟩,fF,?_⟩;show l.length-(j+1)<l.length-j;omega
    refine aN ?_;refine aB fun K hK=>QR ?_;iterate 10 refine S0 ?_ (e:=fun _ h_=>by simp only[sH,↓sP,sA,tyS,simprocAttr,hr,m2,e1,e2,z1,z2,q1,q2,hjl,hj1l,hjr,hj1r,Int.natCast_nonneg,Int.ofNat_lt];exact AX h_)
    refine T2 (hK _ _ _ ?_);clear hK K;refine aH (b:=!(l[j]==l[j-1])) rfl (fun hb=>?_) (fun hb=>?_)
    ·
     refine aB fun K hK=>Rg ?_;iterate 8 refine S0 ?_ (e:=fun _ h_=>by simp only[sH,↓sP,sA,tyS,simprocAttr,hr,e1,z1,q1,bP hir,hil,hir,hjl,hjr,Int.natCast_nonneg,Int.ofNat_lt,←List.map_set];exact AX h_)
     refine T2 (hK _ _ _ ?_);clear hK K;refine aD (by kernel_rfl) ?_;refine TQ (fA i) ?_;refine key (i+1) (r.set i l[j]) _ _ _ (by simp[hr]) (by omega) (by omega) ?_ ?_ (fF)
     · exact cR5 (by omega) hjl (by simpa using hb) (by omega) g1
     rw[List.drop_set_of_lt (by omega),g3]
    refine aK (T3 ?_);exact key i r _ _ _ hr hi1 (by omega) (by rw[bG7 (by omega) hjl (by simpa using hb),g1]) g3 (fF)
   have hjl:j=l.length:=by simp at hb;omega
   subst hjl;rw[List.take_length]at g1;refine bA (T3 ?_);clear hK K;refine AX (hK _ _ _ ?_);clear hK K;refine aB fun K hK=>Rg ?_;have F:=hr;iterate 4 refine SF ?_
   refine T2 (hK _ _ _ ?_);clear hK K;refine aB fun K hK=>Rg ?_;iterate 4 refine SF ?_
   refine T2 (hK _ _ _ ?_);clear hK K;refine aF (RT Tryz.results57 ?_);refine bU3 _ rfl ?_ ?_ ?_ ?_
   · simp[hr];omega
   · simp[hr];omega
   · simp[hr];omega
   refine⟨r.take i,?_,g1⟩;simp[hr];rw[List.take_append_of_le_length (by simp[hr];omega),List.take_take,Nat.min_self]
  refine aK ?_;refine T0 (hK _ _ _ ?_);clear hK K;refine aD (by kernel_rfl) ?_;refine TQ (fA k) ?_;refine⟨⟨k+1,by omega,hlt,cK1 hk1 hlt hb hd⟩,fF,?_⟩;show l.length-(k+1)<l.length-k;omega
 refine bA (T3 ?_);clear hK K;refine AX (hK _ _ _ ?_);clear hK K;refine R0 ?_;refine aF (RT Tryz.results57 ?_);have hkl:k=l.length:=by simp at hb;omega
 subst hkl;rw[List.take_length]at hd;exact sG (l.map dg) rfl (by simp) ⟨l,rfl,by rw[hd]⟩
end Go.Proofs.YthedbjfipmkpiaaGreatDoor
namespace Go.Proofs.YthedbjfipmkpiaaGreatDoor
open Go Go.Hl Go.Pl Go.Sort Go.RowKit
set_option maxRecDepth 100000
theorem bB1 (x y:Dig)(b c:Nat)(W:World)(h:(callFunc 90 #[.slice (some ⟨b,0,none⟩) 32 32,.slice (some ⟨c,0,none⟩) 32 32]).run Tryz.prog W= .ok (.value (.int .i64 (kO x.1 y.1))) W):
    Calls Tryz.prog 56 #[.slice (some ⟨b,0,none⟩) 32 32,.slice (some ⟨c,0,none⟩) 32 32] W fun e w'=>e= .returned (.int .i64 (kO x.1 y.1))∧w'=W:=by
  generalize kO x.1 y.1=r at h⊢
  go_enter Tryz.func56,Tryz.ntmps56
  go_wp2_with fail
  go_ret
  exact⟨rfl,rfl⟩
theorem aU8 (x y:Dig)(W:World)
    (hc: ∀W':World,W'.heap=((W.alloc (Obj.cells (eJ x).toArray 44)).alloc (Obj.cells (eJ y).toArray 44)).heap→Calls Tryz.prog 56 #[.slice (some ⟨W.heap.size,0,none⟩) 32 32,.slice (some ⟨W.heap.size+1,0,none⟩) 32 32] W' fun e w'=>e= .returned (.int .i64 (kO x.1 y.1))∧w'=W'):
    Calls Tryz.prog 55 #[.agg (eJ x).toArray,.agg (eJ y).toArray] W fun e w'=>e= .returned (.int .i64 (kO x.1 y.1))∧ ∃q os',w'=grow (W.drewN q) os':=by
  go_enter Tryz.func55,Tryz.ntmps55
  go_wp2_with fail
  go_quiet (first|(go_at_call 56;refine Calls.quiet_of_same (hc _ rfl)))
  go_wp2
  go_ret
  exact⟨rfl,nq,_,by rw[alloc_eq_grow,alloc_eq_grow,grow_grow];rfl⟩
theorem aH1 {W:World}{b:Nat}{d:Dig}{t:TypeId}{ρ:Env}(hb:W.heap[b]? =some (.cells (eJ d).toArray t (0,0))):RepV W ρ (fun _=>False) (.c (.slc (d.1.map u8))) (.slice (some ⟨b,0,none⟩) 32 32):=by
  refine bW ?_ rfl rfl;simp only[RepC];refine⟨some ⟨b,0,none⟩,32,eJ d,1,by simp[d.2],zQ.2 rfl,fun v hv=>?_,by simp[d.2],fun h=>(by cases h),fun ad h=>?_⟩
  · obtain⟨x,_,rfl⟩:=List.mem_map.1 hv;rfl
  · cases h
    refine⟨fun j u hj=>?_,fun _ h=>h⟩;have h1:(eJ d).toArray[j]? =some u:=by simpa using hj
    rw[show(⟨b,0,none⟩:Addr).add j=⟨b,j,none⟩from by unfold Addr.add;split<;>simp_all];simp only[World.cell?,hb,h1,Option.isSome_none,Bool.false_eq_true,if_false]
theorem aU9 (x y:Dig)(W:World):Calls Tryz.prog 55 #[.agg (eJ x).toArray,.agg (eJ y).toArray] W fun e w'=>e= .returned (.int .i64 (kO x.1 y.1))∧ ∃q os',w'=grow (W.drewN q) os':=
  aU8 x y W fun W' hW=>bB1 x y _ _ W' (by
    have h1:W'.heap[W.heap.size]? =some (.cells (eJ x).toArray 44 (0,0)):=by
      rw[hW];simp only[World.alloc,Array.getElem?_push,Array.size_push];rw[if_neg (by omega),if_true]
    have h2:W'.heap[W.heap.size+1]? =some (.cells (eJ y).toArray 44 (0,0)):=by
      rw[hW];simp only[World.alloc,Array.getElem?_push,Array.size_push];rw[if_true]
    have hr:=cG8 (P:=Tryz.prog) (aH1 (ρ:=fun _=>none) h1) (aH1 (ρ:=fun _=>none) h2);rw[run_callFunc_extern Tryz.func90 (by kernel_rfl) (by kernel_rfl) (by kernel_rfl) (e:=Extern.BytealgCompare.compare) (by kernel_rfl),hr];rfl)
theorem bB2 (blk size:Nat)(w:World):CmpLays Tryz.prog 55 #[] eJ 32 (fun x y=>kO x.1 y.1) blk 0 size w:=fun _ _ _ _ x y=>aU9 x y _
theorem cD3 :SWO (ltOf fun x y:Dig=>kO x.1 y.1):=by
  have e: ∀x y:Dig,ltOf (fun x y:Dig=>kO x.1 y.1) x y=true↔x.1<y.1:=fun x y=>by
    rw[←wY];show decide (kO x.1 y.1<0)=true↔slt x.1 y.1=true;unfold kO;by_cases h:slt x.1 y.1=true
    · simp[h]
    · have h':slt x.1 y.1=false:=by simpa using h
      rw[h'];by_cases h2:x.1=y.1<;>simp[h2]
  have e2: ∀x y:Dig,ltOf (fun x y:Dig=>kO x.1 y.1) x y=false↔y.1≤x.1:=fun x y=>by
    rw[←List.not_lt,←e,Bool.not_eq_true]
  refine⟨fun x=>(e2 x x).2 (List.le_refl _),fun x y z h1 h2=>(e x z).2 (List.lt_trans ((e x y).1 h1) ((e y z).1 h2)),fun x y z h1 h2=>(e2 x z).2 (List.le_trans ((e2 y z).1 h2) ((e2 x y).1 h1))⟩
end Go.Proofs.YthedbjfipmkpiaaGreatDoor
namespace Go.Hl
open Go Go.RowKit Go.Sort Go.Pl Go.Proofs
def bB3 (P:Program)(lt:Dig→Dig→Bool)(f g:FuncId)(e:TypeId)(l:List Dig):Prop:=
 HFn P f [.own 0 l.length,.c (.fn g)] 1 (fob [(0,.row e 32 (l.map dg))]) (fun r ob'=>r= .tup []∧ ∃l':List Dig,l'.Perm l∧l'.Pairwise (fun a b=>lt b a=false)∧ob'=fob [(0,.row e 32 (l'.map dg))])
variable {l:List Dig}{e:TypeId}{lt:Dig→Dig→Bool}{P:Program}
theorem bP9 {f g:FuncId}(hok:eO P f=true)
  (hc: ∀(blk cap:Nat) (w:World),HoldsK eJ 32 w blk 0 l.toArray→blk<w.heap.size→Calls P f #[.slice (some ⟨blk,0,none⟩) l.length cap,.func (.func g) #[] #[]] w fun x w'=>x= .returned (.tuple #[])∧ ∃(d':Array Dig) (n:Nat) (os:Array Obj),PermIn 0 l.length l.toArray d'∧SortedIn lt 0 l.length d'∧w'=sortWorldK eJ 32 w blk 0 n d' os)
  (hc0: ∀(cap:Nat) (w:World),Calls P f #[.slice none 0 cap,.func (.func g) #[] #[]] w fun x w'=>x= .returned (.tuple #[])∧w'=w):bB3 P lt f g e l:=by
 refine⟨rV hok,fun w ρ X xs hS hA hX=>Does.of hok ?_⟩;obtain⟨h,ys,hρ,hL,hcs,how⟩:=hS.objs 0 (.row e 32 (l.map dg)) rfl;have hys:=mP.1 hL;subst hys;have hlen:hlen h=l.length:=by have:=ownsRow_size how;simpa using this
 have hargs:xs=[h,.func (.func g) #[] #[]]:=by
  rw[bK]at hA;obtain⟨y,zs,rfl,hy,hz⟩:=hA;rw[bK]at hz;obtain⟨y2,zs2,rfl,hy2',hz2⟩:=hz;simp only[RepHV]at hz2;subst hz2;obtain⟨hy1,hy2⟩:=hy;have hag:Value.isAgg' y=false:=by rw[←hy2];rfl
  rw[cells_single hag]at hy1;simp only[RepH,List.cons.injEq,and_true]at hy1;obtain⟨x,rfl,_,hx⟩:=hy1;obtain⟨hz1,hz2⟩:=hy2';have hag2:Value.isAgg' y2=false:=by rw[←hz2];rfl
  rw[cells_single hag2]at hz1;simp only[RepH,RepC,List.cons.injEq,and_true]at hz1;rw[(hx h hρ).2 hlen,hz1]
 subst hargs;have hrt: ∀w':World,RepV w' ρ (Owned ρ X) (.tup []) (.tuple #[]):=fun w'=>by
  refine⟨?_,rfl⟩;simp only[RepH];exact⟨[],rfl,by simp[RepHV]⟩
 rcases how.2 with⟨rfl,hz⟩|⟨g',cap,cur,rfl,hg0,hg,hcap,hmax,hcsz,htake⟩
 ·
  have:l=[]:=List.eq_nil_of_length_eq_zero (by simpa using hz);subst this;refine(hc0 0 w).mono ?_;rintro ex w' ⟨rfl,rfl⟩;refine⟨.tup [],_,ρ,.tuple #[],rfl,⟨rfl,[],List.Perm.refl _,List.Pairwise.nil,rfl⟩,⟨hrt _,by simpa using hS,by simp[HV.men,HV.menL],fun i o ho=>?_,Stay2.refl _ _,Moves.refl _ _⟩⟩;simp only[fob_at,fob_nil]at ho;split at ho
  · rename_i e0;subst e0;cases ho;exact⟨by omega,trivial⟩
  · cases ho
 ·
  simp only[List.length_map]at hcap hcsz htake;have hgs:g'<w.heap.size:=(Array.getElem?_eq_some_iff.1 hg).1;have hH:HoldsK eJ 32 w g' 0 l.toArray:=fun j hj=>by
   have hj':j<l.length*32:=by simpa using hj
   refine⟨?_,by simp[World.frozen?,hg]⟩;have e1:cur.toList[j]? =some (flatK eJ 32 l.toArray)[j]! :=by
    have e0:(l.flatMap eJ)[j]? =some (flatK eJ 32 l.toArray)[j]! :=by
     rw[←zR,Array.getElem?_toList,Array.getElem?_eq_getElem (by simpa using hj'),getElem!_pos _ j (by simpa using hj')]
    have:(cur.toList.take (l.length*32))[j]? =(l.flatMap eJ)[j]? :=by rw[htake]
    rwa [List.getElem?_take,if_pos hj',e0]at this
   rw[Array.getElem?_toList]at e1;simp only[World.cell?,hg,Nat.zero_add,e1,Option.isSome_none,Bool.false_eq_true,if_false,id]
  simp only[List.length_map];refine(hc g' cap w hH hgs).mono ?_;rintro ex w' ⟨rfl,d',n,os,⟨hps,-,hpp⟩,hso,rfl⟩;obtain⟨S,rfl⟩: ∃S:List Dig,d'=S.toArray:=⟨d'.toList,by simp⟩;have hSl:S.length=l.length:=by simpa using hps
  have hperm:S.Perm l:=by
   have h1:(S.toArray.extract 0 l.length).toList=S:=by rw[←hSl];simp
   have h2:(l.toArray.extract 0 l.length).toList=l:=by simp
   rwa [h1,h2]at hpp
  have hsrt:S.Pairwise (fun a b=>lt b a=false):=List.pairwise_iff_getElem.2 fun i j hi hj hij=>by
   have h1:=hso i j (Nat.zero_le _) hij (by omega);simpa[getElem!_pos,hi,hj]using h1
  have hother: ∀b,b<w.heap.size→b≠g'→(sortWorldK eJ 32 w g' 0 n S.toArray os).heap[b]? =w.heap[b]? :=fun b hb hne=>by
   simp only[sortWorldK,putRowK,grow,putRow,mapBlock,Sort.ahead];rw[Array.getElem?_append_left (by simpa using hb),Array.getElem?_modify,if_neg (fun h=>hne h.symm)]
  have hthis:(sortWorldK eJ 32 w g' 0 n S.toArray os).heap[g']? =some (.cells (putCells id 0 (flatK eJ 32 S.toArray) cur) e (0,0)):=by
   simp only[sortWorldK,putRowK,grow,putRow,mapBlock,Sort.ahead];rw[Array.getElem?_append_left (by simpa using hgs),Array.getElem?_modify,if_pos rfl,hg];rfl
  have hs2:Stay2 w (Own ρ) (sortWorldK eJ 32 w g' 0 n S.toArray os) (Own ρ):=⟨fun b hb hno=>hother b hb (fun e'=>hno ⟨0,_,hρ,by rw[e'];rfl⟩),fun _ h=> .inl h,by simp[sortWorldK,putRowK,grow,putRow,mapBlock,Sort.ahead],rfl,rfl,rfl⟩;refine⟨.tup [],_,ρ,.tuple #[],rfl,⟨rfl,S,hperm,hsrt,rfl⟩,⟨hrt _,⟨fun i o ho=>?_,fun i hi=>hS.none i ?_,hS.apart,hS.xb⟩,by simp[HV.men,HV.menL],fun i o ho=>?_,hs2,Moves.refl _ _⟩⟩
  ·
   simp only[fob_at,fob_nil]at ho;split at ho
   ·
    rename_i e0;subst e0;cases ho;refine⟨_,S.flatMap eJ,hρ,mP.2 rfl,fun v hv=>?_,by rw[tS,List.length_map],.inr ⟨g',cap,putCells id 0 (flatK eJ 32 S.toArray) cur,by simp[hSl],Nat.zero_le _,hthis,by simp[hSl];exact hcap,hmax,?_,?_⟩⟩
    · obtain⟨s,_,rfl⟩:=List.mem_map.1 hv;exact dg_cells s
    · rw[←hcsz];simp[putCells]
    · have h1:=zS (flatK eJ 32 S.toArray) cur (by rw[size_flatK,hcsz];simp only[List.size_toArray,hSl];exact Nat.mul_le_mul_right _ hcap);rw[zR,size_flatK]at h1;simpa using h1
   · cases ho
  ·
   simp only[fob_at,fob_nil]at hi⊢;split at hi
   · cases hi
   · rename_i hne;rw[if_neg hne]
  ·
   simp only[fob_at,fob_nil]at ho;split at ho
   · rename_i e0;subst e0;cases ho;exact⟨by omega,trivial⟩
   · cases ho
theorem bB4 {av:List Nat}{f g:FuncId}{ob:Ob}{nid id n:Nat}{K:HV→Ob→Prop}(h:bB3 P lt f g e l)(hid:ob id=some (.row e 32 (l.map dg)))(hn:n=l.length)(hav:id∉av)
  (hfree:Free4 ob nid) (hK: ∀l':List Dig,l'.Perm l→l'.Pairwise (fun a b=>lt b a=false)→K (.tup []) (upd ob id (some (.row e 32 (l'.map dg))))):HCall P av f [.own id n,.c (.fn g)] ob nid K:=by
 have h0:sub [id] nid 0=id:=rfl;subst hn;refine⟨[id],_,_,_,h,aD2 (by simp[HV.menL,HV.men]),⟨by simp,by simpa using hav⟩,by simp only[HV.renL,HV.ren,h0],fun j o hj=>?_,fun r lob' hR _=>?_⟩
 ·
  simp only[fob_at,fob_nil]at hj;split at hj
  · rename_i e0;subst e0;cases hj;simpa[HO.ren]using hid
  · cases hj
 · obtain⟨rfl,l',hp,hq,rfl⟩:=hR;rw[aP2 hfree];exact hK l' hp hq
end Go.Hl
namespace Go.Proofs.YthedbjfipmkpiaaGreatDoor
open Go.RowKit Go.Sort Go.Shelf
def aV0 :Go.Shelf.Ren:=⟨fun|6=>54|15=>89|14=>88|28=>120|29=>121|20=>112|21=>113|22=>114|23=>115|24=>116|25=>117|26=>118|27=>119|46=>139|47=>140|48=>141|49=>142|50=>143|57=>165|n=>n,fun|22=>39|24=>44|25=>105|3=>3|39=>72|0=>0|53=>168|55=>135|4=>4|46=>162|45=>161|50=>81|5=>5|9=>9|66=>184|70=>188|76=>202|77=>203|n=>n,fun|n=>n⟩
theorem bH7 :Go.Proofs.SlLaysF0.n6 Tryz.prog aV0:={
  mixed:=by kernel_rfl
  f6:=⟨Tryz.f54.name,by decide,Tryz.func54.trans (congrArg some (by kernel_rfl))⟩
  f14:=⟨Tryz.f88.name,by decide,Tryz.func88.trans (congrArg some (by kernel_rfl))⟩
  f15:=Tryz.func89.trans (congrArg some (by kernel_rfl))
  f20:=⟨Tryz.f112.name,by decide,Tryz.func112.trans (congrArg some (by kernel_rfl))⟩
  f21:=⟨Tryz.f113.name,by decide,Tryz.func113.trans (congrArg some (by kernel_rfl))⟩
  f22:=⟨Tryz.f114.name,by decide,Tryz.func114.trans (congrArg some (by kernel_rfl))⟩
  f23:=⟨Tryz.f115.name,by decide,Tryz.func115.trans (congrArg some (by kernel_rfl))⟩
  f24:=⟨Tryz.f116.name,by decide,Tryz.func116.trans (congrArg some (by kernel_rfl))⟩
  f25:=⟨Tryz.f117.name,by decide,Tryz.func117.trans (congrArg some (by kernel_rfl))⟩
  f26:=⟨Tryz.f118.name,by decide,Tryz.func118.trans (congrArg some (by kernel_rfl))⟩
  f27:=⟨Tryz.f119.name,by decide,Tryz.func119.trans (congrArg some (by kernel_rfl))⟩
  f28:=Tryz.func120.trans (congrArg some (by kernel_rfl))
  f29:=Tryz.func121.trans (congrArg some (by kernel_rfl))
  f46:=⟨Tryz.f139.name,by decide,Tryz.func139.trans (congrArg some (by kernel_rfl))⟩
  f47:=Tryz.func140.trans (congrArg some (by kernel_rfl))
  f48:=Tryz.func141.trans (congrArg some (by kernel_rfl))
  f49:=⟨Tryz.f142.name,by decide,Tryz.func142.trans (congrArg some (by kernel_rfl))⟩
  f50:=⟨Tryz.f143.name,by decide,Tryz.func143.trans (congrArg some (by kernel_rfl))⟩
  f57:=⟨Tryz.f165.name,by decide,Tryz.func165.trans (congrArg some (by kernel_rfl))⟩
  t0:=Tryz.underlying0
  a0:=Tryz.isAgg0
  z0:=Tryz.sizeOf0
  v0:=Tryz.zeroValue0
  t3:=Tryz.underlying3
  a3:=Tryz.isAgg3
  z3:=Tryz.sizeOf3
  v3:=Tryz.zeroValue3
  t4:=Tryz.underlying4
  a4:=Tryz.isAgg4
  z4:=Tryz.sizeOf4
  v4:=Tryz.zeroValue4
  t5:=Tryz.underlying5
  a5:=Tryz.isAgg5
  z5:=Tryz.sizeOf5
  v5:=Tryz.zeroValue5
  t9:=Tryz.underlying9
  a9:=Tryz.isAgg9
  z9:=Tryz.sizeOf9
  v9:=Tryz.zeroValue9
  t22:=Tryz.underlying39
  a22:=Tryz.isAgg39
  z22:=Tryz.sizeOf39
  v22:=Tryz.zeroValue39
  t25:=Tryz.underlying105
  a25:=Tryz.isAgg105
  z25:=Tryz.sizeOf105
  v25:=Tryz.zeroValue105
  t39:=Tryz.underlying72
  a39:=Tryz.isAgg72
  z39:=Tryz.sizeOf72
  v39:=Tryz.zeroValue72
  t45:=Tryz.underlying161
  a45:=Tryz.isAgg161
  z45:=Tryz.sizeOf161
  v45:=Tryz.zeroValue161
  t46:=Tryz.underlying162
  a46:=Tryz.isAgg162
  z46:=Tryz.sizeOf162
  v46:=Tryz.zeroValue162
  t50:=Tryz.underlying81
  a50:=Tryz.isAgg81
  z50:=Tryz.sizeOf81
  v50:=Tryz.zeroValue81
  t53:=Tryz.underlying168
  a53:=Tryz.isAgg168
  z53:=Tryz.sizeOf168
  v53:=Tryz.zeroValue168
  t55:=Tryz.underlying135
  a55:=Tryz.isAgg135
  z55:=Tryz.sizeOf135
  v55:=Tryz.zeroValue135
  t66:=Tryz.underlying184
  a66:=Tryz.isAgg184
  z66:=Tryz.sizeOf184
  v66:=Tryz.zeroValue184
  t70:=Tryz.underlying188
  a70:=Tryz.isAgg188
  z70:=Tryz.sizeOf188
  v70:=Tryz.zeroValue188
  t76:=Tryz.underlying202
  a76:=Tryz.isAgg202
  z76:=Tryz.sizeOf202
  v76:=Tryz.zeroValue202
  t77:=Tryz.underlying203
  a77:=Tryz.isAgg203
  z77:=Tryz.sizeOf203
  v77:=Tryz.zeroValue203}
theorem cD4 (l:List Pl.Dig)(hl:l.length<2^40):Hl.bB3 Tryz.prog (ltOf fun x y:Pl.Dig=>Hl.kO x.1 y.1) 54 55 44 l:=
  Hl.bP9 (by kernel_rfl) (fun blk cap w hH hb=>(AnyQ.slices_SortFunc bH7 32 Tryz.isAgg44 Tryz.sizeOf44 Hl.eJ Hl.mO (fun x v hv=>by obtain⟨b,_,rfl⟩:=List.mem_map.1 hv;rfl) (fun x y=>Hl.kO x.1 y.1) cD3 55 #[] blk 0 cap l.toArray w
    (enters_of Tryz.func55 (by kernel_rfl) rfl) (bB2 blk _ w) hH hb (by simp;omega)).mono (fun _ _ ⟨h1,d',n,os,h2,h2',h3⟩=>⟨h1,d',n,os,by simpa using h2,by simpa using h2',h3⟩)) (fun cap w=>AnyF.slices_SortFunc_none bH7 none cap _ w)
end Go.Proofs.YthedbjfipmkpiaaGreatDoor
