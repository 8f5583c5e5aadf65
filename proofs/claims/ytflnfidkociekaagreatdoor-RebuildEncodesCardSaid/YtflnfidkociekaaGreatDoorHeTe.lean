/- Part of a proof: walks of functions of the program, by contracts, and the rules they use. By an AI agent. -/
import Derived.Test.YtflnfidkociekaaGreatDoorPl11y
import Derived.Test.YtflnfidkociekaaGreatDoorHlFl
import Derived.Test.YtflnfidkociekaaGreatDoorPlSha
import Derived.Test.YtflnfidkociekaaGreatDoorHeU1
import Derived.Test.YtflnfidkociekaaGreatDoorHlTab
import Derived.Test.YtflnfidkociekaaGreatDoorHeFm
import Derived.Test.YtflnfidkociekaaGreatDoorHeU6
import Derived.Test.YtflnfidkociekaaGreatDoorPl02g
import Derived.Test.YtflnfidkociekaaGreatDoorHeV5
set_option linter.unusedSimpArgs false
set_option linter.unusedVariables false
set_option linter.defProp false
namespace Go.Pl
open Go Go.Hl
theorem sF : ∀(a b:aU) (n m:Nat),dS a n=some m→dS (a++b) n=dS b m
  |[],b,n,m,h=>by simp only[dS,Option.some.injEq]at h;subst h;rfl
  |c::a,b,n,m,h=>by
    simp only[List.cons_append,dS]at h⊢;split at h
    · rename_i hc;rw[if_pos hc];exact sF a b _ _ h
    · cases h
theorem aG4 {k:Nat}(h:k<10):gP (UInt8.ofNat (48+k))=true∧(UInt8.ofNat (48+k)).toNat-48=k:=by
  have e:(UInt8.ofNat (48+k)).toNat=48+k:=by simp;omega
  rw[gP,e];exact⟨by simp;omega,by omega⟩
theorem aC3 (u:Nat):dS (Lib.decDigits u) 0=some u:=by
  induction u using Nat.strongRecOn with
  |ind u ih=>
    rw[Lib.decDigits];split
    · rename_i h
      obtain⟨h1,h2⟩:=aG4 h;simp only[dS,h1,if_true,h2];simp
    · rw[sF _ _ 0 (u/10) (ih _ (by omega))]
      obtain⟨h1,h2⟩:=aG4 (k:=u%10) (by omega);simp only[dS,h1,if_true,h2];congr 1;omega
theorem aG5 : ∀(k u:Nat),u<10^(k+1)→(Lib.decDigits u).length≤k+1
  |0,u,h=>by rw[Lib.decDigits,dif_pos (by omega)];simp
  |k+1,u,h=>by
    rw[Lib.decDigits];split
    · simp
    · have:=aG5 k (u/10) (by rw[Nat.pow_succ]at h;omega)
      simp only[List.length_append,List.length_singleton];omega
theorem aV4 {u:Nat}(h:1≤u): ∃c l,Lib.decDigits u=c::l∧c≠48:=by
  induction u using Nat.strongRecOn with
  |ind u ih=>
    rw[Lib.decDigits];split
    · rename_i hu
      refine⟨_,_,rfl,fun hc=>?_⟩;have:=congrArg UInt8.toNat hc;simp at this;omega
    · obtain⟨c,l,h1,h2⟩:=ih (u/10) (by omega) (by omega)
      exact⟨c,l++[UInt8.ofNat (48+u%10)],by rw[h1];rfl,h2⟩
theorem aN6 {n:Int}(h0:0≤n)(h1:n≤1099511627776):eY (mZ n)=some n:=by
  rw[rS h0];have hd:=aC3 n.natAbs;have hl:=aG5 12 n.natAbs (by omega);have hb:dW (Lib.decDigits n.natAbs)=false:=by
    unfold dW;by_cases hz:n.natAbs=0
    · rw[hz,Lib.decDigits_one (by omega)];simp
    · obtain⟨c,l,h2,h3⟩:=aV4 (u:=n.natAbs) (by omega)
      rw[h2]at hl⊢;have e:((c::l).getD 0 0==(48:UInt8))=false:=by simpa using h3
      rw[e,Bool.and_false,Bool.or_false,Bool.or_eq_false_iff];exact⟨by simp,decide_eq_false (by omega)⟩
  rw[wD hb hd (by omega)];congr 1;omega
theorem sG : ∀{k:Nat},k<16→valL (jG k)=k:=by
  have: ∀k:Fin 16,valL (jG k.1)=k.1:=by decide
  intro k h;exact this ⟨k,h⟩
theorem uP : ∀(bs:List UInt8) (i:Nat),(eG bs).getD (2*i) 0=(bs[i]?.map fun c=>jG (c.toNat/16)).getD 0∧(eG bs).getD (2*i+1) 0=(bs[i]?.map fun c=>jG (c.toNat%16)).getD 0
  |[],i=>by simp[eG]
  |c::bs,0=>by simp[eG,aA8]
  |c::bs,i+1=>by
    have ih:=uP bs i;have e:eG (c::bs)=jG (c.toNat/16)::jG (c.toNat%16)::eG bs:=rfl;rw[e,show 2*(i+1)=2*i+1+1 from by omega];simpa using ih
theorem aC4 (bs:List UInt8):cG (eG bs) bs.length=some bs:=by
  have key: ∀i,(h:i<bs.length)→hX (eG bs) i=jG (bs[i].toNat/16)∧hY (eG bs) i=jG (bs[i].toNat%16):=fun i h=>by
    obtain⟨h1,h2⟩:=uP bs i;rw[List.getElem?_eq_getElem h]at h1 h2;exact⟨h1,h2⟩
  have v: ∀i,(h:i<bs.length)→valL (hX (eG bs) i)=bs[i].toNat/16∧valL (hY (eG bs) i)=bs[i].toNat%16:=fun i h=>by
    have:=bs[i].toNat_lt;rw[(key i h).1,(key i h).2];exact⟨sG (by omega),sG (by omega)⟩
  have hall:(List.range bs.length).all (hOk (eG bs))=true:=by
    rw[List.all_eq_true];intro i hi;have hi:=List.mem_range.1 hi;obtain⟨a,b⟩:=v i hi;have:=bs[i].toNat_lt;unfold hOk;rw[a,b];simp;omega
  unfold cG;rw[if_pos ⟨gO bs,hall⟩];congr 1;refine List.ext_getElem (by simp) fun i h1 h2=>?_;obtain⟨a,b⟩:=v i h2;simp only[List.getElem_map,List.getElem_range,hB,a,b];have:=bs[i].toNat_lt;refine UInt8.toNat_inj.1 ?_;rw[UInt8.toNat_ofNat'];omega
theorem sI (d:Dig):dT (vT d)=some d:=by
  obtain⟨l,hl⟩:=d;have:=aC4 l;rw[hl]at this;refine oS (l:=l) ?_ ?_ hl
  · simp[prefB,vT,shaW,gO]
  · simpa[vT]using this
theorem bA7 {ls:List (List aU)}(h:gB ls=0):dM (lW ls)=0∧fS (lW ls)=ls:=by
  rw[vR h];unfold gB at h;split at h
  · cases h
  · rename_i h1
    split at h
    · rename_i l hl
      have:=List.find?_some hl;simp only[Bool.not_eq_true']at this;exact absurd h (aF0 this)
    · rename_i hn
      split at h
      · cases h
      · rename_i h2
        have hok: ∀l∈ls,okL l=true:=fun l hl=>by
          have:=List.find?_eq_none.1 hn l hl;simpa using this
        have hv:=aM0 hok;have hE:dM (eF ls)=0:=by unfold dM;rw[if_neg h2,hv];simp only;rw[if_neg h1]
        exact⟨hE,by unfold fS;rw[if_pos hE,hv];rfl⟩
def vRp (x:Rp):Bool:=!(x.s==zdg)&&(!(x.r==zdg)&&(!(x.o==zdg)&&(decide (0≤x.at_)&&decide (x.at_≤1099511627776))))
def tB :aU:=[114,101,98,117,105,108,100]
def rpL (x:Rp):List aU:=[tB,vT x.s,vT x.r,vT x.o,mZ x.at_]
def rpE (x:Rp):Int:=if vRp x then gB [rpL x]else 1
def rpO (x:Rp):aU:=if vRp x then lW [rpL x]else []
def rp0 :Rp:=⟨zdg,zdg,zdg,0⟩
def rpW (l:List aU):Option Rp:=
  match dT (wd l 1),dT (wd l 2),dT (wd l 3),eY (wd l 4)with
  |some s,some r,some o,some t=>some ⟨s,r,o,t⟩
  |_,_,_,_=>none
def rpV (ls:List (List aU)):Option Rp:=if ls.length≠1∨(ls.getD 0 []).length≠5∨wd (ls.getD 0 []) 0≠tB then none else rpW (ls.getD 0 [])
def nL (b:aU):Int:=if dM b≠0 then dM b else match rpV (fS b)with|none=>2|some r=>if vRp r then 0 else 1
def nM (b:aU):Rp:=if dM b=0 then match rpV (fS b)with|none=>rp0|some r=>if vRp r then r else rp0 else rp0
theorem aV5 {x:Rp}(h:rpE x=0):nL (rpO x)=0∧nM (rpO x)=x:=by
  have hv:vRp x=true:=by
    unfold rpE at h;split at h
    · assumption
    · cases h
  have he:gB [rpL x]=0:=by rw[rpE,if_pos hv]at h;exact h
  obtain⟨h1,h2⟩:=bA7 he;have ht:0≤x.at_∧x.at_≤1099511627776:=by
    simp only[vRp,Bool.and_eq_true,decide_eq_true_eq]at hv;exact hv.2.2.2
  have hw:rpV [rpL x]=some x:=by
    unfold rpV;rw[if_neg (by simp[rpL,wd])];show rpW (rpL x)=some x;have e1:dT (wd (rpL x) 1)=some x.s:=sI _;have e2:dT (wd (rpL x) 2)=some x.r:=sI _;have e3:dT (wd (rpL x) 3)=some x.o:=sI _;have e4:eY (wd (rpL x) 4)=some x.at_:=aN6 ht.1 ht.2;unfold rpW;rw[e1,e2,e3,e4]
  rw[show rpO x=lW [rpL x]from if_pos hv];unfold nL nM;rw[if_neg (by rw[h1];simp),if_pos h1,h2,hw];simp only[hv,if_true,and_self]
end Go.Pl
namespace Go.Proofs.YtflnfidkociekaaGreatDoor
open Go Go.Hl Go.Pl
set_option maxRecDepth 10000
set_option maxHeartbeats 4000000
theorem hbuild_zd {bytes:Nat}{t:TypeId}{e:Operand→HV}{K:HV→Prop}:dY ⟨32,bytes,.array 32 t,zd⟩ [] e K=K (.c (dg zdg)):=rfl
theorem cS (p:Rp):CV.getAt 0 32 true p.cv=some (dg p.s):=by simp[Rp.cv,CV.getAt,CV.getAtL,CV.cells,CV.cellsL,dg_cells,dg_getAt]
theorem cT (p:Rp):CV.getAt 32 32 true p.cv=some (dg p.r):=by simp[Rp.cv,CV.getAt,CV.getAtL,CV.cells,CV.cellsL,dg_cells,dg_getAt]
theorem cU (p:Rp):CV.getAt 64 32 true p.cv=some (dg p.o):=by simp[Rp.cv,CV.getAt,CV.getAtL,CV.cells,CV.cellsL,dg_cells,dg_getAt]
theorem oU (x:Rp):cL Tryz.prog 7 [x.cv] (fun v=>v= .bool (vRp x)):=by
 refine bI Tryz.func7 rfl (by kernel_rfl) (bJ _) (Nat.le_of_ble_eq_true rfl) ?_;refine aD fun K hK=>aC (by kernel_rfl) ?_;simp (maxSteps:=4000000) only[↓sP,sA,tyS,simprocAttr];repeat refine AI ?_
 refine hK _ _ _ ?_;clear hK K;refine aD fun K hK=>aC (by kernel_rfl) ?_;simp (maxSteps:=4000000) only[↓sP,sA,tyS,simprocAttr,hbuild_zd];repeat refine AI ?_
 refine hK _ _ _ ?_;clear hK K;refine aD fun K hK=>aC (by kernel_rfl) ?_;simp only[sR,simprocAttr];iterate 4
  (refine aB (g:=none) rfl rfl fun K' hK'=>?_;simp only[sH,↓sP,sA,tyS,simprocAttr];(repeat refine AI ?_);refine hK' _ _ ?_;clear hK' K')
 simp only[sE,↓reduceIte,simprocAttr];repeat refine AI ?_
 refine hK _ _ _ ?_;clear hK K;refine aD fun K hK=>aC (by kernel_rfl) ?_;simp only[sR,simprocAttr];iterate 5
  (refine aB (g:=none) rfl rfl fun K' hK'=>?_;simp only[sH,↓sP,sA,tyS,simprocAttr];(repeat refine AI ?_);refine hK' _ _ ?_;clear hK' K')
 refine bG 11 rfl (fun h3_11=>?_) (fun h3_11=>?_)
 ·
  iterate 4
   (refine aB (g:=some (12,true)) rfl rfl fun K' hK'=>?_;simp only[sH,↓sP,sA,tyS,simprocAttr,h3_11];(repeat refine AI ?_);refine hK' _ _ ?_;clear hK' K')
  iterate 2
   (refine aB (g:=none) rfl rfl fun K' hK'=>?_;simp only[sH,↓sP,sA,tyS,simprocAttr,h3_11];(repeat refine AI ?_);refine hK' _ _ ?_;clear hK' K')
  refine bG 16 rfl (fun h3_16=>?_) (fun h3_16=>?_)
  ·
   iterate 4
    (refine aB (g:=some (18,true)) rfl rfl fun K' hK'=>?_;simp only[sH,↓sP,sA,tyS,simprocAttr,h3_11,h3_16];(repeat refine AI ?_);refine hK' _ _ ?_;clear hK' K')
   iterate 2
    (refine aB (g:=none) rfl rfl fun K' hK'=>?_;simp only[sH,↓sP,sA,tyS,simprocAttr,h3_11,h3_16];(repeat refine AI ?_);refine hK' _ _ ?_;clear hK' K')
   refine bG 22 rfl (fun h3_22=>?_) (fun h3_22=>?_)
   ·
    iterate 3
     (refine aB (g:=some (24,true)) rfl rfl fun K' hK'=>?_;simp only[sH,↓sP,sA,tyS,simprocAttr,h3_11,h3_16,h3_22];(repeat refine AI ?_);refine hK' _ _ ?_;clear hK' K')
    iterate 2
     (refine aB (g:=none) rfl rfl fun K' hK'=>?_;simp only[sH,↓sP,sA,tyS,simprocAttr,h3_11,h3_16,h3_22];(repeat refine AI ?_);refine hK' _ _ ?_;clear hK' K')
    refine bG 27 rfl (fun h3_27=>?_) (fun h3_27=>?_)
    ·
     iterate 3
      (refine aB (g:=some (29,true)) rfl rfl fun K' hK'=>?_;simp only[sH,↓sP,sA,tyS,simprocAttr,h3_11,h3_16,h3_22,h3_27];(repeat refine AI ?_);refine hK' _ _ ?_;clear hK' K')
     iterate 2
      (refine aB (g:=none) rfl rfl fun K' hK'=>?_;simp only[sH,↓sP,sA,tyS,simprocAttr,h3_11,h3_16,h3_22,h3_27];(repeat refine AI ?_);refine hK' _ _ ?_;clear hK' K')
     simp only[sE,↓reduceIte,simprocAttr];repeat refine AI ?_
     refine hK _ _ _ ?_;clear hK K;refine aT ?_;simp (maxSteps:=4000000) only[bA,Tryz.results7,aY,aZ,aX,↓sP,sA,tyS,simprocAttr];refine bF [] (.bool _) rfl ?_;simp only[vRp,h3_11,h3_16,h3_22,h3_27,Bool.true_and,Bool.false_and];all_goals first|rfl|(rw[show decide (0≤x.at_)=true from by assumption];rfl)|(rw[show decide (0≤x.at_)=false from by assumption];rfl)
    iterate 3
     (refine aB (g:=some (29,true)) rfl rfl fun K' hK'=>?_;simp only[sH,↓sP,sA,tyS,simprocAttr,h3_11,h3_16,h3_22,h3_27];(repeat refine AI ?_);refine hK' _ _ ?_;clear hK' K')
    iterate 2
     (refine aB (g:=none) rfl rfl fun K' hK'=>?_;simp only[sH,↓sP,sA,tyS,simprocAttr,h3_11,h3_16,h3_22,h3_27];(repeat refine AI ?_);refine hK' _ _ ?_;clear hK' K')
    simp only[sE,↓reduceIte,simprocAttr];repeat refine AI ?_
    refine hK _ _ _ ?_;clear hK K;refine aT ?_;simp (maxSteps:=4000000) only[bA,Tryz.results7,aY,aZ,aX,↓sP,sA,tyS,simprocAttr];refine bF [] (.bool _) rfl ?_;simp only[vRp,h3_11,h3_16,h3_22,h3_27,Bool.true_and,Bool.false_and];all_goals first|rfl|(rw[show decide (0≤x.at_)=true from by assumption];rfl)|(rw[show decide (0≤x.at_)=false from by assumption];rfl)
   iterate 3
    (refine aB (g:=some (24,true)) rfl rfl fun K' hK'=>?_;simp only[sH,↓sP,sA,tyS,simprocAttr,h3_11,h3_16,h3_22];(repeat refine AI ?_);refine hK' _ _ ?_;clear hK' K')
   iterate 2
    (refine aB (g:=none) rfl rfl fun K' hK'=>?_;simp only[sH,↓sP,sA,tyS,simprocAttr,h3_11,h3_16,h3_22];(repeat refine AI ?_);refine hK' _ _ ?_;clear hK' K')
   iterate 3
    (refine aB (g:=some (29,true)) rfl rfl fun K' hK'=>?_;simp only[sH,↓sP,sA,tyS,simprocAttr,h3_11,h3_16,h3_22];(repeat refine AI ?_);refine hK' _ _ ?_;clear hK' K')
   iterate 2
    (refine aB (g:=none) rfl rfl fun K' hK'=>?_;simp only[sH,↓sP,sA,tyS,simprocAttr,h3_11,h3_16,h3_22];(repeat refine AI ?_);refine hK' _ _ ?_;clear hK' K')
   simp only[sE,↓reduceIte,simprocAttr];repeat refine AI ?_
   refine hK _ _ _ ?_;clear hK K;refine aT ?_;simp (maxSteps:=4000000) only[bA,Tryz.results7,aY,aZ,aX,↓sP,sA,tyS,simprocAttr];refine bF [] (.bool _) rfl ?_;simp only[vRp,h3_11,h3_16,h3_22,Bool.true_and,Bool.false_and];all_goals first|rfl|(rw[show decide (0≤x.at_)=true from by assumption];rfl)|(rw[show decide (0≤x.at_)=false from by assumption];rfl)
  iterate 4
   (refine aB (g:=some (18,true)) rfl rfl fun K' hK'=>?_;simp only[sH,↓sP,sA,tyS,simprocAttr,h3_11,h3_16];(repeat refine AI ?_);refine hK' _ _ ?_;clear hK' K')
  iterate 2
   (refine aB (g:=none) rfl rfl fun K' hK'=>?_;simp only[sH,↓sP,sA,tyS,simprocAttr,h3_11,h3_16];(repeat refine AI ?_);refine hK' _ _ ?_;clear hK' K')
  iterate 3
   (refine aB (g:=some (24,true)) rfl rfl fun K' hK'=>?_;simp only[sH,↓sP,sA,tyS,simprocAttr,h3_11,h3_16];(repeat refine AI ?_);refine hK' _ _ ?_;clear hK' K')
  iterate 2
   (refine aB (g:=none) rfl rfl fun K' hK'=>?_;simp only[sH,↓sP,sA,tyS,simprocAttr,h3_11,h3_16];(repeat refine AI ?_);refine hK' _ _ ?_;clear hK' K')
  iterate 3
   (refine aB (g:=some (29,true)) rfl rfl fun K' hK'=>?_;simp only[sH,↓sP,sA,tyS,simprocAttr,h3_11,h3_16];(repeat refine AI ?_);refine hK' _ _ ?_;clear hK' K')
  iterate 2
   (refine aB (g:=none) rfl rfl fun K' hK'=>?_;simp only[sH,↓sP,sA,tyS,simprocAttr,h3_11,h3_16];(repeat refine AI ?_);refine hK' _ _ ?_;clear hK' K')
  simp only[sE,↓reduceIte,simprocAttr];repeat refine AI ?_
  refine hK _ _ _ ?_;clear hK K;refine aT ?_;simp (maxSteps:=4000000) only[bA,Tryz.results7,aY,aZ,aX,↓sP,sA,tyS,simprocAttr];refine bF [] (.bool _) rfl ?_;simp only[vRp,h3_11,h3_16,Bool.true_and,Bool.false_and];all_goals first|rfl|(rw[show decide (0≤x.at_)=true from by assumption];rfl)|(rw[show decide (0≤x.at_)=false from by assumption];rfl)
 iterate 4
  (refine aB (g:=some (12,true)) rfl rfl fun K' hK'=>?_;simp only[sH,↓sP,sA,tyS,simprocAttr,h3_11];(repeat refine AI ?_);refine hK' _ _ ?_;clear hK' K')
 iterate 2
  (refine aB (g:=none) rfl rfl fun K' hK'=>?_;simp only[sH,↓sP,sA,tyS,simprocAttr,h3_11];(repeat refine AI ?_);refine hK' _ _ ?_;clear hK' K')
 iterate 4
  (refine aB (g:=some (18,true)) rfl rfl fun K' hK'=>?_;simp only[sH,↓sP,sA,tyS,simprocAttr,h3_11];(repeat refine AI ?_);refine hK' _ _ ?_;clear hK' K')
 iterate 2
  (refine aB (g:=none) rfl rfl fun K' hK'=>?_;simp only[sH,↓sP,sA,tyS,simprocAttr,h3_11];(repeat refine AI ?_);refine hK' _ _ ?_;clear hK' K')
 iterate 3
  (refine aB (g:=some (24,true)) rfl rfl fun K' hK'=>?_;simp only[sH,↓sP,sA,tyS,simprocAttr,h3_11];(repeat refine AI ?_);refine hK' _ _ ?_;clear hK' K')
 iterate 2
  (refine aB (g:=none) rfl rfl fun K' hK'=>?_;simp only[sH,↓sP,sA,tyS,simprocAttr,h3_11];(repeat refine AI ?_);refine hK' _ _ ?_;clear hK' K')
 iterate 3
  (refine aB (g:=some (29,true)) rfl rfl fun K' hK'=>?_;simp only[sH,↓sP,sA,tyS,simprocAttr,h3_11];(repeat refine AI ?_);refine hK' _ _ ?_;clear hK' K')
 iterate 2
  (refine aB (g:=none) rfl rfl fun K' hK'=>?_;simp only[sH,↓sP,sA,tyS,simprocAttr,h3_11];(repeat refine AI ?_);refine hK' _ _ ?_;clear hK' K')
 simp only[sE,↓reduceIte,simprocAttr];repeat refine AI ?_
 refine hK _ _ _ ?_;clear hK K;refine aT ?_;simp (maxSteps:=4000000) only[bA,Tryz.results7,aY,aZ,aX,↓sP,sA,tyS,simprocAttr];refine bF [] (.bool _) rfl ?_;simp only[vRp,h3_11,Bool.true_and,Bool.false_and];all_goals first|rfl|(rw[show decide (0≤x.at_)=true from by assumption];rfl)|(rw[show decide (0≤x.at_)=false from by assumption];rfl)
theorem mB (x:Rp):cL Tryz.prog 8 [x.cv] (fun v=>v= .bool (vRp x)):=by
 refine bI Tryz.func8 rfl (by kernel_rfl) (bJ _) (Nat.le_of_ble_eq_true rfl) ?_;refine aD fun K hK=>aC (by kernel_rfl) ?_;simp (maxSteps:=4000000) only[↓sP,sA,tyS,simprocAttr];repeat refine AI ?_
 refine hK _ _ _ ?_;clear hK K;refine aD fun K hK=>aC (by kernel_rfl) ?_;simp (maxSteps:=4000000) only[↓sP,sA,tyS,simprocAttr,hbuild_zd];repeat refine AI ?_
 refine hK _ _ _ ?_;clear hK K;refine aD fun K hK=>aC (by kernel_rfl) ?_;simp only[sR,simprocAttr];iterate 6
  (refine aB (g:=none) rfl rfl fun K' hK'=>?_;simp only[sH,↓sP,sA,tyS,simprocAttr,cS,cT,cU];(repeat refine AI ?_);refine hK' _ _ ?_;clear hK' K')
 refine bG 9 rfl (fun h2_9=>?_) (fun h2_9=>?_)
 ·
  iterate 5
   (refine aB (g:=some (10,true)) rfl rfl fun K' hK'=>?_;simp only[sH,↓sP,sA,tyS,simprocAttr,cS,cT,cU,h2_9];(repeat refine AI ?_);refine hK' _ _ ?_;clear hK' K')
  iterate 2
   (refine aB (g:=none) rfl rfl fun K' hK'=>?_;simp only[sH,↓sP,sA,tyS,simprocAttr,cS,cT,cU,h2_9];(repeat refine AI ?_);refine hK' _ _ ?_;clear hK' K')
  refine bG 15 rfl (fun h2_15=>?_) (fun h2_15=>?_)
  ·
   iterate 5
    (refine aB (g:=some (17,true)) rfl rfl fun K' hK'=>?_;simp only[sH,↓sP,sA,tyS,simprocAttr,cS,cT,cU,h2_9,h2_15];(repeat refine AI ?_);refine hK' _ _ ?_;clear hK' K')
   iterate 2
    (refine aB (g:=none) rfl rfl fun K' hK'=>?_;simp only[sH,↓sP,sA,tyS,simprocAttr,cS,cT,cU,h2_9,h2_15];(repeat refine AI ?_);refine hK' _ _ ?_;clear hK' K')
   refine bG 22 rfl (fun h2_22=>?_) (fun h2_22=>?_)
   ·
    iterate 2
     (refine aB (g:=some (24,true)) rfl rfl fun K' hK'=>?_;simp only[sH,↓sP,sA,tyS,simprocAttr,cS,cT,cU,h2_9,h2_15,h2_22];(repeat refine AI ?_);refine hK' _ _ ?_;clear hK' K')
    refine aB (g:=some (24,true)) rfl rfl fun K' hK'=>?_;simp (maxSteps:=4000000) only[sH,↓sP,sA,tyS,simprocAttr,cS,cT,cU,h2_9,h2_15,h2_22];refine bH (args:=[_]) (aB2 x.at_) ⟨rfl,rfl,rfl,rfl⟩ ?_;rintro u rfl;repeat refine AI ?_
    refine hK' _ _ ?_;clear hK' K';iterate 2
     (refine aB (g:=none) rfl rfl fun K' hK'=>?_;simp only[sH,↓sP,sA,tyS,simprocAttr,cS,cT,cU,h2_9,h2_15,h2_22];(repeat refine AI ?_);refine hK' _ _ ?_;clear hK' K')
    simp only[sE,↓reduceIte,simprocAttr];repeat refine AI ?_
    refine hK _ _ _ ?_;clear hK K;refine aT ?_;simp (maxSteps:=4000000) only[bA,Tryz.results8,aY,aZ,aX,↓sP,sA,tyS,simprocAttr];refine bF [] (.bool _) rfl ?_;simp only[vRp,h2_9,h2_15,h2_22,Bool.true_and,Bool.false_and];all_goals first|rfl|simp[inN,aA4]
   iterate 3
    (refine aB (g:=some (24,true)) rfl rfl fun K' hK'=>?_;simp only[sH,↓sP,sA,tyS,simprocAttr,cS,cT,cU,h2_9,h2_15,h2_22];(repeat refine AI ?_);refine hK' _ _ ?_;clear hK' K')
   iterate 2
    (refine aB (g:=none) rfl rfl fun K' hK'=>?_;simp only[sH,↓sP,sA,tyS,simprocAttr,cS,cT,cU,h2_9,h2_15,h2_22];(repeat refine AI ?_);refine hK' _ _ ?_;clear hK' K')
   simp only[sE,↓reduceIte,simprocAttr];repeat refine AI ?_
   refine hK _ _ _ ?_;clear hK K;refine aT ?_;simp (maxSteps:=4000000) only[bA,Tryz.results8,aY,aZ,aX,↓sP,sA,tyS,simprocAttr];refine bF [] (.bool _) rfl ?_;simp only[vRp,h2_9,h2_15,h2_22,Bool.true_and,Bool.false_and];all_goals first|rfl|simp[inN,aA4]
  iterate 5
   (refine aB (g:=some (17,true)) rfl rfl fun K' hK'=>?_;simp only[sH,↓sP,sA,tyS,simprocAttr,cS,cT,cU,h2_9,h2_15];(repeat refine AI ?_);refine hK' _ _ ?_;clear hK' K')
  iterate 2
   (refine aB (g:=none) rfl rfl fun K' hK'=>?_;simp only[sH,↓sP,sA,tyS,simprocAttr,cS,cT,cU,h2_9,h2_15];(repeat refine AI ?_);refine hK' _ _ ?_;clear hK' K')
  iterate 3
   (refine aB (g:=some (24,true)) rfl rfl fun K' hK'=>?_;simp only[sH,↓sP,sA,tyS,simprocAttr,cS,cT,cU,h2_9,h2_15];(repeat refine AI ?_);refine hK' _ _ ?_;clear hK' K')
  iterate 2
   (refine aB (g:=none) rfl rfl fun K' hK'=>?_;simp only[sH,↓sP,sA,tyS,simprocAttr,cS,cT,cU,h2_9,h2_15];(repeat refine AI ?_);refine hK' _ _ ?_;clear hK' K')
  simp only[sE,↓reduceIte,simprocAttr];repeat refine AI ?_
  refine hK _ _ _ ?_;clear hK K;refine aT ?_;simp (maxSteps:=4000000) only[bA,Tryz.results8,aY,aZ,aX,↓sP,sA,tyS,simprocAttr];refine bF [] (.bool _) rfl ?_;simp only[vRp,h2_9,h2_15,Bool.true_and,Bool.false_and];all_goals first|rfl|simp[inN,aA4]
 iterate 5
  (refine aB (g:=some (10,true)) rfl rfl fun K' hK'=>?_;simp only[sH,↓sP,sA,tyS,simprocAttr,cS,cT,cU,h2_9];(repeat refine AI ?_);refine hK' _ _ ?_;clear hK' K')
 iterate 2
  (refine aB (g:=none) rfl rfl fun K' hK'=>?_;simp only[sH,↓sP,sA,tyS,simprocAttr,cS,cT,cU,h2_9];(repeat refine AI ?_);refine hK' _ _ ?_;clear hK' K')
 iterate 5
  (refine aB (g:=some (17,true)) rfl rfl fun K' hK'=>?_;simp only[sH,↓sP,sA,tyS,simprocAttr,cS,cT,cU,h2_9];(repeat refine AI ?_);refine hK' _ _ ?_;clear hK' K')
 iterate 2
  (refine aB (g:=none) rfl rfl fun K' hK'=>?_;simp only[sH,↓sP,sA,tyS,simprocAttr,cS,cT,cU,h2_9];(repeat refine AI ?_);refine hK' _ _ ?_;clear hK' K')
 iterate 3
  (refine aB (g:=some (24,true)) rfl rfl fun K' hK'=>?_;simp only[sH,↓sP,sA,tyS,simprocAttr,cS,cT,cU,h2_9];(repeat refine AI ?_);refine hK' _ _ ?_;clear hK' K')
 iterate 2
  (refine aB (g:=none) rfl rfl fun K' hK'=>?_;simp only[sH,↓sP,sA,tyS,simprocAttr,cS,cT,cU,h2_9];(repeat refine AI ?_);refine hK' _ _ ?_;clear hK' K')
 simp only[sE,↓reduceIte,simprocAttr];repeat refine AI ?_
 refine hK _ _ _ ?_;clear hK K;refine aT ?_;simp (maxSteps:=4000000) only[bA,Tryz.results8,aY,aZ,aX,↓sP,sA,tyS,simprocAttr];refine bF [] (.bool _) rfl ?_;simp only[vRp,h2_9,Bool.true_and,Bool.false_and];all_goals first|rfl|simp[inN,aA4]
theorem aN7 (x:Rp):aE6 Tryz.prog 5 tabs [x.cv] (fun u v=>u= .slc ((rpO x).map cQ)∧v= .int .i64 (rpE x)):=by
 refine bI (args:=[.c x.cv]) Tryz.func5 rfl (by kernel_rfl) (iO tabs [x.cv]) (Nat.le_of_ble_eq_true rfl) ?_;unfold fG;refine aD fun K hK=>aC (by kernel_rfl) ?_;simp (maxSteps:=4000000) only[↓sP,sA,tyS,simprocAttr];repeat refine AI ?_
 refine hK _ _ _ ?_;clear hK K;refine aD fun K hK=>?_;refine aD fun K hK=>aC (by kernel_rfl) ?_;simp only[sR,simprocAttr];refine aB (g:=none) rfl rfl fun K' hK'=>?_;simp (maxSteps:=4000000) only[sH,↓sP,sA,tyS,simprocAttr];repeat refine AI ?_
 refine hK' _ _ ?_;clear hK' K';refine aB (g:=none) rfl rfl fun K' hK'=>?_;simp (maxSteps:=4000000) only[sH,↓sP,sA,tyS,simprocAttr];refine bH (args:=[_]) (oU x) ⟨rfl,rfl,rfl,rfl⟩ ?_;rintro u rfl;repeat refine AI ?_
 refine hK' _ _ ?_;clear hK' K';refine aB (g:=none) rfl rfl fun K' hK'=>?_;simp (maxSteps:=4000000) only[sH,↓sP,sA,tyS,simprocAttr];repeat refine AI ?_
 refine hK' _ _ ?_;clear hK' K';simp only[sE,↓reduceIte,simprocAttr];repeat refine AI ?_
 refine hK _ _ _ ?_;clear hK K;refine aQ (b:=!vRp x) rfl (fun hb=>?_) (fun hb=>?_)
 ·
  refine aD fun K hK=>aC (by kernel_rfl) ?_;simp (maxSteps:=4000000) only[↓sP,sA,tyS,simprocAttr];repeat refine AI ?_
  refine hK _ _ _ ?_;clear hK K;refine aT ?_;simp (maxSteps:=4000000) only[bA,Tryz.results5,aY,aZ,aX,↓sP,sA,tyS,simprocAttr];have hv:vRp x=false:=by simpa using hb
  refine pJ [] (.slc []) (.int .i64 1) ?_ rfl (by simp) ⟨by rw[rpO,hv];rfl,by rw[rpE,hv];rfl⟩;simp[HV.close,HV.closeL,CV.denil,CV.denilL,HV.norm,HV.toC,HV.toCL]
 refine aV ?_;simp (maxSteps:=4000000) only[↓sP,sA,tyS,simprocAttr];repeat refine AI ?_
 refine hK _ _ _ ?_;clear hK K;have hv:vRp x=true:=by simpa using hb
 clear hb;have hat:0≤x.at_∧x.at_≤1099511627776:=by
  simp only[vRp,Bool.and_eq_true,decide_eq_true_eq]at hv;exact hv.2.2.2
 refine aD fun K hK=>aC (by kernel_rfl) ?_;simp only[sR,simprocAttr];iterate 4
  (refine aB (g:=none) rfl rfl fun K' hK'=>?_;simp only[sH,↓sP,sA,tyS,simprocAttr];(repeat refine AI ?_);refine hK' _ _ ?_;clear hK' K')
 simp only[sE,↓reduceIte,simprocAttr];repeat refine AI ?_
 refine hK _ _ _ ?_;clear hK K;refine aD fun K hK=>kV mixed [(0,[],[]),(1,[],[]),(3,[],[]),(4,[],[]),(6,[],[]),(7,[],[]),(9,[],[]),(10,[],[]),(2,[],[3,4,6,7,9,10]),(5,[],[6,7,9,10]),(8,[],[9,10]),(11,[],[]),(12,[],[]),(13,[],[])] [0,1,3,0,8,31,0,64,255,0,512,2047,4095,8191] (by kernel_rfl) (by kernel_rfl) (by kernel_rfl) (by kernel_rfl) rfl (by kernel_rfl) ?_;iterate 8
  (refine cB (g:=none) rfl rfl fun K' hK'=>?_;simp only[sH,↓sP,sA,tyS,simprocAttr];(repeat refine AI ?_);refine hK' _ _ ?_;clear hK' K')
 refine cB (g:=none) rfl rfl fun K' hK'=>?_;simp (maxSteps:=4000000) only[sH,↓sP,sA,tyS,simprocAttr];refine bH (args:=[_]) (vW x.s) ⟨rfl,rfl,rfl,rfl⟩ ?_;rintro u rfl;repeat refine AI ?_
 refine hK' _ _ ?_;clear hK' K';refine cB (g:=none) rfl rfl fun K' hK'=>?_;simp (maxSteps:=4000000) only[sH,↓sP,sA,tyS,simprocAttr];refine bH (args:=[_]) (vW x.r) ⟨rfl,rfl,rfl,rfl⟩ ?_;rintro u rfl;repeat refine AI ?_
 refine hK' _ _ ?_;clear hK' K';refine cB (g:=none) rfl rfl fun K' hK'=>?_;simp (maxSteps:=4000000) only[sH,↓sP,sA,tyS,simprocAttr];refine bH (args:=[_]) (vW x.o) ⟨rfl,rfl,rfl,rfl⟩ ?_;rintro u rfl;repeat refine AI ?_
 refine hK' _ _ ?_;clear hK' K';refine cB (g:=none) rfl rfl fun K' hK'=>?_;simp (maxSteps:=4000000) only[sH,↓sP,sA,tyS,simprocAttr];refine rR (args:=[_]) 0 (bD9 x.at_ ⟨by omega,by omega⟩) rfl (by simp) ⟨rfl,rfl,rfl,rfl⟩ ?_;rintro u rfl;repeat refine AI ?_
 refine hK' _ _ ?_;clear hK' K';refine fM (g:=none) 89 rfl rfl fun K' hK'=>?_;simp (maxSteps:=4000000) only[iN,lC,sH,↓sP,sA,tyS,simprocAttr];repeat refine AI ?_
 refine eE (by first|rfl|simp) ?_;try simp (maxSteps:=4000000) only[sH,↓sP,sA,tyS,simprocAttr]
 repeat refine AI ?_
 refine hK' _ _ ?_;clear hK' K';refine cB (g:=none) rfl rfl fun K' hK'=>?_;simp (maxSteps:=4000000) only[sH,↓sP,sA,tyS,simprocAttr];repeat refine AI ?_
 refine hK' _ _ ?_;clear hK' K';simp only[sE,↓reduceIte,simprocAttr];repeat refine AI ?_
 refine hK _ _ _ ?_;clear hK K;refine aD fun K hK=>fJ (by kernel_rfl) ?_;simp only[sR,simprocAttr];refine cW (g:=none) rfl rfl fun K' hK'=>?_;simp (maxSteps:=4000000) only[sH,↓sP,sA,tyS,simprocAttr];repeat refine AI ?_
 refine hK' _ _ ?_;clear hK' K';refine fP (g:=none) 101 rfl rfl fun K' hK'=>?_;simp (maxSteps:=4000000) only[iN,lC,sH,↓sP,sA,tyS,simprocAttr];repeat refine AI ?_
 refine eE (by first|rfl|simp) ?_;try simp (maxSteps:=4000000) only[sH,↓sP,sA,tyS,simprocAttr]
 repeat refine AI ?_
 refine hK' _ _ ?_;clear hK' K';refine cW (g:=none) rfl rfl fun K' hK'=>?_;simp (maxSteps:=4000000) only[sH,↓sP,sA,tyS,simprocAttr];refine cD (args:=[_]) (bD6 [rpL x] (by simp) (by simp[rpL])) ⟨rfl,rfl,rfl,rfl⟩ ?_;rintro u v ⟨rfl,rfl⟩;repeat refine AI ?_
 refine hK' _ _ ?_;clear hK' K';iterate 4
  (refine cW (g:=none) rfl rfl fun K' hK'=>?_;simp only[sH,↓sP,sA,tyS,simprocAttr];(repeat refine AI ?_);refine hK' _ _ ?_;clear hK' K')
 simp only[sE,↓reduceIte,simprocAttr];repeat refine AI ?_
 refine hK _ _ _ ?_;clear hK K;refine aT ?_;simp (maxSteps:=4000000) only[bA,Tryz.results5,aY,aZ,aX,↓sP,sA,tyS,simprocAttr];exact pJ [] (.slc ((lW [rpL x]).map cQ)) (.int .i64 (gB [rpL x])) (by simp[HV.close,HV.closeL,CV.denil,CV.denilL,dI,HV.norm,HV.toC,HV.toCL]) rfl (by simp) ⟨by rw[rpO,if_pos hv],by rw[rpE,if_pos hv]⟩
theorem aC5 (x:Rp):eD Tryz.prog 6 [x.cv] (fun u v=>u= .slc ((rpO x).map cQ)∧v= .int .i64 (rpE x)):=by
 refine bI Tryz.func6 rfl (by kernel_rfl) (bJ _) (Nat.le_of_ble_eq_true rfl) ?_;refine aD fun K hK=>aC (by kernel_rfl) ?_;simp (maxSteps:=4000000) only[↓sP,sA,tyS,simprocAttr];repeat refine AI ?_
 refine hK _ _ _ ?_;clear hK K;refine aD fun K hK=>?_;refine aD fun K hK=>aC (by kernel_rfl) ?_;simp only[sR,simprocAttr];refine aB (g:=none) rfl rfl fun K' hK'=>?_;simp (maxSteps:=4000000) only[sH,↓sP,sA,tyS,simprocAttr];repeat refine AI ?_
 refine hK' _ _ ?_;clear hK' K';refine aB (g:=none) rfl rfl fun K' hK'=>?_;simp (maxSteps:=4000000) only[sH,↓sP,sA,tyS,simprocAttr];refine bH (args:=[_]) (mB x) ⟨rfl,rfl,rfl,rfl⟩ ?_;rintro u rfl;repeat refine AI ?_
 refine hK' _ _ ?_;clear hK' K';refine aB (g:=none) rfl rfl fun K' hK'=>?_;simp (maxSteps:=4000000) only[sH,↓sP,sA,tyS,simprocAttr];repeat refine AI ?_
 refine hK' _ _ ?_;clear hK' K';simp only[sE,↓reduceIte,simprocAttr];repeat refine AI ?_
 refine hK _ _ _ ?_;clear hK K;refine aQ (b:=!vRp x) rfl (fun hb=>?_) (fun hb=>?_)
 ·
  refine aD fun K hK=>aC (by kernel_rfl) ?_;simp (maxSteps:=4000000) only[↓sP,sA,tyS,simprocAttr];repeat refine AI ?_
  refine hK _ _ _ ?_;clear hK K;refine aT ?_;simp (maxSteps:=4000000) only[bA,Tryz.results6,aY,aZ,aX,↓sP,sA,tyS,simprocAttr];have hv:vRp x=false:=by simpa using hb
  refine aW [] (.slc []) (.int .i64 1) ?_ ⟨by rw[rpO,hv];rfl,by rw[rpE,hv];rfl⟩;simp[HV.close,HV.closeL,CV.denil,CV.denilL,HV.norm,HV.toC,HV.toCL]
 refine aV ?_;simp (maxSteps:=4000000) only[↓sP,sA,tyS,simprocAttr];repeat refine AI ?_
 refine hK _ _ _ ?_;clear hK K;have hv:vRp x=true:=by simpa using hb
 clear hb;have hat:0≤x.at_∧x.at_≤1099511627776:=by
  simp only[vRp,Bool.and_eq_true,decide_eq_true_eq]at hv;exact hv.2.2.2
 refine aD fun K hK=>aC (by kernel_rfl) ?_;simp only[sR,simprocAttr];iterate 4
  (refine aB (g:=none) rfl rfl fun K' hK'=>?_;simp only[sH,↓sP,sA,tyS,simprocAttr];(repeat refine AI ?_);refine hK' _ _ ?_;clear hK' K')
 simp only[sE,↓reduceIte,simprocAttr];repeat refine AI ?_
 refine hK _ _ _ ?_;clear hK K;refine aD fun K hK=>kV mixed [(0,[],[]),(1,[],[]),(3,[],[]),(4,[],[]),(6,[],[]),(7,[],[]),(9,[],[]),(10,[],[]),(2,[],[3,4,6,7,9,10]),(5,[],[6,7,9,10]),(8,[],[9,10]),(11,[],[]),(12,[],[]),(13,[],[]),(14,[],[]),(15,[],[]),(16,[],[]),(17,[],[]),(18,[],[])] [0,1,3,0,8,31,0,64,255,0,512,2047,4095,8191,16383,32767,32767,131071,262143] (by kernel_rfl) (by kernel_rfl) (by kernel_rfl) (by kernel_rfl) rfl (by kernel_rfl) ?_;iterate 8
  (refine cB (g:=none) rfl rfl fun K' hK'=>?_;simp only[sH,↓sP,sA,tyS,simprocAttr];(repeat refine AI ?_);refine hK' _ _ ?_;clear hK' K')
 refine cB (g:=none) rfl rfl fun K' hK'=>?_;simp (maxSteps:=4000000) only[sH,↓sP,sA,tyS,simprocAttr];refine bH (args:=[_]) (rT x.s) ⟨rfl,rfl,rfl,rfl⟩ ?_;rintro u rfl;repeat refine AI ?_
 refine hK' _ _ ?_;clear hK' K';refine cB (g:=none) rfl rfl fun K' hK'=>?_;simp (maxSteps:=4000000) only[sH,↓sP,sA,tyS,simprocAttr];refine bH (args:=[_]) (rT x.r) ⟨rfl,rfl,rfl,rfl⟩ ?_;rintro u rfl;repeat refine AI ?_
 refine hK' _ _ ?_;clear hK' K';refine cB (g:=none) rfl rfl fun K' hK'=>?_;simp (maxSteps:=4000000) only[sH,↓sP,sA,tyS,simprocAttr];refine bH (args:=[_]) (rT x.o) ⟨rfl,rfl,rfl,rfl⟩ ?_;rintro u rfl;repeat refine AI ?_
 refine hK' _ _ ?_;clear hK' K';refine cB (g:=none) rfl rfl fun K' hK'=>?_;simp (maxSteps:=4000000) only[sH,↓sP,sA,tyS,simprocAttr];refine bH (args:=[_]) (aY6 x.at_ ⟨by omega,by omega⟩) ⟨rfl,rfl,rfl,rfl⟩ ?_;rintro u rfl;repeat refine AI ?_
 refine hK' _ _ ?_;clear hK' K';refine fM (g:=none) 88 rfl rfl fun K' hK'=>?_;simp (maxSteps:=4000000) only[iN,lC,sH,↓sP,sA,tyS,simprocAttr];repeat refine AI ?_
 refine eE (by first|rfl|simp) ?_;try simp (maxSteps:=4000000) only[sH,↓sP,sA,tyS,simprocAttr]
 repeat refine AI ?_
 refine hK' _ _ ?_;clear hK' K';refine fM (g:=none) 92 rfl rfl fun K' hK'=>?_;simp (maxSteps:=4000000) only[iN,lC,sH,↓sP,sA,tyS,simprocAttr];repeat refine AI ?_
 refine eE (by first|rfl|simp) ?_;try simp (maxSteps:=4000000) only[sH,↓sP,sA,tyS,simprocAttr]
 repeat refine AI ?_
 refine hK' _ _ ?_;clear hK' K';refine cB (g:=none) rfl rfl fun K' hK'=>?_;simp (maxSteps:=4000000) only[sH,↓sP,sA,tyS,simprocAttr];refine cD (args:=[_]) (aF5 [rpL x] (by simp) (by simp[rpL])) ⟨rfl,rfl,rfl,rfl⟩ ?_;rintro u v ⟨rfl,rfl⟩;repeat refine AI ?_
 refine hK' _ _ ?_;clear hK' K';iterate 4
  (refine cB (g:=none) rfl rfl fun K' hK'=>?_;simp only[sH,↓sP,sA,tyS,simprocAttr];(repeat refine AI ?_);refine hK' _ _ ?_;clear hK' K')
 simp only[sE,↓reduceIte,simprocAttr];repeat refine AI ?_
 refine hK _ _ _ ?_;clear hK K;refine aT ?_;simp (maxSteps:=4000000) only[bA,Tryz.results6,aY,aZ,aX,↓sP,sA,tyS,simprocAttr];exact aW [] (.slc ((lW [rpL x]).map cQ)) (.int .i64 (gB [rpL x])) (by simp[HV.close,HV.closeL,CV.denil,CV.denilL,dI,HV.norm,HV.toC,HV.toCL]) ⟨by rw[rpO,if_pos hv],by rw[rpE,if_pos hv]⟩
variable {b:aU}
theorem fT (he:dM b=0)(h:rpV (fS b)=none):nL b=2∧nM b=rp0:=by
 unfold nL nM;rw[if_neg (by rw[he];simp),if_pos he,h];exact⟨rfl,rfl⟩
theorem aV6 (he:dM b≠0):nL b=dM b∧nM b=rp0:=by
 unfold nL nM;rw[if_pos he,if_neg he];exact⟨rfl,rfl⟩
variable {x:Rp}
theorem aV7 (he:dM b=0)(h:rpV (fS b)=some x)(hv:vRp x=false):nL b=1∧nM b=rp0:=by
 unfold nL nM;rw[if_neg (by rw[he];simp),if_pos he,h];simp[hv]
theorem aG6 (he:dM b=0)(h:rpV (fS b)=some x)(hv:vRp x=true):nL b=0∧nM b=x:=by
 unfold nL nM;rw[if_neg (by rw[he];simp),if_pos he,h];simp[hv]
theorem dH {ob:Ob}{r:HV}{e:Int}(hr:r= .tup [.c x.cv,.c (.int .i64 e)])(h:nL b=e∧nM b=x):mN 0 r ob (fun r ob'=> ∃u v,r= .tup [.c u,.c v]∧(u=(nM b).cv∧v= .int .i64 (nL b))∧ob'=cH):=by
 subst hr;exact aW [] x.cv (.int .i64 e) (by simp[HV.close,HV.closeL,Rp.denil,CV.denil,HV.norm,HV.toC,HV.toCL]) ⟨by rw[h.2],by rw[h.1]⟩
variable {l:List aU}
theorem aG7 (h:l.length=5)(h0:l[0]=tB):rpV [l]=rpW l:=by
 unfold rpV;rw[if_neg]
 · rfl
 have:wd l 0=tB:=by rw[←h0,wd,List.getD_eq_getElem?_getD,List.getElem?_eq_getElem (by omega)];rfl
 simp[h,this]
theorem pO {i:Nat}(h:i<l.length):wd l i=l[i]:=by rw[wd,List.getD_eq_getElem?_getD,List.getElem?_eq_getElem h];rfl
theorem aG8 {ls:List (List aU)}(h:ls.length≠1):rpV ls=none:=if_pos (.inl h)
theorem yR (h:l.length≠5):rpV [l]=none:=if_pos (.inr (.inl h))
theorem yS {h:0<l.length}(h0:l[0]≠tB):rpV [l]=none:=if_pos (.inr (.inr (by show wd l 0≠tB;rw[pO h];exact h0)))
theorem rpW_none (h:(dT (wd l 1)).isSome=false∨(dT (wd l 2)).isSome=false∨(dT (wd l 3)).isSome=false∨(eY (wd l 4)).isSome=false):rpW l=none:=by
 unfold rpW;split
 · simp_all
 rfl
theorem yT (h1:(dT (wd l 1)).isSome=true)(h2:(dT (wd l 2)).isSome=true)(h3:(dT (wd l 3)).isSome=true)(h4:(eY (wd l 4)).isSome=true):rpW l=some ⟨(dT (wd l 1)).getD zdg,(dT (wd l 2)).getD zdg,(dT (wd l 3)).getD zdg,(eY (wd l 4)).getD 0⟩:=by
 obtain⟨a,ha⟩:=Option.isSome_iff_exists.1 h1;obtain⟨b,hb⟩:=Option.isSome_iff_exists.1 h2;obtain⟨c,hc⟩:=Option.isSome_iff_exists.1 h3;obtain⟨d,hd⟩:=Option.isSome_iff_exists.1 h4;unfold rpW;rw[ha,hb,hc,hd];rfl
theorem bA8 {b:Bool}(h:(!b)=true):b=false:=by cases b<;>simp_all
theorem bA9 {b:Bool}(h:(!b)=false):b=true:=by cases b<;>simp_all
theorem dU (x:CV):nth [x] 0=x:=rfl
theorem aC6 (b:aU)(hl:b.length<2^40):eD Tryz.prog 10 [.slc (b.map u8)] (fun u v=>u=(nM b).cv∧v= .int .i64 (nL b)):=by
 refine bI Tryz.func10 rfl (by kernel_rfl) (bJ _) (Nat.le_of_ble_eq_true rfl) ?_;refine aD fun K hK=>aC (by kernel_rfl) ?_;simp (maxSteps:=4000000) only[↓sP,sA,tyS,simprocAttr];repeat refine AI ?_
 refine hK _ _ _ ?_;clear hK K;refine aD fun K hK=>aC (by kernel_rfl) ?_;simp only[sR,simprocAttr];refine aB (g:=none) rfl rfl fun K' hK'=>?_;simp (maxSteps:=4000000) only[sH,↓sP,sA,tyS,simprocAttr,denilL_u8];repeat refine AI ?_
 refine hK' _ _ ?_;clear hK' K';refine aB (g:=none) rfl rfl fun K' hK'=>?_;simp (maxSteps:=4000000) only[sH,↓sP,sA,tyS,simprocAttr,denilL_u8];refine cD (args:=[_]) (bA3 b hl) ⟨rfl,rfl,rfl,rfl⟩ ?_;rintro u v ⟨rfl,rfl⟩;repeat refine AI ?_
 refine hK' _ _ ?_;clear hK' K';iterate 5
  (refine aB (g:=none) rfl rfl fun K' hK'=>?_;simp only[sH,↓sP,sA,tyS,simprocAttr,denilL_u8];(repeat refine AI ?_);refine hK' _ _ ?_;clear hK' K')
 simp only[sE,↓reduceIte,simprocAttr];repeat refine AI ?_
 refine hK _ _ _ ?_;clear hK K;refine aD fun K hK=>?_;refine aD fun K hK=>aC (by kernel_rfl) ?_;simp (maxSteps:=4000000) only[↓sP,sA,tyS,simprocAttr];repeat refine AI ?_
 refine hK _ _ _ ?_;clear hK K;refine aQ (b:=!(dM b==0)) rfl (fun hb=>?_) (fun hb=>?_)
 ·
  refine aD fun K hK=>aC (by kernel_rfl) ?_;simp only[sR,simprocAttr];iterate 4
   (refine aB (g:=none) rfl rfl fun K' hK'=>?_;simp only[sH,↓sP,sA,tyS,simprocAttr];(repeat refine AI ?_);refine hK' _ _ ?_;clear hK' K')
  simp only[sE,↓reduceIte,simprocAttr];repeat refine AI ?_
  refine hK _ _ _ ?_;clear hK K;refine aT ?_;simp (maxSteps:=4000000) only[bA,Tryz.results10,aY,aZ,aX,↓sP,sA,tyS,simprocAttr];have he:dM b≠0:=by simpa using hb
  exact dH (b:=b) (x:=rp0) rfl (aV6 he)
 have he:dM b=0:=by simpa using hb
 clear hb;obtain⟨ls,hls⟩: ∃ls,ls=fS b:=⟨_,rfl⟩;rw[←hls];refine aV ?_;simp (maxSteps:=4000000) only[↓sP,sA,tyS,simprocAttr];repeat refine AI ?_
 refine hK _ _ _ ?_;clear hK K;refine aD fun K hK=>?_;by_cases h1:ls.length=1
 ·
  by_cases h2:(ls.getD 0 []).length=5
  ·
   obtain⟨l,rfl⟩: ∃l,ls=[l]:=List.length_eq_one_iff.1 h1
   replace h2:l.length=5:=h2
   have q0:0<l.length:=by omega
   have q1:1<l.length:=by omega
   have q2:2<l.length:=by omega
   have q3:3<l.length:=by omega
   have q4:4<l.length:=by omega
   have e1:=pO q1;have e2:=pO q2;have e3:=pO q3;have e4:=pO q4;refine aD fun K hK=>aC (by kernel_rfl) ?_;simp only[sR,simprocAttr];iterate 4
    (refine aB (g:=none) rfl rfl fun K' hK'=>?_;simp only[sH,↓sP,sA,tyS,simprocAttr,List.length_map,List.map_cons,List.map_nil,dU,lsC,Int.toNat_zero,h2,bN q0];(repeat refine AI ?_);refine hK' _ _ ?_;clear hK' K')
   iterate 5
    (refine aB (g:=some (27,false)) rfl rfl fun K' hK'=>?_;simp only[sH,↓sP,sA,tyS,simprocAttr,List.length_map,List.map_cons,List.map_nil,dU,lsC,Int.toNat_zero,h2,bN q0];(repeat refine AI ?_);refine hK' _ _ ?_;clear hK' K')
   iterate 2
    (refine aB (g:=none) rfl rfl fun K' hK'=>?_;simp only[sH,↓sP,sA,tyS,simprocAttr,List.length_map,List.map_cons,List.map_nil,dU,lsC,Int.toNat_zero,h2,bN q0];(repeat refine AI ?_);refine hK' _ _ ?_;clear hK' K')
   iterate 6
    (refine aB (g:=some (34,false)) rfl rfl fun K' hK'=>?_;simp only[sH,↓sP,sA,tyS,simprocAttr,List.length_map,List.map_cons,List.map_nil,dU,lsC,Int.toNat_zero,h2,bN q0];(repeat refine AI ?_);refine hK' _ _ ?_;clear hK' K')
   refine aB (g:=none) rfl rfl fun K' hK'=>?_;simp (maxSteps:=4000000) only[sH,↓sP,sA,tyS,simprocAttr,List.length_map,List.map_cons,List.map_nil,dU,lsC,Int.toNat_zero,h2,bN q0];repeat refine AI ?_
   refine hK' _ _ ?_;clear hK' K';simp only[sE,↓reduceIte,simprocAttr];repeat refine AI ?_
   refine hK _ _ _ ?_;clear hK K;refine aQ (b:=!(l[0]==tB)) rfl (fun hb=>?_) (fun hb=>?_)
   ·
    refine aD fun K hK=>aC (by kernel_rfl) ?_;simp (maxSteps:=4000000) only[↓sP,sA,tyS,simprocAttr];repeat refine AI ?_
    refine hK _ _ _ ?_;clear hK K;refine aT ?_;simp (maxSteps:=4000000) only[bA,Tryz.results10,aY,aZ,aX,↓sP,sA,tyS,simprocAttr];exact dH (b:=b) (x:=rp0) rfl (fT he (by rw[←hls];exact yS (by simpa using hb)))
   have h0:l[0]=tB:=by simpa using hb
   have hrv:=aG7 h2 h0;clear hb;refine aV ?_;simp (maxSteps:=4000000) only[↓sP,sA,tyS,simprocAttr];repeat refine AI ?_
   refine hK _ _ _ ?_;clear hK K;refine aD fun K hK=>aC (by kernel_rfl) ?_;simp only[sR,simprocAttr];iterate 5
    (refine aB (g:=none) rfl rfl fun K' hK'=>?_;simp only[sH,↓sP,sA,tyS,simprocAttr,List.map_cons,List.map_nil,dU,lsC,Int.toNat_zero,List.length_map,h2,bN q1];(repeat refine AI ?_);refine hK' _ _ ?_;clear hK' K')
   refine aB (g:=none) rfl rfl fun K' hK'=>?_;simp (maxSteps:=4000000) only[sH,↓sP,sA,tyS,simprocAttr,List.map_cons,List.map_nil,dU,lsC,Int.toNat_zero,List.length_map,h2,bN q1];refine cD (args:=[_]) (mA l[1]) ⟨rfl,rfl,rfl,rfl⟩ ?_;rintro u v ⟨rfl,rfl⟩;repeat refine AI ?_
   refine hK' _ _ ?_;clear hK' K';iterate 6
    (refine aB (g:=none) rfl rfl fun K' hK'=>?_;simp only[sH,↓sP,sA,tyS,simprocAttr,List.map_cons,List.map_nil,dU,lsC,Int.toNat_zero,List.length_map,h2,bN q1];(repeat refine AI ?_);refine hK' _ _ ?_;clear hK' K')
   simp only[sE,↓reduceIte,simprocAttr];repeat refine AI ?_
   refine hK _ _ _ ?_;clear hK K;refine aD fun K hK=>aC (by kernel_rfl) ?_;simp only[sR,simprocAttr];iterate 5
    (refine aB (g:=none) rfl rfl fun K' hK'=>?_;simp only[sH,↓sP,sA,tyS,simprocAttr,List.map_cons,List.map_nil,dU,lsC,Int.toNat_zero,List.length_map,h2,bN q2];(repeat refine AI ?_);refine hK' _ _ ?_;clear hK' K')
   refine aB (g:=none) rfl rfl fun K' hK'=>?_;simp (maxSteps:=4000000) only[sH,↓sP,sA,tyS,simprocAttr,List.map_cons,List.map_nil,dU,lsC,Int.toNat_zero,List.length_map,h2,bN q2];refine cD (args:=[_]) (mA l[2]) ⟨rfl,rfl,rfl,rfl⟩ ?_;rintro u v ⟨rfl,rfl⟩;repeat refine AI ?_
   refine hK' _ _ ?_;clear hK' K';iterate 6
    (refine aB (g:=none) rfl rfl fun K' hK'=>?_;simp only[sH,↓sP,sA,tyS,simprocAttr,List.map_cons,List.map_nil,dU,lsC,Int.toNat_zero,List.length_map,h2,bN q2];(repeat refine AI ?_);refine hK' _ _ ?_;clear hK' K')
   simp only[sE,↓reduceIte,simprocAttr];repeat refine AI ?_
   refine hK _ _ _ ?_;clear hK K;refine aD fun K hK=>aC (by kernel_rfl) ?_;simp only[sR,simprocAttr];iterate 5
    (refine aB (g:=none) rfl rfl fun K' hK'=>?_;simp only[sH,↓sP,sA,tyS,simprocAttr,List.map_cons,List.map_nil,dU,lsC,Int.toNat_zero,List.length_map,h2,bN q3];(repeat refine AI ?_);refine hK' _ _ ?_;clear hK' K')
   refine aB (g:=none) rfl rfl fun K' hK'=>?_;simp (maxSteps:=4000000) only[sH,↓sP,sA,tyS,simprocAttr,List.map_cons,List.map_nil,dU,lsC,Int.toNat_zero,List.length_map,h2,bN q3];refine cD (args:=[_]) (mA l[3]) ⟨rfl,rfl,rfl,rfl⟩ ?_;rintro u v ⟨rfl,rfl⟩;repeat refine AI ?_
   refine hK' _ _ ?_;clear hK' K';iterate 6
    (refine aB (g:=none) rfl rfl fun K' hK'=>?_;simp only[sH,↓sP,sA,tyS,simprocAttr,List.map_cons,List.map_nil,dU,lsC,Int.toNat_zero,List.length_map,h2,bN q3];(repeat refine AI ?_);refine hK' _ _ ?_;clear hK' K')
   simp only[sE,↓reduceIte,simprocAttr];repeat refine AI ?_
   refine hK _ _ _ ?_;clear hK K;refine aD fun K hK=>aC (by kernel_rfl) ?_;simp only[sR,simprocAttr];iterate 5
    (refine aB (g:=none) rfl rfl fun K' hK'=>?_;simp only[sH,↓sP,sA,tyS,simprocAttr,List.map_cons,List.map_nil,dU,lsC,Int.toNat_zero,List.length_map,h2,bN q4];(repeat refine AI ?_);refine hK' _ _ ?_;clear hK' K')
   refine aB (g:=none) rfl rfl fun K' hK'=>?_;simp (maxSteps:=4000000) only[sH,↓sP,sA,tyS,simprocAttr,List.map_cons,List.map_nil,dU,lsC,Int.toNat_zero,List.length_map,h2,bN q4];refine cD (args:=[_]) (aT5 l[4]) ⟨rfl,rfl,rfl,rfl⟩ ?_;rintro u v ⟨rfl,rfl⟩;repeat refine AI ?_
   refine hK' _ _ ?_;clear hK' K';iterate 5
    (refine aB (g:=none) rfl rfl fun K' hK'=>?_;simp only[sH,↓sP,sA,tyS,simprocAttr,List.map_cons,List.map_nil,dU,lsC,Int.toNat_zero,List.length_map,h2,bN q4];(repeat refine AI ?_);refine hK' _ _ ?_;clear hK' K')
   simp only[sE,↓reduceIte,simprocAttr];repeat refine AI ?_
   refine hK _ _ _ ?_;clear hK K;refine aD fun K hK=>?_;refine aD fun K hK=>aC (by kernel_rfl) ?_;simp only[sR,simprocAttr];iterate 3
    (refine aB (g:=none) rfl rfl fun K' hK'=>?_;simp only[sH,↓sP,sA,tyS,simprocAttr];(repeat refine AI ?_);refine hK' _ _ ?_;clear hK' K')
   refine bG 79 rfl (fun h10_79=>?_) (fun h10_79=>?_)
   ·
    iterate 2
     (refine aB (g:=some (81,false)) rfl rfl fun K' hK'=>?_;simp only[sH,↓sP,sA,tyS,simprocAttr,h10_79];(repeat refine AI ?_);refine hK' _ _ ?_;clear hK' K')
    iterate 2
     (refine aB (g:=none) rfl rfl fun K' hK'=>?_;simp only[sH,↓sP,sA,tyS,simprocAttr,h10_79];(repeat refine AI ?_);refine hK' _ _ ?_;clear hK' K')
    refine bG 82 rfl (fun h10_82=>?_) (fun h10_82=>?_)
    ·
     iterate 2
      (refine aB (g:=some (85,false)) rfl rfl fun K' hK'=>?_;simp only[sH,↓sP,sA,tyS,simprocAttr,h10_79,h10_82];(repeat refine AI ?_);refine hK' _ _ ?_;clear hK' K')
     iterate 2
      (refine aB (g:=none) rfl rfl fun K' hK'=>?_;simp only[sH,↓sP,sA,tyS,simprocAttr,h10_79,h10_82];(repeat refine AI ?_);refine hK' _ _ ?_;clear hK' K')
     refine bG 86 rfl (fun h10_86=>?_) (fun h10_86=>?_)
     ·
      iterate 2
       (refine aB (g:=some (89,false)) rfl rfl fun K' hK'=>?_;simp only[sH,↓sP,sA,tyS,simprocAttr,h10_79,h10_82,h10_86];(repeat refine AI ?_);refine hK' _ _ ?_;clear hK' K')
      refine aB (g:=none) rfl rfl fun K' hK'=>?_;simp (maxSteps:=4000000) only[sH,↓sP,sA,tyS,simprocAttr,h10_79,h10_82,h10_86];repeat refine AI ?_
      refine hK' _ _ ?_;clear hK' K';refine bG 90 rfl (fun h10_90=>?_) (fun h10_90=>?_)
      ·
       simp only[h10_90];simp only[sE,↓reduceIte,simprocAttr];repeat refine AI ?_
       refine hK _ _ _ ?_;clear hK K;refine aQ (b:=false) rfl (fun hb=>?_) (fun hb=>?_)
       · cases hb
       obtain⟨X,hX⟩: ∃X:Rp,X=⟨(dT l[1]).getD zdg,(dT l[2]).getD zdg,(dT l[3]).getD zdg,(eY l[4]).getD 0⟩:=⟨_,rfl⟩;have hrp:rpV (fS b)=some X:=by
        rw[←hls,hrv,yT (by simp[e1,h10_79,h10_82,h10_86,h10_90]) (by simp[e2,h10_79,h10_82,h10_86,h10_90]) (by simp[e3,h10_79,h10_82,h10_86,h10_90]) (by simp[e4,h10_79,h10_82,h10_86,h10_90]),hX,e1,e2,e3,e4]
       subst hX;refine aV ?_;simp (maxSteps:=4000000) only[↓sP,sA,tyS,simprocAttr];repeat refine AI ?_
       refine hK _ _ _ ?_;clear hK K;refine aD fun K hK=>aC (by kernel_rfl) ?_;simp only[sR,simprocAttr];iterate 8
        (refine aB (g:=none) rfl rfl fun K' hK'=>?_;simp only[sH,↓sP,sA,tyS,simprocAttr,h10_79,h10_82,h10_86,h10_90];(repeat refine AI ?_);refine hK' _ _ ?_;clear hK' K')
       simp only[sE,↓reduceIte,simprocAttr];repeat refine AI ?_
       refine hK _ _ _ ?_;clear hK K;refine aD fun K hK=>?_;refine aD fun K hK=>aC (by kernel_rfl) ?_;simp only[sR,simprocAttr];refine aB (g:=none) rfl rfl fun K' hK'=>?_;simp (maxSteps:=4000000) only[sH,↓sP,sA,tyS,simprocAttr,h10_79,h10_82,h10_86,h10_90];repeat refine AI ?_
       refine hK' _ _ ?_;clear hK' K';refine aB (g:=none) rfl rfl fun K' hK'=>?_;simp (maxSteps:=4000000) only[sH,↓sP,sA,tyS,simprocAttr,h10_79,h10_82,h10_86,h10_90];refine bH (args:=[Rp.cv ⟨_,_,_,_⟩]) (mB _) ⟨rfl,rfl,rfl,rfl⟩ ?_;rintro u rfl;repeat refine AI ?_
       refine hK' _ _ ?_;clear hK' K';refine aB (g:=none) rfl rfl fun K' hK'=>?_;simp (maxSteps:=4000000) only[sH,↓sP,sA,tyS,simprocAttr,h10_79,h10_82,h10_86,h10_90];repeat refine AI ?_
       refine hK' _ _ ?_;clear hK' K';simp only[sE,↓reduceIte,simprocAttr];repeat refine AI ?_
       refine hK _ _ _ ?_;clear hK K;refine aQ (b:=_) rfl (fun hb=>?_) (fun hb=>?_)
       ·
        refine aD fun K hK=>aC (by kernel_rfl) ?_;simp (maxSteps:=4000000) only[↓sP,sA,tyS,simprocAttr];repeat refine AI ?_
        refine hK _ _ _ ?_;clear hK K;refine aT ?_;simp (maxSteps:=4000000) only[bA,Tryz.results10,aY,aZ,aX,↓sP,sA,tyS,simprocAttr];exact dH (b:=b) (x:=rp0) rfl (aV7 he hrp (bA8 hb))
       refine aV ?_;simp (maxSteps:=4000000) only[↓sP,sA,tyS,simprocAttr];repeat refine AI ?_
       refine hK _ _ _ ?_;clear hK K;refine aD fun K hK=>aC (by kernel_rfl) ?_;simp (maxSteps:=4000000) only[↓sP,sA,tyS,simprocAttr];repeat refine AI ?_
       refine hK _ _ _ ?_;clear hK K;refine aT ?_;simp (maxSteps:=4000000) only[bA,Tryz.results10,aY,aZ,aX,↓sP,sA,tyS,simprocAttr];exact dH (b:=b) (x:=⟨_,_,_,_⟩) rfl (aG6 he hrp (bA9 hb))
      simp only[h10_90];simp only[sE,↓reduceIte,simprocAttr];repeat refine AI ?_
      refine hK _ _ _ ?_;clear hK K;refine aQ (b:=true) rfl (fun hb=>?_) (fun hb=>?_)
      ·
       refine aD fun K hK=>aC (by kernel_rfl) ?_;simp (maxSteps:=4000000) only[↓sP,sA,tyS,simprocAttr];repeat refine AI ?_
       refine hK _ _ _ ?_;clear hK K;refine aT ?_;simp (maxSteps:=4000000) only[bA,Tryz.results10,aY,aZ,aX,↓sP,sA,tyS,simprocAttr];exact dH (b:=b) (x:=rp0) rfl (fT he (by rw[←hls,hrv];exact rpW_none (by simp[e1,e2,e3,e4,h10_79,h10_82,h10_86,h10_90])))
      cases hb
     iterate 2
      (refine aB (g:=some (89,false)) rfl rfl fun K' hK'=>?_;simp only[sH,↓sP,sA,tyS,simprocAttr,h10_79,h10_82,h10_86];(repeat refine AI ?_);refine hK' _ _ ?_;clear hK' K')
     refine aB (g:=none) rfl rfl fun K' hK'=>?_;simp (maxSteps:=4000000) only[sH,↓sP,sA,tyS,simprocAttr,h10_79,h10_82,h10_86];repeat refine AI ?_
     refine hK' _ _ ?_;clear hK' K';simp only[sE,↓reduceIte,simprocAttr];repeat refine AI ?_
     refine hK _ _ _ ?_;clear hK K;refine aQ (b:=true) rfl (fun hb=>?_) (fun hb=>?_)
     ·
      refine aD fun K hK=>aC (by kernel_rfl) ?_;simp (maxSteps:=4000000) only[↓sP,sA,tyS,simprocAttr];repeat refine AI ?_
      refine hK _ _ _ ?_;clear hK K;refine aT ?_;simp (maxSteps:=4000000) only[bA,Tryz.results10,aY,aZ,aX,↓sP,sA,tyS,simprocAttr];exact dH (b:=b) (x:=rp0) rfl (fT he (by rw[←hls,hrv];exact rpW_none (by simp[e1,e2,e3,e4,h10_79,h10_82,h10_86])))
     cases hb
    iterate 2
     (refine aB (g:=some (85,false)) rfl rfl fun K' hK'=>?_;simp only[sH,↓sP,sA,tyS,simprocAttr,h10_79,h10_82];(repeat refine AI ?_);refine hK' _ _ ?_;clear hK' K')
    iterate 2
     (refine aB (g:=none) rfl rfl fun K' hK'=>?_;simp only[sH,↓sP,sA,tyS,simprocAttr,h10_79,h10_82];(repeat refine AI ?_);refine hK' _ _ ?_;clear hK' K')
    iterate 2
     (refine aB (g:=some (89,false)) rfl rfl fun K' hK'=>?_;simp only[sH,↓sP,sA,tyS,simprocAttr,h10_79,h10_82];(repeat refine AI ?_);refine hK' _ _ ?_;clear hK' K')
    refine aB (g:=none) rfl rfl fun K' hK'=>?_;simp (maxSteps:=4000000) only[sH,↓sP,sA,tyS,simprocAttr,h10_79,h10_82];repeat refine AI ?_
    refine hK' _ _ ?_;clear hK' K';simp only[sE,↓reduceIte,simprocAttr];repeat refine AI ?_
    refine hK _ _ _ ?_;clear hK K;refine aQ (b:=true) rfl (fun hb=>?_) (fun hb=>?_)
    ·
     refine aD fun K hK=>aC (by kernel_rfl) ?_;simp (maxSteps:=4000000) only[↓sP,sA,tyS,simprocAttr];repeat refine AI ?_
     refine hK _ _ _ ?_;clear hK K;refine aT ?_;simp (maxSteps:=4000000) only[bA,Tryz.results10,aY,aZ,aX,↓sP,sA,tyS,simprocAttr];exact dH (b:=b) (x:=rp0) rfl (fT he (by rw[←hls,hrv];exact rpW_none (by simp[e1,e2,e3,e4,h10_79,h10_82])))
    cases hb
   iterate 2
    (refine aB (g:=some (81,false)) rfl rfl fun K' hK'=>?_;simp only[sH,↓sP,sA,tyS,simprocAttr,h10_79];(repeat refine AI ?_);refine hK' _ _ ?_;clear hK' K')
   iterate 2
    (refine aB (g:=none) rfl rfl fun K' hK'=>?_;simp only[sH,↓sP,sA,tyS,simprocAttr,h10_79];(repeat refine AI ?_);refine hK' _ _ ?_;clear hK' K')
   iterate 2
    (refine aB (g:=some (85,false)) rfl rfl fun K' hK'=>?_;simp only[sH,↓sP,sA,tyS,simprocAttr,h10_79];(repeat refine AI ?_);refine hK' _ _ ?_;clear hK' K')
   iterate 2
    (refine aB (g:=none) rfl rfl fun K' hK'=>?_;simp only[sH,↓sP,sA,tyS,simprocAttr,h10_79];(repeat refine AI ?_);refine hK' _ _ ?_;clear hK' K')
   iterate 2
    (refine aB (g:=some (89,false)) rfl rfl fun K' hK'=>?_;simp only[sH,↓sP,sA,tyS,simprocAttr,h10_79];(repeat refine AI ?_);refine hK' _ _ ?_;clear hK' K')
   refine aB (g:=none) rfl rfl fun K' hK'=>?_;simp (maxSteps:=4000000) only[sH,↓sP,sA,tyS,simprocAttr,h10_79];repeat refine AI ?_
   refine hK' _ _ ?_;clear hK' K';simp only[sE,↓reduceIte,simprocAttr];repeat refine AI ?_
   refine hK _ _ _ ?_;clear hK K;refine aQ (b:=true) rfl (fun hb=>?_) (fun hb=>?_)
   ·
    refine aD fun K hK=>aC (by kernel_rfl) ?_;simp (maxSteps:=4000000) only[↓sP,sA,tyS,simprocAttr];repeat refine AI ?_
    refine hK _ _ _ ?_;clear hK K;refine aT ?_;simp (maxSteps:=4000000) only[bA,Tryz.results10,aY,aZ,aX,↓sP,sA,tyS,simprocAttr];exact dH (b:=b) (x:=rp0) rfl (fT he (by rw[←hls,hrv];exact rpW_none (by simp[e1,e2,e3,e4,h10_79])))
   cases hb
  obtain⟨l,rfl⟩: ∃l,ls=[l]:=List.length_eq_one_iff.1 h1
  replace h2:l.length≠5:=h2
  have hne:((l.length:Int) !=5)=true:=by simp;omega
  refine aD fun K hK=>aC (by kernel_rfl) ?_;simp only[sR,simprocAttr];iterate 4
   (refine aB (g:=none) rfl rfl fun K' hK'=>?_;simp only[sH,↓sP,sA,tyS,simprocAttr,List.length_map,List.map_cons,List.map_nil,dU,lsC,Int.toNat_zero,hne];(repeat refine AI ?_);refine hK' _ _ ?_;clear hK' K')
  iterate 5
   (refine aB (g:=some (27,false)) rfl rfl fun K' hK'=>?_;simp only[sH,↓sP,sA,tyS,simprocAttr,List.length_map,List.map_cons,List.map_nil,dU,lsC,Int.toNat_zero,hne];(repeat refine AI ?_);refine hK' _ _ ?_;clear hK' K')
  iterate 2
   (refine aB (g:=none) rfl rfl fun K' hK'=>?_;simp only[sH,↓sP,sA,tyS,simprocAttr,List.length_map,List.map_cons,List.map_nil,dU,lsC,Int.toNat_zero,hne];(repeat refine AI ?_);refine hK' _ _ ?_;clear hK' K')
  iterate 6
   (refine aB (g:=some (34,false)) rfl rfl fun K' hK'=>?_;simp only[sH,↓sP,sA,tyS,simprocAttr,List.length_map,List.map_cons,List.map_nil,dU,lsC,Int.toNat_zero,hne];(repeat refine AI ?_);refine hK' _ _ ?_;clear hK' K')
  refine aB (g:=none) rfl rfl fun K' hK'=>?_;simp (maxSteps:=4000000) only[sH,↓sP,sA,tyS,simprocAttr,List.length_map,List.map_cons,List.map_nil,dU,lsC,Int.toNat_zero,hne];repeat refine AI ?_
  refine hK' _ _ ?_;clear hK' K';simp only[sE,↓reduceIte,simprocAttr];repeat refine AI ?_
  refine hK _ _ _ ?_;clear hK K;refine aQ (b:=true) rfl (fun hb=>?_) (fun hb=>?_)
  ·
   refine aD fun K hK=>aC (by kernel_rfl) ?_;simp (maxSteps:=4000000) only[↓sP,sA,tyS,simprocAttr];repeat refine AI ?_
   refine hK _ _ _ ?_;clear hK K;refine aT ?_;simp (maxSteps:=4000000) only[bA,Tryz.results10,aY,aZ,aX,↓sP,sA,tyS,simprocAttr];exact dH (b:=b) (x:=rp0) rfl (fT he (by rw[←hls];exact yR h2))
  cases hb
 have hne:((ls.length:Int) !=1)=true:=by simp;omega
 refine aD fun K hK=>aC (by kernel_rfl) ?_;simp only[sR,simprocAttr];iterate 4
  (refine aB (g:=none) rfl rfl fun K' hK'=>?_;simp only[sH,↓sP,sA,tyS,simprocAttr,List.length_map,hne];(repeat refine AI ?_);refine hK' _ _ ?_;clear hK' K')
 iterate 5
  (refine aB (g:=some (27,false)) rfl rfl fun K' hK'=>?_;simp only[sH,↓sP,sA,tyS,simprocAttr,List.length_map,hne];(repeat refine AI ?_);refine hK' _ _ ?_;clear hK' K')
 iterate 2
  (refine aB (g:=none) rfl rfl fun K' hK'=>?_;simp only[sH,↓sP,sA,tyS,simprocAttr,List.length_map,hne];(repeat refine AI ?_);refine hK' _ _ ?_;clear hK' K')
 iterate 6
  (refine aB (g:=some (34,false)) rfl rfl fun K' hK'=>?_;simp only[sH,↓sP,sA,tyS,simprocAttr,List.length_map,hne];(repeat refine AI ?_);refine hK' _ _ ?_;clear hK' K')
 refine aB (g:=none) rfl rfl fun K' hK'=>?_;simp (maxSteps:=4000000) only[sH,↓sP,sA,tyS,simprocAttr,List.length_map,hne];repeat refine AI ?_
 refine hK' _ _ ?_;clear hK' K';simp only[sE,↓reduceIte,simprocAttr];repeat refine AI ?_
 refine hK _ _ _ ?_;clear hK K;refine aQ (b:=true) rfl (fun hb=>?_) (fun hb=>?_)
 ·
  refine aD fun K hK=>aC (by kernel_rfl) ?_;simp (maxSteps:=4000000) only[↓sP,sA,tyS,simprocAttr];repeat refine AI ?_
  refine hK _ _ _ ?_;clear hK K;refine aT ?_;simp (maxSteps:=4000000) only[bA,Tryz.results10,aY,aZ,aX,↓sP,sA,tyS,simprocAttr];exact dH (b:=b) (x:=rp0) rfl (fT he (by rw[←hls];exact aG8 h1))
 cases hb
end Go.Proofs.YtflnfidkociekaaGreatDoor
