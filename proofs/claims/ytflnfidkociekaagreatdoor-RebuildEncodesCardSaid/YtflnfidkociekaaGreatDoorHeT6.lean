/- Part of a proof: walks of functions of the program, by contracts, and the rules they use. By an AI agent. -/
import Derived.Test.YtflnfidkociekaaGreatDoorHeTe
import Derived.Test.YtflnfidkociekaaGreatDoorHlTab
import Derived.Test.YtflnfidkociekaaGreatDoorPl18e
set_option linter.unusedSimpArgs false
set_option linter.unusedVariables false
set_option linter.defProp false
namespace Go.Proofs.YtflnfidkociekaaGreatDoor
open Go Go.Hl Go.Pl
set_option maxRecDepth 10000
set_option maxHeartbeats 4000000
def hD (d:Dig):HV:= .c (dg d)
theorem bE6 (D:List Dig):(D.map dg).map HV.c=D.map hD:=by rw[List.map_map];rfl
theorem uQ (y:HV): ∀(D:List Dig) (i:Nat),i<D.length→CV.setAtL (i*32) 32 y (D.map dg)=some ((D.map hD).set i y)
 |[],i,h=>by simp at h
 |d::D,0,_=>by
  rw[List.map_cons,CV.setAtL,if_pos (by rw[dg_cells];omega),Nat.zero_mul,dg_setAt,bE6];rfl
 |d::D,i+1,h=>by
  have h':i<D.length:=by simpa using h
  rw[List.map_cons,CV.setAtL,if_neg (by rw[dg_cells];omega),dg_cells,show(i+1)*32-32=i*32 from by omega,uQ y D i h'];rfl
theorem aC7 (D:List Dig):CV.cellsL (D.map dg)=32*D.length:=by
 induction D with
 |nil=>rfl
 |cons d D ih=>rw[List.map_cons,CV.cellsL,ih,dg_cells,List.length_cons];omega
theorem aV8 (D:List Dig)(i:Nat)(h:i<D.length)(h1:D.length=3)(d:Dig):CV.setAt (i*32) 32 (.c (dg d)) (.agg (D.map dg))=some (.agg ((D.set i d).map hD)):=by
 rw[CV.setAt,if_neg (by rw[aC7];omega),uQ _ D i h,List.map_set];rfl
theorem uR (D:List Dig):HV.toCL (D.map hD)=some (D.map dg):=by
 induction D with
 |nil=>rfl
 |cons d D ih=>simp[HV.toCL,ih,hD,HV.toC]
theorem yU (D:List Dig)(i:Nat)(d:Dig):HV.toCL ((D.map hD).set i (hD d))=some ((D.map dg).set i (dg d)):=by
 rw[←List.map_set,←List.map_set,uR]
theorem aN8 (D:List Dig):HV.norm (.agg (D.map hD))= .c (.agg (D.map dg)):=by
 simp[HV.norm,HV.toC,uR]
structure DgsSt (l:List aU)(i:Nat)(D:List Dig):Prop where
 le:i≤3
 len:D.length=3
 dig: ∀j,j<i→dT (wd l (1+j))=some (D.getD j zdg)
theorem uS (b:aU)(hl:b.length<2^40):eD Tryz.prog 9 [.slc (b.map u8)] (fun u v=>u=(nM b).cv∧v= .int .i64 (nL b)):=by
 refine bI Tryz.func9 rfl (by kernel_rfl) (bJ _) (Nat.le_of_ble_eq_true rfl) ?_;refine aD fun K hK=>aC (by kernel_rfl) ?_;simp (maxSteps:=4000000) only[↓sP,sA,tyS,simprocAttr];repeat refine AI ?_
 refine hK _ _ _ ?_;clear hK K;refine aD fun K hK=>aC (by kernel_rfl) ?_;simp only[sR,simprocAttr];refine aB (g:=none) rfl rfl fun K' hK'=>?_;simp (maxSteps:=4000000) only[sH,↓sP,sA,tyS,simprocAttr,denilL_u8];repeat refine AI ?_
 refine hK' _ _ ?_;clear hK' K';refine aB (g:=none) rfl rfl fun K' hK'=>?_;simp (maxSteps:=4000000) only[sH,↓sP,sA,tyS,simprocAttr,denilL_u8];refine cD (args:=[_]) (bE5 b hl) ⟨rfl,rfl,rfl,rfl⟩ ?_;rintro u v ⟨rfl,rfl⟩;repeat refine AI ?_
 refine hK' _ _ ?_;clear hK' K';iterate 5
  (refine aB (g:=none) rfl rfl fun K' hK'=>?_;simp only[sH,↓sP,sA,tyS,simprocAttr,denilL_u8];(repeat refine AI ?_);refine hK' _ _ ?_;clear hK' K')
 simp only[sE,↓reduceIte,simprocAttr];repeat refine AI ?_
 refine hK _ _ _ ?_;clear hK K;refine aD fun K hK=>?_;refine aD fun K hK=>aC (by kernel_rfl) ?_;simp (maxSteps:=4000000) only[↓sP,sA,tyS,simprocAttr];repeat refine AI ?_
 refine hK _ _ _ ?_;clear hK K;refine aQ (b:=!(dM b==0)) rfl (fun hb=>?_) (fun hb=>?_)
 ·
  refine aD fun K hK=>aC (by kernel_rfl) ?_;simp only[sR,simprocAttr];iterate 4
   (refine aB (g:=none) rfl rfl fun K' hK'=>?_;simp only[sH,↓sP,sA,tyS,simprocAttr];(repeat refine AI ?_);refine hK' _ _ ?_;clear hK' K')
  simp only[sE,↓reduceIte,simprocAttr];repeat refine AI ?_
  refine hK _ _ _ ?_;clear hK K;refine aT ?_;simp (maxSteps:=4000000) only[bA,Tryz.results9,aY,aZ,aX,↓sP,sA,tyS,simprocAttr];have he:dM b≠0:=by simpa using hb
  exact dH (b:=b) (x:=rp0) rfl (aV6 he)
 have he:dM b=0:=by simpa using hb
 clear hb;obtain⟨ls,hls⟩: ∃ls,ls=fS b:=⟨_,rfl⟩;rw[←hls];refine aV ?_;simp (maxSteps:=4000000) only[↓sP,sA,tyS,simprocAttr];repeat refine AI ?_
 refine hK _ _ _ ?_;clear hK K;refine aD fun K hK=>?_;by_cases h1:ls.length=1
 ·
  by_cases h2:(ls.getD 0 []).length=5
  ·
   obtain⟨l,rfl⟩: ∃l,ls=[l]:=List.length_eq_one_iff.1 h1
   replace h2:l.length=5:=h2
   have hwl: ∀(i:Nat) (h:i<l.length),l[i].length<2^40:=fun i h=>by
    have h3:=(bA6 l (by rw[←hls];simp)).2.2 _ (List.getElem_mem h);omega
   have q0:0<l.length:=by omega
   have q4:4<l.length:=by omega
   have e4:=pO q4;refine aD fun K hK=>aC (by kernel_rfl) ?_;simp only[sR,simprocAttr];iterate 4
    (refine aB (g:=none) rfl rfl fun K' hK'=>?_;simp only[sH,↓sP,sA,tyS,simprocAttr,List.length_map,List.map_cons,List.map_nil,dU,lsC,Int.toNat_zero,h2,bN q0];(repeat refine AI ?_);refine hK' _ _ ?_;clear hK' K')
   iterate 5
    (refine aB (g:=some (25,false)) rfl rfl fun K' hK'=>?_;simp only[sH,↓sP,sA,tyS,simprocAttr,List.length_map,List.map_cons,List.map_nil,dU,lsC,Int.toNat_zero,h2,bN q0];(repeat refine AI ?_);refine hK' _ _ ?_;clear hK' K')
   iterate 2
    (refine aB (g:=none) rfl rfl fun K' hK'=>?_;simp only[sH,↓sP,sA,tyS,simprocAttr,List.length_map,List.map_cons,List.map_nil,dU,lsC,Int.toNat_zero,h2,bN q0];(repeat refine AI ?_);refine hK' _ _ ?_;clear hK' K')
   iterate 6
    (refine aB (g:=some (32,false)) rfl rfl fun K' hK'=>?_;simp only[sH,↓sP,sA,tyS,simprocAttr,List.length_map,List.map_cons,List.map_nil,dU,lsC,Int.toNat_zero,h2,bN q0];(repeat refine AI ?_);refine hK' _ _ ?_;clear hK' K')
   refine aB (g:=none) rfl rfl fun K' hK'=>?_;simp (maxSteps:=4000000) only[sH,↓sP,sA,tyS,simprocAttr,List.length_map,List.map_cons,List.map_nil,dU,lsC,Int.toNat_zero,h2,bN q0];repeat refine AI ?_
   refine hK' _ _ ?_;clear hK' K';simp only[sE,↓reduceIte,simprocAttr];repeat refine AI ?_
   refine hK _ _ _ ?_;clear hK K;refine aQ (b:=!(l[0]==tB)) rfl (fun hb=>?_) (fun hb=>?_)
   ·
    refine aD fun K hK=>aC (by kernel_rfl) ?_;simp (maxSteps:=4000000) only[↓sP,sA,tyS,simprocAttr];repeat refine AI ?_
    refine hK _ _ _ ?_;clear hK K;refine aT ?_;simp (maxSteps:=4000000) only[bA,Tryz.results9,aY,aZ,aX,↓sP,sA,tyS,simprocAttr];exact dH (b:=b) (x:=rp0) rfl (fT he (by rw[←hls];exact yS (by simpa using hb)))
   have h0:l[0]=tB:=by simpa using hb
   have hrv:=aG7 h2 h0;clear hb;refine aV ?_;simp (maxSteps:=4000000) only[↓sP,sA,tyS,simprocAttr];repeat refine AI ?_
   refine hK _ _ _ ?_;clear hK K;refine aD fun K hK=>aC (by kernel_rfl) ?_;simp (maxSteps:=4000000) only[↓sP,sA,tyS,simprocAttr];repeat refine AI ?_
   refine hK _ _ _ ?_;clear hK K;refine aD fun K hK=>?_;refine aD fun K hK=>aC (by kernel_rfl) ?_;simp (maxSteps:=4000000) only[↓sP,sA,tyS,simprocAttr];repeat refine AI ?_
   refine hK _ _ _ ?_;clear hK K;refine bE ?_;refine cA (α:={y:Nat×List Dig//DgsSt l y.1 y.2}) (fun y=>(fin [(2,.ptr 0 0),(3,.c (.int .i64 0)),(4,.c (.slc [.slc (l.map .str)])),(6,.ptr 116 0),(41,.c (.int .i64 y.1.1))],fob [(0,.box 27 (.c rp0.cv)),(116,.box 54 (.c (.agg (y.1.2.map dg))))])) 200 (fun y=>3-y.1.1) ⟨(0,[zdg,zdg,zdg]),⟨by omega,rfl,fun j h=>by omega⟩⟩ (aS (by omega) (by simp[bK,fin_at,finA_at,upd_at,HV.men,HV.menL,HV.norm,HV.toC,HV.toCL,rp0,Rp.cv,zd,lsC]) (by simp[bM,fob_at,upd_at,none0_at,bY,HO.men,HV.men,HV.menL,HV.norm,HV.toC,HV.toCL,rp0,Rp.cv,zd,lsC])) ?_;rintro⟨⟨i,D⟩,hst⟩;have hi3:=hst.le;have hD3:=hst.len;simp only at hi3 hD3⊢;refine aD fun K hK=>aC (by kernel_rfl) ?_;simp (maxSteps:=4000000) only[↓sP,sA,tyS,simprocAttr];repeat refine AI ?_
   refine hK _ _ _ ?_;clear hK K;refine aD fun K hK=>?_;refine aQ (b:=decide ((i:Int)<3)) rfl (fun hb=>?_) (fun hb=>?_)
   ·
    have hlt:i<3:=by have:=of_decide_eq_true hb;omega
    have hlD:i<D.length:=by omega
    have q1:1+i<l.length:=by omega
    have hw1:IntKind.i64.wrap (1+(i:Int))=((1+i:Nat):Int):=by rw[IntWalk.i64_in _ (by omega)];omega
    clear hb;refine aV ?_;simp (maxSteps:=4000000) only[↓sP,sA,tyS,simprocAttr];repeat refine AI ?_
    refine hK _ _ _ ?_;clear hK K;refine aD fun K hK=>?_;refine bE ?_;refine aD fun K hK=>aC (by kernel_rfl) ?_;simp (maxSteps:=4000000) only[↓sP,sA,tyS,simprocAttr];repeat refine AI ?_
    refine hK _ _ _ ?_;clear hK K;refine aD fun K hK=>aC (by kernel_rfl) ?_;simp only[sR,simprocAttr];iterate 7
     (refine aB (g:=none) rfl rfl fun K' hK'=>?_;simp only[sH,↓sP,sA,tyS,simprocAttr,List.map_cons,List.map_nil,dU,lsC,Int.toNat_zero,List.length_map,hw1,Int.natCast_nonneg,Int.ofNat_lt,q1,bN q1];(repeat refine AI ?_);refine hK' _ _ ?_;clear hK' K')
    refine aB (g:=none) rfl rfl fun K' hK'=>?_;simp (maxSteps:=4000000) only[sH,↓sP,sA,tyS,simprocAttr,List.map_cons,List.map_nil,dU,lsC,Int.toNat_zero,List.length_map,hw1,Int.natCast_nonneg,Int.ofNat_lt,q1,bN q1];refine cD (args:=[_]) (aM6 l[1+i] (hwl _ q1)) ⟨rfl,rfl,rfl,rfl⟩ ?_;rintro u v ⟨rfl,rfl⟩;repeat refine AI ?_
    refine hK' _ _ ?_;clear hK' K';iterate 6
     (refine aB (g:=none) rfl rfl fun K' hK'=>?_;simp only[sH,↓sP,sA,tyS,simprocAttr,List.map_cons,List.map_nil,dU,lsC,Int.toNat_zero,List.length_map,hw1,Int.natCast_nonneg,Int.ofNat_lt,q1,bN q1];(repeat refine AI ?_);refine hK' _ _ ?_;clear hK' K')
    simp only[sE,↓reduceIte,simprocAttr];repeat refine AI ?_
    refine hK _ _ _ ?_;clear hK K;refine aD fun K hK=>?_;refine aD fun K hK=>aC (by kernel_rfl) ?_;simp (maxSteps:=4000000) only[↓sP,sA,tyS,simprocAttr];repeat refine AI ?_
    refine hK _ _ _ ?_;clear hK K;refine aQ (b:=!(dT l[1+i]).isSome) rfl (fun hb=>?_) (fun hb=>?_)
    ·
     refine aD fun K hK=>aC (by kernel_rfl) ?_;simp (maxSteps:=4000000) only[↓sP,sA,tyS,simprocAttr];repeat refine AI ?_
     refine hK _ _ _ ?_;clear hK K;refine aT ?_;simp (maxSteps:=4000000) only[bA,Tryz.results9,aY,aZ,aX,↓sP,sA,tyS,simprocAttr];have hn:(dT (wd l (1+i))).isSome=false:=by rw[pO q1];exact bA8 hb
     exact dH (b:=b) (x:=rp0) rfl (fT he (by
      rw[←hls,hrv];refine rpW_none ?_;obtain rfl|rfl|rfl:i=0∨i=1∨i=2:=by omega
      · exact .inl hn
      · exact .inr (.inl hn)
      exact .inr (.inr (.inl hn))))
    obtain⟨d,hd⟩:=Option.isSome_iff_exists.1 (bA9 hb);rw[hd];clear hb;refine aV ?_;simp (maxSteps:=4000000) only[↓sP,sA,tyS,simprocAttr];repeat refine AI ?_
    refine hK _ _ _ ?_;clear hK K;refine aC (by kernel_rfl) ?_;simp only[sR,simprocAttr];iterate 4
     (refine aB (g:=none) rfl rfl fun K' hK'=>?_;simp only[sH,↓sP,sA,tyS,simprocAttr,aV8 D i hlD hD3,aN8,Option.getD_some,Int.natCast_nonneg];(repeat refine AI ?_);refine hK' _ _ ?_;clear hK' K')
    simp only[sE,↓reduceIte,simprocAttr];repeat refine AI ?_
    refine hK _ _ _ ?_;clear hK K;refine aC (by kernel_rfl) ?_;simp (maxSteps:=4000000) only[↓sP,sA,tyS,simprocAttr,IntWalk.i64_in _ (show-9223372036854775808≤(i:Int)+1∧(i:Int)+1≤9223372036854775807 by omega)];refine⟨⟨(i+1,D.set i d),⟨by show i+1≤3;omega,by rw[List.length_set];exact hD3,fun j hj=>?_⟩⟩,(aS (by omega) (by simp[bK,fin_at,finA_at,upd_at,HV.men,HV.menL,HV.norm,HV.toC,HV.toCL,yU]) (by simp[bM,fob_at,upd_at,none0_at,bY,HO.men,HV.men,HV.menL,HV.norm,HV.toC,HV.toCL,yU])),?_⟩
    ·
     rw[List.getD_eq_getElem?_getD,List.getElem?_set];by_cases e:i=j
     · subst e;rw[if_pos rfl,if_pos (by omega),pO q1,hd];rfl
     rw[if_neg e,←List.getD_eq_getElem?_getD];exact hst.dig j (by have:j<i+1:=hj;omega)
    show 3-(i+1)<3-i;omega
   have hi:i=3:=by have:=of_decide_eq_false hb;omega
   subst hi;obtain⟨x,y,z,rfl⟩: ∃x y z,D=[x,y,z]:=by
    match D,hD3 with
    |[x,y,z],_=>exact⟨x,y,z,rfl⟩
   have g1:dT (wd l 1)=some x:=hst.dig 0 (by omega);have g2:dT (wd l 2)=some y:=hst.dig 1 (by omega);have g3:dT (wd l 3)=some z:=hst.dig 2 (by omega);clear hb;refine bW ?_;simp (maxSteps:=4000000) only[↓sP,sA,tyS,simprocAttr];clear hK K;repeat refine AI ?_
   refine hK _ _ _ ?_;clear hK K;refine aD fun K hK=>aC (by kernel_rfl) ?_;simp only[sR,simprocAttr];iterate 5
    (refine aB (g:=none) rfl rfl fun K' hK'=>?_;simp only[sH,↓sP,sA,tyS,simprocAttr,List.map_cons,List.map_nil,dU,lsC,Int.toNat_zero,List.length_map,h2,bN q4];(repeat refine AI ?_);refine hK' _ _ ?_;clear hK' K')
   refine aB (g:=none) rfl rfl fun K' hK'=>?_;simp (maxSteps:=4000000) only[sH,↓sP,sA,tyS,simprocAttr,List.map_cons,List.map_nil,dU,lsC,Int.toNat_zero,List.length_map,h2,bN q4];refine cD (args:=[_]) (aZ7 l[4]) ⟨rfl,rfl,rfl,rfl⟩ ?_;rintro u v ⟨rfl,rfl⟩;repeat refine AI ?_
   refine hK' _ _ ?_;clear hK' K';iterate 5
    (refine aB (g:=none) rfl rfl fun K' hK'=>?_;simp only[sH,↓sP,sA,tyS,simprocAttr,List.map_cons,List.map_nil,dU,lsC,Int.toNat_zero,List.length_map,h2,bN q4];(repeat refine AI ?_);refine hK' _ _ ?_;clear hK' K')
   simp only[sE,↓reduceIte,simprocAttr];repeat refine AI ?_
   refine hK _ _ _ ?_;clear hK K;refine aD fun K hK=>?_;refine aD fun K hK=>aC (by kernel_rfl) ?_;simp (maxSteps:=4000000) only[↓sP,sA,tyS,simprocAttr];repeat refine AI ?_
   refine hK _ _ _ ?_;clear hK K;refine aQ (b:=!(eY l[4]).isSome) rfl (fun hb=>?_) (fun hb=>?_)
   ·
    refine aD fun K hK=>aC (by kernel_rfl) ?_;simp (maxSteps:=4000000) only[↓sP,sA,tyS,simprocAttr];repeat refine AI ?_
    refine hK _ _ _ ?_;clear hK K;refine aT ?_;simp (maxSteps:=4000000) only[bA,Tryz.results9,aY,aZ,aX,↓sP,sA,tyS,simprocAttr];exact dH (b:=b) (x:=rp0) rfl (fT he (by rw[←hls,hrv];exact rpW_none (.inr (.inr (.inr (by rw[e4];exact bA8 hb))))))
   obtain⟨n,hn⟩:=Option.isSome_iff_exists.1 (bA9 hb);rw[hn];have hrp:rpV (fS b)=some ⟨x,y,z,n⟩:=by
    rw[←hls,hrv,yT (by rw[g1];rfl) (by rw[g2];rfl) (by rw[g3];rfl) (by rw[e4,hn];rfl),g1,g2,g3,e4,hn];rfl
   clear hb;refine aV ?_;simp (maxSteps:=4000000) only[↓sP,sA,tyS,simprocAttr];repeat refine AI ?_
   refine hK _ _ _ ?_;clear hK K;refine aD fun K hK=>aC (by kernel_rfl) ?_;simp only[sR,simprocAttr];iterate 11
    (refine aB (g:=none) rfl rfl fun K' hK'=>?_;simp only[sH,↓sP,sA,tyS,simprocAttr,List.map_cons,List.map_nil,Option.getD_some,dg_cells,dg_getAt];(repeat refine AI ?_);refine hK' _ _ ?_;clear hK' K')
   simp only[sE,↓reduceIte,simprocAttr];repeat refine AI ?_
   refine hK _ _ _ ?_;clear hK K;refine aD fun K hK=>?_;refine aD fun K hK=>aC (by kernel_rfl) ?_;simp only[sR,simprocAttr];refine aB (g:=none) rfl rfl fun K' hK'=>?_;simp (maxSteps:=4000000) only[sH,↓sP,sA,tyS,simprocAttr];repeat refine AI ?_
   refine hK' _ _ ?_;clear hK' K';refine aB (g:=none) rfl rfl fun K' hK'=>?_;simp (maxSteps:=4000000) only[sH,↓sP,sA,tyS,simprocAttr];refine bH (args:=[Rp.cv ⟨_,_,_,_⟩]) (oU _) ⟨rfl,rfl,rfl,rfl⟩ ?_;rintro u rfl;repeat refine AI ?_
   refine hK' _ _ ?_;clear hK' K';refine aB (g:=none) rfl rfl fun K' hK'=>?_;simp (maxSteps:=4000000) only[sH,↓sP,sA,tyS,simprocAttr];repeat refine AI ?_
   refine hK' _ _ ?_;clear hK' K';simp only[sE,↓reduceIte,simprocAttr];repeat refine AI ?_
   refine hK _ _ _ ?_;clear hK K;refine aQ (b:=_) rfl (fun hb=>?_) (fun hb=>?_)
   ·
    refine aD fun K hK=>aC (by kernel_rfl) ?_;simp (maxSteps:=4000000) only[↓sP,sA,tyS,simprocAttr];repeat refine AI ?_
    refine hK _ _ _ ?_;clear hK K;refine aT ?_;simp (maxSteps:=4000000) only[bA,Tryz.results9,aY,aZ,aX,↓sP,sA,tyS,simprocAttr];exact dH (b:=b) (x:=rp0) rfl (aV7 he hrp (bA8 hb))
   refine aV ?_;simp (maxSteps:=4000000) only[↓sP,sA,tyS,simprocAttr];repeat refine AI ?_
   refine hK _ _ _ ?_;clear hK K;refine aD fun K hK=>aC (by kernel_rfl) ?_;simp (maxSteps:=4000000) only[↓sP,sA,tyS,simprocAttr];repeat refine AI ?_
   refine hK _ _ _ ?_;clear hK K;refine aT ?_;simp (maxSteps:=4000000) only[bA,Tryz.results9,aY,aZ,aX,↓sP,sA,tyS,simprocAttr];exact dH (b:=b) (x:=⟨_,_,_,_⟩) rfl (aG6 he hrp (bA9 hb))
  obtain⟨l,rfl⟩: ∃l,ls=[l]:=List.length_eq_one_iff.1 h1
  replace h2:l.length≠5:=h2
  have hne:((l.length:Int) !=5)=true:=by simp;omega
  refine aD fun K hK=>aC (by kernel_rfl) ?_;simp only[sR,simprocAttr];iterate 4
   (refine aB (g:=none) rfl rfl fun K' hK'=>?_;simp only[sH,↓sP,sA,tyS,simprocAttr,List.length_map,List.map_cons,List.map_nil,dU,lsC,Int.toNat_zero,hne];(repeat refine AI ?_);refine hK' _ _ ?_;clear hK' K')
  iterate 5
   (refine aB (g:=some (25,false)) rfl rfl fun K' hK'=>?_;simp only[sH,↓sP,sA,tyS,simprocAttr,List.length_map,List.map_cons,List.map_nil,dU,lsC,Int.toNat_zero,hne];(repeat refine AI ?_);refine hK' _ _ ?_;clear hK' K')
  iterate 2
   (refine aB (g:=none) rfl rfl fun K' hK'=>?_;simp only[sH,↓sP,sA,tyS,simprocAttr,List.length_map,List.map_cons,List.map_nil,dU,lsC,Int.toNat_zero,hne];(repeat refine AI ?_);refine hK' _ _ ?_;clear hK' K')
  iterate 6
   (refine aB (g:=some (32,false)) rfl rfl fun K' hK'=>?_;simp only[sH,↓sP,sA,tyS,simprocAttr,List.length_map,List.map_cons,List.map_nil,dU,lsC,Int.toNat_zero,hne];(repeat refine AI ?_);refine hK' _ _ ?_;clear hK' K')
  refine aB (g:=none) rfl rfl fun K' hK'=>?_;simp (maxSteps:=4000000) only[sH,↓sP,sA,tyS,simprocAttr,List.length_map,List.map_cons,List.map_nil,dU,lsC,Int.toNat_zero,hne];repeat refine AI ?_
  refine hK' _ _ ?_;clear hK' K';simp only[sE,↓reduceIte,simprocAttr];repeat refine AI ?_
  refine hK _ _ _ ?_;clear hK K;refine aQ (b:=true) rfl (fun hb=>?_) (fun hb=>?_)
  ·
   refine aD fun K hK=>aC (by kernel_rfl) ?_;simp (maxSteps:=4000000) only[↓sP,sA,tyS,simprocAttr];repeat refine AI ?_
   refine hK _ _ _ ?_;clear hK K;refine aT ?_;simp (maxSteps:=4000000) only[bA,Tryz.results9,aY,aZ,aX,↓sP,sA,tyS,simprocAttr];exact dH (b:=b) (x:=rp0) rfl (fT he (by rw[←hls];exact yR h2))
  cases hb
 have hne:((ls.length:Int) !=1)=true:=by simp;omega
 refine aD fun K hK=>aC (by kernel_rfl) ?_;simp only[sR,simprocAttr];iterate 4
  (refine aB (g:=none) rfl rfl fun K' hK'=>?_;simp only[sH,↓sP,sA,tyS,simprocAttr,List.length_map,hne];(repeat refine AI ?_);refine hK' _ _ ?_;clear hK' K')
 iterate 5
  (refine aB (g:=some (25,false)) rfl rfl fun K' hK'=>?_;simp only[sH,↓sP,sA,tyS,simprocAttr,List.length_map,hne];(repeat refine AI ?_);refine hK' _ _ ?_;clear hK' K')
 iterate 2
  (refine aB (g:=none) rfl rfl fun K' hK'=>?_;simp only[sH,↓sP,sA,tyS,simprocAttr,List.length_map,hne];(repeat refine AI ?_);refine hK' _ _ ?_;clear hK' K')
 iterate 6
  (refine aB (g:=some (32,false)) rfl rfl fun K' hK'=>?_;simp only[sH,↓sP,sA,tyS,simprocAttr,List.length_map,hne];(repeat refine AI ?_);refine hK' _ _ ?_;clear hK' K')
 refine aB (g:=none) rfl rfl fun K' hK'=>?_;simp (maxSteps:=4000000) only[sH,↓sP,sA,tyS,simprocAttr,List.length_map,hne];repeat refine AI ?_
 refine hK' _ _ ?_;clear hK' K';simp only[sE,↓reduceIte,simprocAttr];repeat refine AI ?_
 refine hK _ _ _ ?_;clear hK K;refine aQ (b:=true) rfl (fun hb=>?_) (fun hb=>?_)
 ·
  refine aD fun K hK=>aC (by kernel_rfl) ?_;simp (maxSteps:=4000000) only[↓sP,sA,tyS,simprocAttr];repeat refine AI ?_
  refine hK _ _ _ ?_;clear hK K;refine aT ?_;simp (maxSteps:=4000000) only[bA,Tryz.results9,aY,aZ,aX,↓sP,sA,tyS,simprocAttr];exact dH (b:=b) (x:=rp0) rfl (fT he (by rw[←hls];exact aG8 h1))
 cases hb
set_option maxHeartbeats 2000000
theorem aC8 (t:Int)(r:Rp):aI4 Tryz.prog 65 2 (.int .i64 t) [r.cv] (fun v=>v= .bool (!(r.at_==t))):=by
 show HFn _ _ [.c r.cv,.ptr 0 0] 1 _ _;refine bI (args:=[.c r.cv,.ptr 0 0]) Tryz.func65 rfl (by kernel_rfl) (oF _ _ [r.cv]) (Nat.le_of_ble_eq_true rfl) ?_;refine aD fun K hK=>aC (by kernel_rfl) ?_;simp (maxSteps:=4000000) only[↓sP,sA,tyS,simprocAttr];repeat refine AI ?_
 refine hK _ _ _ ?_;clear hK K;refine aD fun K hK=>aC (by kernel_rfl) ?_;simp only[sR,simprocAttr];iterate 5
  (refine aB (g:=none) rfl rfl fun K' hK'=>?_;simp only[sH,↓sP,sA,tyS,simprocAttr];(repeat refine AI ?_);refine hK' _ _ ?_;clear hK' K')
 simp only[sE,↓reduceIte,simprocAttr];repeat refine AI ?_
 refine hK _ _ _ ?_;clear hK K;refine aT ?_;simp (maxSteps:=4000000) only[bA,Tryz.results65,aY,aZ,aX,↓sP,sA,tyS,simprocAttr];refine gM [] (.bool (!(r.at_==t))) (.int .i64 t) rfl rfl rfl (by simp) rfl rfl
theorem aN9 (d:Dig)(r:Rp):aI4 Tryz.prog 48 23 (dg d) [r.cv] (fun v=>v= .bool (!(r.o==d))):=by
 show HFn _ _ [.c r.cv,.ptr 0 0] 1 _ _;refine bI (args:=[.c r.cv,.ptr 0 0]) Tryz.func48 rfl (by kernel_rfl) (oF _ _ [r.cv]) (Nat.le_of_ble_eq_true rfl) ?_;refine aD fun K hK=>aC (by kernel_rfl) ?_;simp (maxSteps:=4000000) only[↓sP,sA,tyS,simprocAttr];repeat refine AI ?_
 refine hK _ _ _ ?_;clear hK K;refine aD fun K hK=>aC (by kernel_rfl) ?_;simp only[sR,simprocAttr];iterate 6
  (refine aB (g:=none) rfl rfl fun K' hK'=>?_;simp only[sH,↓sP,sA,tyS,simprocAttr];(repeat refine AI ?_);refine hK' _ _ ?_;clear hK' K')
 simp only[sE,↓reduceIte,simprocAttr];repeat refine AI ?_
 refine hK _ _ _ ?_;clear hK K;refine aT ?_;simp (maxSteps:=4000000) only[bA,Tryz.results48,aY,aZ,aX,↓sP,sA,tyS,simprocAttr];refine gM [] (.bool (!(r.o==d))) (dg d) rfl rfl (by simp[HV.close,HV.norm,HV.toC,dg_denil]) (by simp) rfl rfl
variable {p:Rp→Bool}{v:CV}{T:TypeId}{g:FuncId}
theorem yV (hp: ∀r:Rp,aI4 Tryz.prog g T v [r.cv] (fun u=>u= .bool (p r)))(hv:v.denil=v)(l:List Rp)(hl:l.length<2^40):aQ1 Tryz.prog 66 g T v (l.map Rp.cv) (fun u=>u= .int .i64 (lQ p l)):=by
 show HFn _ _ [.c (.slc (l.map Rp.cv)),.clo g [.ptr 0 0]] 1 _ _;refine bI (args:=[.c (.slc (l.map Rp.cv)),.clo g [.ptr 0 0]]) Tryz.func66 rfl (by kernel_rfl) (oG _ _ _ _) (Nat.le_of_ble_eq_true rfl) ?_;refine aD fun K hK=>aC (by kernel_rfl) ?_;simp (maxSteps:=4000000) only[↓sP,sA,tyS,simprocAttr];repeat refine AI ?_
 refine hK _ _ _ ?_;clear hK K;refine aD fun K hK=>?_;refine aD fun K hK=>aC (by kernel_rfl) ?_;simp (maxSteps:=4000000) only[↓sP,sA,tyS,simprocAttr];repeat refine AI ?_
 refine hK _ _ _ ?_;clear hK K;refine bE ?_;refine cA (α:={i:Nat//i≤l.length∧ ∀x∈l.take i,p x=false}) (fun i=>(fin [(0,.c (.slc (l.map Rp.cv))),(1,.clo g [.ptr 0 0]),(7,.c (.int .i64 l.length)),(8,.c (.int .i64 i.1))],fob [(0,.box T (.c v))])) 24 (fun i=>l.length-i.1) ⟨0,by omega,by simp⟩ (aS (by omega) (by simp[bK,fin_at,finA_at,upd_at,HV.men,HV.menL,HV.norm,HV.toC,HV.toCL]) (by simp[bM,fob_at,upd_at,none0_at,bY,HO.men,HV.men,HV.menL,HV.norm,HV.toC,HV.toCL])) ?_;rintro⟨i,hi,hni⟩;refine aD fun K hK=>aC (by kernel_rfl) ?_;simp (maxSteps:=4000000) only[↓sP,sA,tyS,simprocAttr];repeat refine AI ?_
 refine hK _ _ _ ?_;clear hK K;refine aD fun K hK=>?_;refine aQ (b:=decide ((i:Int)<l.length)) rfl (fun hb=>?_) (fun hb=>?_)
 ·
  have hlt:i<l.length:=by simpa using hb
  refine aV ?_;simp (maxSteps:=4000000) only[↓sP,sA,tyS,simprocAttr];repeat refine AI ?_
  refine hK _ _ _ ?_;clear hK K;refine aD fun K hK=>?_;refine bE ?_;refine aD fun K hK=>aC (by kernel_rfl) ?_;simp (maxSteps:=4000000) only[↓sP,sA,tyS,simprocAttr];repeat refine AI ?_
  refine hK _ _ _ ?_;clear hK K;refine aD fun K hK=>aC (by kernel_rfl) ?_;simp only[sR,simprocAttr];iterate 5
   (refine aB (g:=none) rfl rfl fun K' hK'=>?_;simp only[sH,↓sP,sA,tyS,simprocAttr,Int.natCast_nonneg,Int.ofNat_lt,hlt,bN hlt];(repeat refine AI ?_);refine hK' _ _ ?_;clear hK' K')
  refine aB (g:=none) rfl rfl fun K' hK'=>?_;simp (maxSteps:=4000000) only[sH,↓sP,sA,tyS,simprocAttr,Int.natCast_nonneg,Int.ofNat_lt,hlt,bN hlt];refine xI (args:=[_]) (hp l[i]) rfl (by simp) ⟨rfl,rfl,rfl,rfl⟩ ?_;rintro u rfl;repeat refine AI ?_
  refine hK' _ _ ?_;clear hK' K';simp only[sE,↓reduceIte,simprocAttr];repeat refine AI ?_
  refine hK _ _ _ ?_;clear hK K;refine aQ (b:=p l[i]) rfl (fun hb=>?_) (fun hb=>?_)
  ·
   refine aD fun K hK=>aC (by kernel_rfl) ?_;simp (maxSteps:=4000000) only[↓sP,sA,tyS,simprocAttr];repeat refine AI ?_
   refine hK _ _ _ ?_;clear hK K;refine aT ?_;simp (maxSteps:=4000000) only[bA,Tryz.results66,aY,aZ,aX,↓sP,sA,tyS,simprocAttr];refine gM [] (.int .i64 (lQ p l)) v ?_ rfl (by simp[HV.close,HV.norm,HV.toC,hv]) (by simp) rfl rfl;simp[HV.close,HV.norm,HV.toC,CV.denil,aQ5 hlt hb hni]
  refine aV ?_;simp (maxSteps:=4000000) only[↓sP,sA,tyS,simprocAttr];repeat refine AI ?_
  refine hK _ _ _ ?_;clear hK K;refine aC (by kernel_rfl) ?_;simp (maxSteps:=4000000) only[↓sP,sA,tyS,simprocAttr,IntWalk.i64_in _ (show-9223372036854775808≤(i:Int)+1∧(i:Int)+1≤9223372036854775807 by omega)];refine⟨⟨i+1,hlt,fun x hx=>?_⟩,aS (by omega) (by simp[bK,fin_at,finA_at,upd_at,HV.men,HV.menL,HV.norm,HV.toC,HV.toCL]) (by simp[bM,fob_at,upd_at,none0_at,bY,HO.men,HV.men,HV.menL,HV.norm,HV.toC,HV.toCL]),?_⟩
  ·
   rw[List.take_succ_eq_append_getElem hlt]at hx;rcases List.mem_append.1 hx with hx|hx
   · exact hni x hx
   simp only[List.mem_singleton]at hx;subst hx;exact hb
  show l.length-(i+1)<l.length-i;omega
 refine bW ?_;simp (maxSteps:=4000000) only[↓sP,sA,tyS,simprocAttr];clear hK K;repeat refine AI ?_
 refine hK _ _ _ ?_;clear hK K;refine aD fun K hK=>aC (by kernel_rfl) ?_;simp (maxSteps:=4000000) only[↓sP,sA,tyS,simprocAttr];repeat refine AI ?_
 refine hK _ _ _ ?_;clear hK K;refine aT ?_;simp (maxSteps:=4000000) only[bA,Tryz.results66,aY,aZ,aX,↓sP,sA,tyS,simprocAttr];have hall: ∀x∈l,p x=false:=by
  have:i=l.length:=by simp at hb;omega
  rw[this,List.take_length]at hni;exact hni
 refine gM [] (.int .i64 (lQ p l)) v ?_ rfl (by simp[HV.close,HV.norm,HV.toC,hv]) (by simp) rfl rfl;simp[HV.close,HV.norm,HV.toC,CV.denil,aI7 hall]
theorem yW (hp: ∀r:Rp,aI4 Tryz.prog g T v [r.cv] (fun u=>u= .bool (p r)))(hv:v.denil=v)(l:List Rp)(hl:l.length<2^40):aQ1 Tryz.prog 47 g T v (l.map Rp.cv) (fun u=>u= .bool (l.any p)):=by
 show HFn _ _ [.c (.slc (l.map Rp.cv)),.clo g [.ptr 0 0]] 1 _ _;refine bI (args:=[.c (.slc (l.map Rp.cv)),.clo g [.ptr 0 0]]) Tryz.func47 rfl (by kernel_rfl) (oG _ _ _ _) (Nat.le_of_ble_eq_true rfl) ?_;refine aD fun K hK=>aC (by kernel_rfl) ?_;simp (maxSteps:=4000000) only[↓sP,sA,tyS,simprocAttr];repeat refine AI ?_
 refine hK _ _ _ ?_;clear hK K;refine aD fun K hK=>aC (by kernel_rfl) ?_;simp only[sR,simprocAttr];iterate 2
  (refine aB (g:=none) rfl rfl fun K' hK'=>?_;simp only[sH,↓sP,sA,tyS,simprocAttr,denilL_rp];(repeat refine AI ?_);refine hK' _ _ ?_;clear hK' K')
 refine aB (g:=none) rfl rfl fun K' hK'=>?_;simp (maxSteps:=4000000) only[sH,↓sP,sA,tyS,simprocAttr,denilL_rp];refine xJ (yV hp hv l hl) rfl (by simp) ⟨rfl,rfl,rfl,rfl⟩ ?_;rintro u rfl;repeat refine AI ?_
 refine hK' _ _ ?_;clear hK' K';iterate 2
  (refine aB (g:=none) rfl rfl fun K' hK'=>?_;simp only[sH,↓sP,sA,tyS,simprocAttr,denilL_rp];(repeat refine AI ?_);refine hK' _ _ ?_;clear hK' K')
 simp only[sE,↓reduceIte,simprocAttr];repeat refine AI ?_
 refine hK _ _ _ ?_;clear hK K;refine aT ?_;simp (maxSteps:=4000000) only[bA,Tryz.results47,aY,aZ,aX,↓sP,sA,tyS,simprocAttr];refine gM [] (.bool (l.any p)) v ?_ rfl (by simp[HV.close,HV.norm,HV.toC,hv]) (by simp) rfl rfl;have:decide (0≤lQ p l)=l.any p:=by
  rw[Bool.eq_iff_iff,decide_eq_true_eq,aX7]
 simp[HV.close,HV.norm,HV.toC,CV.denil,this]
theorem aO0 (hp: ∀r:Rp,aI4 Tryz.prog g T v [r.cv] (fun u=>u= .bool (p r)))(hv:v.denil=v)(hf:v.flatv=true)(l:List Rp)(hl:l.length<2^40):
  bG7 Tryz.prog 64 g T v 27 97 (l.map Rp.cv) (fun u=>u= .slc ((l.filter fun x=>!p x).map Rp.cv)):=by
 show HFn _ _ [.own 0 (l.map Rp.cv).length,.clo g [.ptr 1 0]] 2 _ _;rw[List.length_map];refine bI (args:=[.own 0 l.length,.clo g [.ptr 1 0]]) Tryz.func64 rfl (by kernel_rfl) (tT g T v _ _ l.length _) (Nat.le_of_ble_eq_true rfl) ?_;refine aD fun K hK=>aC (by kernel_rfl) ?_;simp (maxSteps:=4000000) only[↓sP,sA,tyS,simprocAttr];repeat refine AI ?_
 refine hK _ _ _ ?_;clear hK K;refine aD fun K hK=>aC (by kernel_rfl) ?_;simp only[sR,simprocAttr];iterate 2
  (refine aB (g:=none) rfl rfl fun K' hK'=>?_;simp only[sH,↓sP,sA,tyS,simprocAttr];(repeat refine AI ?_);refine hK' _ _ ?_;clear hK' K')
 refine aB (g:=none) rfl rfl fun K' hK'=>?_;simp (maxSteps:=4000000) only[sH,↓sP,sA,tyS,simprocAttr];refine xL (yV hp hv l hl) hf rfl rfl (by simp) (by simp) ⟨rfl,rfl,rfl,rfl⟩ ?_;rintro u rfl;repeat refine AI ?_
 refine hK' _ _ ?_;clear hK' K';refine aB (g:=none) rfl rfl fun K' hK'=>?_;simp (maxSteps:=4000000) only[sH,↓sP,sA,tyS,simprocAttr];repeat refine AI ?_
 refine hK' _ _ ?_;clear hK' K';simp only[sE,↓reduceIte,simprocAttr];repeat refine AI ?_
 refine hK _ _ _ ?_;clear hK K;refine aD fun K hK=>?_;refine aD fun K hK=>aC (by kernel_rfl) ?_;simp (maxSteps:=4000000) only[↓sP,sA,tyS,simprocAttr];repeat refine AI ?_
 refine hK _ _ _ ?_;clear hK K;refine aQ (b:=lQ p l== -1) rfl (fun hb=>?_) (fun hb=>?_)
 ·
  refine aD fun K hK=>aC (by kernel_rfl) ?_;simp (maxSteps:=4000000) only[↓sP,sA,tyS,simprocAttr];repeat refine AI ?_
  refine hK _ _ _ ?_;clear hK K;refine aT ?_;simp (maxSteps:=4000000) only[bA,Tryz.results64,aY,aZ,aX,↓sP,sA,tyS,simprocAttr];have hall: ∀x∈l,p x=false:=by
   rcases rH p l with⟨_,h⟩|⟨i,hi,h,_⟩
   · exact h
   rw[h]at hb;simp at hb
  refine xH [0] (.slc (l.map Rp.cv)) v ?_ rfl (by simp[HV.close,HV.norm,HV.toC,hv]) (by simp) ?_
  · simp[HV.close,HV.norm,HV.toC,fob_at]
  rw[List.filter_eq_self.2 (fun x hx=>by simp[hall x hx])]
 obtain⟨i0,hi0,hix,hpi,hni⟩: ∃(i:Nat) (hi:i<l.length),lQ p l=i∧p l[i]=true∧ ∀x∈l.take i,p x=false:=by
  rcases rH p l with⟨h,_⟩|h
  · rw[h]at hb;simp at hb
  exact h
 simp only[hix];refine aV ?_;simp (maxSteps:=4000000) only[↓sP,sA,tyS,simprocAttr];repeat refine AI ?_
 refine hK _ _ _ ?_;clear hK K;refine aD fun K hK=>?_;refine aD fun K hK=>aC (by kernel_rfl) ?_;simp (maxSteps:=4000000) only[↓sP,sA,tyS,simprocAttr,IntWalk.i64_in _ (show-9223372036854775808≤(i0:Int)+1∧(i0:Int)+1≤9223372036854775807 by omega)];repeat refine AI ?_
 refine hK _ _ _ ?_;clear hK K;refine bE ?_;refine cA (α:={x:Nat×Nat×List Rp//x.2.2.length=l.length∧x.1<x.2.1∧x.2.1≤l.length∧x.2.2.take x.1=(l.take x.2.1).filter (fun x=>!p x)∧x.2.2.drop x.2.1=l.drop x.2.1}) (fun x=>(fin [(0,.own 0 l.length),(1,.clo g [.ptr 1 0]),(5,.c (.int .i64 x.1.1)),(6,.c (.int .i64 x.1.2.1))],fob [(0,.row 27 97 (x.1.2.2.map Rp.cv)),(1,.box T (.c v))])) 100 (fun x=>l.length-x.1.2.1) ⟨(i0,i0+1,l),rfl,by simp,by simp;omega,?_,rfl⟩ (aS (by omega) (by simp[bK,fin_at,finA_at,upd_at,HV.men,HV.menL,HV.norm,HV.toC,HV.toCL]) (by simp[bM,fob_at,upd_at,none0_at,bY,HO.men,HV.men,HV.menL,HV.norm,HV.toC,HV.toCL])) ?_
 · simp only;rw[List.take_succ_eq_append_getElem hi0,List.filter_append,List.filter_eq_self.2 (fun x hx=>by simp[hni x hx])];simp[hpi]
 rintro⟨⟨i,j,r⟩,hr,hij,hj,h1,h2⟩;simp only at hr hij hj h1 h2⊢;have hrl:(r.map Rp.cv).length=l.length:=by rw[List.length_map,hr]
 refine aD fun K hK=>?_;refine aD fun K hK=>aC (by kernel_rfl) ?_;simp only[sR,simprocAttr];iterate 4
  (refine aB (g:=none) rfl rfl fun K' hK'=>?_;simp only[sH,↓sP,sA,tyS,simprocAttr,hr];(repeat refine AI ?_);refine hK' _ _ ?_;clear hK' K')
 simp only[sE,↓reduceIte,simprocAttr];repeat refine AI ?_
 refine hK _ _ _ ?_;clear hK K;refine aQ (b:=decide ((j:Int)<l.length)) rfl (fun hb=>?_) (fun hb=>?_)
 ·
  have hlt:j<l.length:=by simpa using hb
  obtain⟨hrj,hyes,hno⟩:=aQ6 hr hij hlt h1 h2;have hjr:j<r.length:=by omega
  have hir:i<r.length:=by omega
  refine aV ?_;simp (maxSteps:=4000000) only[↓sP,sA,tyS,simprocAttr];repeat refine AI ?_
  refine hK _ _ _ ?_;clear hK K;refine aD fun K hK=>?_;have key: ∀(i':Nat) (r':List Rp) fr ob nx,r'.length=l.length→i'<j+1→r'.take i'=(l.take (j+1)).filter (fun x=>!p x)→r'.drop (j+1)=l.drop (j+1)→Fits 2 fr ob (fin [(0,.own 0 l.length),(1,.clo g [.ptr 1 0]),(5,.c (.int .i64 i')),(6,.c (.int .i64 j))]) (fob [(0,.row 27 97 (r'.map Rp.cv)),(1,.box T (.c v))]) 300→K fr ob nx:=by
   rintro i' r' fr ob nx g1 g2 g3 g4 hf;refine hK _ _ _ (cN hf ?_);clear hf hK K;refine aC (by kernel_rfl) ?_;simp (maxSteps:=4000000) only[↓sP,sA,tyS,simprocAttr,IntWalk.i64_in _ (show-9223372036854775808≤(j:Int)+1∧(j:Int)+1≤9223372036854775807 by omega)];refine⟨⟨(i',j+1,r'),g1,g2,hlt,g3,g4⟩,aS (by omega) (by simp[bK,fin_at,finA_at,upd_at,HV.men,HV.menL,HV.norm,HV.toC,HV.toCL]) (by simp[bM,fob_at,upd_at,none0_at,bY,HO.men,HV.men,HV.menL,HV.norm,HV.toC,HV.toCL]),?_⟩;show l.length-(j+1)<l.length-j;omega
  refine bE ?_;refine aD fun K hK=>aC (by kernel_rfl) ?_;simp only[sR,simprocAttr];iterate 6
   (refine aB (g:=none) rfl rfl fun K' hK'=>?_;simp only[sH,↓sP,sA,tyS,simprocAttr,Int.natCast_nonneg,Int.ofNat_lt,hlt,hr,bN hjr,hrj];(repeat refine AI ?_);refine hK' _ _ ?_;clear hK' K')
  simp only[sE,↓reduceIte,simprocAttr];repeat refine AI ?_
  refine hK _ _ _ ?_;clear hK K;refine aD fun K hK=>aC (by kernel_rfl) ?_;simp only[sR,simprocAttr];iterate 2
   (refine aB (g:=none) rfl rfl fun K' hK'=>?_;simp only[sH,↓sP,sA,tyS,simprocAttr];(repeat refine AI ?_);refine hK' _ _ ?_;clear hK' K')
  refine aB (g:=none) rfl rfl fun K' hK'=>?_;simp (maxSteps:=4000000) only[sH,↓sP,sA,tyS,simprocAttr];refine xI (args:=[_]) (hp l[j]) rfl (by simp) ⟨rfl,rfl,rfl,rfl⟩ ?_;rintro u rfl;repeat refine AI ?_
  refine hK' _ _ ?_;clear hK' K';refine aB (g:=none) rfl rfl fun K' hK'=>?_;simp (maxSteps:=4000000) only[sH,↓sP,sA,tyS,simprocAttr];repeat refine AI ?_
  refine hK' _ _ ?_;clear hK' K';simp only[sE,↓reduceIte,simprocAttr];repeat refine AI ?_
  refine hK _ _ _ ?_;clear hK K;refine aQ (b:=!p l[j]) rfl (fun hb=>?_) (fun hb=>?_)
  ·
   refine aD fun K hK=>aC (by kernel_rfl) ?_;simp only[sR,simprocAttr];iterate 5
    (refine aB (g:=none) rfl rfl fun K' hK'=>?_;simp only[sH,↓sP,sA,tyS,simprocAttr,Int.natCast_nonneg,Int.ofNat_lt,hir,hr,bN hir,show i<l.length by omega,Rp.setAll,←List.map_set];(repeat refine AI ?_);refine hK' _ _ ?_;clear hK' K')
   simp only[sE,↓reduceIte,simprocAttr];repeat refine AI ?_
   refine hK _ _ _ ?_;clear hK K;refine aC (by kernel_rfl) ?_;simp (maxSteps:=4000000) only[↓sP,sA,tyS,simprocAttr,IntWalk.i64_in _ (show-9223372036854775808≤(i:Int)+1∧(i:Int)+1≤9223372036854775807 by omega)];obtain⟨k1,k2⟩:=hno (by simpa using hb);exact key (i+1) (r.set i l[j]) _ _ _ (by simp[hr]) (by omega) k1 k2 (aS (by omega) (by simp[bK,fin_at,finA_at,upd_at,HV.men,HV.menL,HV.norm,HV.toC,HV.toCL]) (by simp[bM,fob_at,upd_at,none0_at,bY,HO.men,HV.men,HV.menL,HV.norm,HV.toC,HV.toCL]))
  refine aV ?_;simp (maxSteps:=4000000) only[↓sP,sA,tyS,simprocAttr];obtain⟨k1,k2⟩:=hyes (by simpa using hb);exact key i r _ _ _ hr (by omega) k1 k2 (aS (by omega) (by simp[bK,fin_at,finA_at,upd_at,HV.men,HV.menL,HV.norm,HV.toC,HV.toCL]) (by simp[bM,fob_at,upd_at,none0_at,bY,HO.men,HV.men,HV.menL,HV.norm,HV.toC,HV.toCL]))
 have hjl:j=l.length:=by simp at hb;omega
 subst hjl;rw[List.take_length]at h1;refine bW ?_;simp (maxSteps:=4000000) only[↓sP,sA,tyS,simprocAttr];clear hK K;repeat refine AI ?_
 refine hK _ _ _ ?_;clear hK K;refine aD fun K hK=>aC (by kernel_rfl) ?_;simp only[sR,simprocAttr];iterate 4
  (refine aB (g:=none) rfl rfl fun K' hK'=>?_;simp only[sH,↓sP,sA,tyS,simprocAttr,hr];(repeat refine AI ?_);refine hK' _ _ ?_;clear hK' K')
 simp only[sE,↓reduceIte,simprocAttr];repeat refine AI ?_
 refine hK _ _ _ ?_;clear hK K;refine aD fun K hK=>aC (by kernel_rfl) ?_;simp only[sR,simprocAttr];iterate 4
  (refine aB (g:=none) rfl rfl fun K' hK'=>?_;simp only[sH,↓sP,sA,tyS,simprocAttr,hr];(repeat refine AI ?_);refine hK' _ _ ?_;clear hK' K')
 simp only[sE,↓reduceIte,simprocAttr];repeat refine AI ?_
 refine hK _ _ _ ?_;clear hK K;refine aT ?_;simp (maxSteps:=4000000) only[bA,Tryz.results64,aY,aZ,aX,↓sP,sA,tyS,simprocAttr];refine xH [0] (.slc ((r.take i).map Rp.cv)) v ?_ rfl (by simp[HV.close,HV.norm,HV.toC,hv]) (by simp) (by rw[h1]);simp[HV.close,HV.norm,fob_at];rw[if_pos ⟨by omega,by omega,by omega⟩];show HV.c (CV.slc _)=_;rw[List.take_append_of_le_length (by simp;omega),List.take_take,Nat.min_self]
theorem aO1 (l:List Rp)(h0:l≠[])(hl:l.length<2^40):aQ2 Tryz.prog 46 27 97 (l.map Rp.cv) (fun u=>u= .slc ((cZ l).map Rp.cv)):=by
 show HFn _ _ [.own 0 (l.map Rp.cv).length] 1 _ _;rw[List.length_map];have hpos:0<l.length:=List.length_pos_iff.2 h0;refine bI (args:=[.own 0 l.length]) Tryz.func46 rfl (by kernel_rfl) (rF _ _ l.length _) (Nat.le_of_ble_eq_true rfl) ?_;refine aD fun K hK=>aC (by kernel_rfl) ?_;simp (maxSteps:=4000000) only[↓sP,sA,tyS,simprocAttr];repeat refine AI ?_
 refine hK _ _ _ ?_;clear hK K;refine aD fun K hK=>aC (by kernel_rfl) ?_;simp only[sR,simprocAttr];iterate 6
  (refine aB (g:=none) rfl rfl fun K' hK'=>?_;simp only[sH,↓sP,sA,tyS,simprocAttr,hpos,Int.toNat_zero,bN hpos];(repeat refine AI ?_);refine hK' _ _ ?_;clear hK' K')
 simp only[sE,↓reduceIte,simprocAttr];repeat refine AI ?_
 refine hK _ _ _ ?_;clear hK K;refine aD fun K hK=>?_;refine aD fun K hK=>aC (by kernel_rfl) ?_;simp (maxSteps:=4000000) only[↓sP,sA,tyS,simprocAttr];repeat refine AI ?_
 refine hK _ _ _ ?_;clear hK K;refine bE ?_;refine cA (α:={i:Nat//i≤l.length}) (fun i=>(fin [(0,.own 0 l.length),(3,.ptr 21 0),(10,.own 0 l.length),(11,.c (.int .i64 l.length)),(12,.c (.int .i64 i.1))],fob [(0,.row 27 97 (l.map Rp.cv)),(21,.box 2 (.c (.int .i64 (fV l[0].at_ (l.take i.1)))))])) 60 (fun i=>l.length-i.1) ⟨0,by omega⟩ (aS (by omega) (by simp[bK,fin_at,finA_at,upd_at,HV.men]) (by simp[bM,fob_at,upd_at,none0_at,HO.men,HV.men,fV])) ?_;rintro⟨i,hi⟩;refine aD fun K hK=>aC (by kernel_rfl) ?_;simp (maxSteps:=4000000) only[↓sP,sA,tyS,simprocAttr];repeat refine AI ?_
 refine hK _ _ _ ?_;clear hK K;refine aD fun K hK=>?_;refine aQ (b:=decide ((i:Int)<l.length)) rfl (fun hb=>?_) (fun hb=>?_)
 ·
  have hlt:i<l.length:=by simpa using hb
  refine aV ?_;simp (maxSteps:=4000000) only[↓sP,sA,tyS,simprocAttr];repeat refine AI ?_
  refine hK _ _ _ ?_;clear hK K;refine aD fun K hK=>?_;refine bE ?_;refine aD fun K hK=>aC (by kernel_rfl) ?_;simp only[sR,simprocAttr];iterate 4
   (refine aB (g:=none) rfl rfl fun K' hK'=>?_;simp only[sH,↓sP,sA,tyS,simprocAttr,Int.natCast_nonneg,Int.ofNat_lt,hlt,bN hlt];(repeat refine AI ?_);refine hK' _ _ ?_;clear hK' K')
  simp only[sE,↓reduceIte,simprocAttr];repeat refine AI ?_
  refine hK _ _ _ ?_;clear hK K;refine aC (by kernel_rfl) ?_;simp only[sR,simprocAttr];iterate 5
   (refine aB (g:=none) rfl rfl fun K' hK'=>?_;simp only[sH,↓sP,sA,tyS,simprocAttr];(repeat refine AI ?_);refine hK' _ _ ?_;clear hK' K')
  simp only[sE,↓reduceIte,simprocAttr];repeat refine AI ?_
  refine hK _ _ _ ?_;clear hK K;refine aC (by kernel_rfl) ?_;simp (maxSteps:=4000000) only[↓sP,sA,tyS,simprocAttr,IntWalk.i64_in _ (show-9223372036854775808≤(i:Int)+1∧(i:Int)+1≤9223372036854775807 by omega)];refine⟨⟨i+1,hlt⟩,aS (by omega) (by simp[bK,fin_at,finA_at,upd_at,HV.men]) (by simp[bM,fob_at,upd_at,none0_at,HO.men,HV.men,zS _ hlt]),?_⟩;show l.length-(i+1)<l.length-i;omega
 have hil:i=l.length:=by simp at hb;omega
 subst hil;rw[List.take_length];refine bW ?_;simp (maxSteps:=4000000) only[↓sP,sA,tyS,simprocAttr];clear hK K;repeat refine AI ?_
 refine hK _ _ _ ?_;clear hK K;refine aD fun K hK=>aC (by kernel_rfl) ?_;simp only[sR,simprocAttr];iterate 2
  (refine aB (g:=none) rfl rfl fun K' hK'=>?_;simp only[sH,↓sP,sA,tyS,simprocAttr];(repeat refine AI ?_);refine hK' _ _ ?_;clear hK' K')
 refine aB (g:=none) rfl rfl fun K' hK'=>?_;simp (maxSteps:=4000000) only[sH,↓sP,sA,tyS,simprocAttr];refine aQ3 (aO0 (aC8 (fV l[0].at_ l)) rfl rfl l hl) rfl rfl (by simp) (by simp) ⟨rfl,rfl,rfl,rfl⟩ ?_;rintro u rfl;repeat refine AI ?_
 refine hK' _ _ ?_;clear hK' K';refine aB (g:=none) rfl rfl fun K' hK'=>?_;simp (maxSteps:=4000000) only[sH,↓sP,sA,tyS,simprocAttr];repeat refine AI ?_
 refine hK' _ _ ?_;clear hK' K';simp only[sE,↓reduceIte,simprocAttr];repeat refine AI ?_
 refine hK _ _ _ ?_;clear hK K;refine aT ?_;simp (maxSteps:=4000000) only[bA,Tryz.results46,aY,aZ,aX,↓sP,sA,tyS,simprocAttr];refine aI5 [] (.slc ((cZ l).map Rp.cv)) ?_ rfl;simp[HV.close,HV.norm,HV.toC,CV.denil,denilL_rp,zT l hpos]
def rb (s:Int)(a d f:List aU):CV:= .agg [.int .i64 s,.slc (a.map .str),.slc (d.map .str),.slc (f.map .str)]
def sJ (a d:List aU)(need most:Int):Int:=if(most:Int)<d.length then 2 else if need≤(a.length:Int)then 1 else 0
theorem aV9 (s:Int)(a d f:List aU)(need most:Int):cL Tryz.prog 28 [rb s a d f,.int .i64 need,.int .i64 most] (fun v=>v= .int .i64 (sJ a d need most)):=by
  refine bI Tryz.func28 rfl (by kernel_rfl) (bJ _) (Nat.le_of_ble_eq_true rfl) ?_;refine aD fun K hK=>aC (by kernel_rfl) ?_;simp (maxSteps:=4000000) only[↓sP,sA,tyS,simprocAttr,rb];repeat refine AI ?_
  refine hK _ _ _ ?_;clear hK K;refine aD fun K hK=>?_;refine bE ?_;refine aD fun K hK=>aC (by kernel_rfl) ?_;simp only[sR,simprocAttr];iterate 6
    (refine aB (g:=none) rfl rfl fun K' hK'=>?_;simp only[sH,↓sP,sA,tyS,simprocAttr];(repeat refine AI ?_);refine hK' _ _ ?_;clear hK' K')
  simp only[sE,↓reduceIte,simprocAttr];repeat refine AI ?_
  refine hK _ _ _ ?_;clear hK K;refine aQ (b:=decide (most<(d.length:Int))) rfl (fun hb=>?_) (fun hb=>?_)
  · refine aD fun K hK=>aC (by kernel_rfl) ?_
    simp (maxSteps:=4000000) only[↓sP,sA,tyS,simprocAttr];repeat refine AI ?_
    refine hK _ _ _ ?_;clear hK K;refine aT ?_;simp (maxSteps:=4000000) only[bA,Tryz.results28,aY,aZ,aX,↓sP,sA,tyS,simprocAttr];refine bF [] _ rfl ?_;simp at hb;simp[sJ,CV.denil,hb]
  · refine aD fun K hK=>aC (by kernel_rfl) ?_
    simp only[sR,simprocAttr];iterate 6
      (refine aB (g:=none) rfl rfl fun K' hK'=>?_;simp only[sH,↓sP,sA,tyS,simprocAttr];(repeat refine AI ?_);refine hK' _ _ ?_;clear hK' K')
    simp only[sE,↓reduceIte,simprocAttr];repeat refine AI ?_
    refine hK _ _ _ ?_;clear hK K;refine aQ (b:=decide (need≤(a.length:Int))) rfl (fun hb=>?_) (fun hb=>?_)
    · refine aD fun K hK=>aC (by kernel_rfl) ?_
      simp (maxSteps:=4000000) only[↓sP,sA,tyS,simprocAttr];repeat refine AI ?_
      refine hK _ _ _ ?_;clear hK K;refine aT ?_;simp (maxSteps:=4000000) only[bA,Tryz.results28,aY,aZ,aX,↓sP,sA,tyS,simprocAttr];refine bF [] _ rfl ?_;rename_i hb1;simp at hb hb1;simp[sJ,CV.denil,hb,Int.not_lt.2 hb1]
    · refine aV ?_
      simp (maxSteps:=4000000) only[↓sP,sA,tyS,simprocAttr];repeat refine AI ?_
      refine hK _ _ _ ?_;clear hK K;refine aD fun K hK=>aC (by kernel_rfl) ?_;simp (maxSteps:=4000000) only[↓sP,sA,tyS,simprocAttr];repeat refine AI ?_
      refine hK _ _ _ ?_;clear hK K;refine aT ?_;simp (maxSteps:=4000000) only[bA,Tryz.results28,aY,aZ,aX,↓sP,sA,tyS,simprocAttr];refine bF [] _ rfl ?_;rename_i hb1;simp at hb hb1;simp[sJ,CV.denil,Int.not_le.2 hb,Int.not_lt.2 hb1]
def tp (L:List Int)(a:Nat):CV:= .agg [.slc (L.map (.int .i64)),.int .i64 a]
attribute [local simp] tp
theorem qC (L:List Int)(a:Nat)(n:Int)(ha:a<2^40)(hn:n<2^40):aX4 Tryz.prog 12 33 (tp L a) [.int .i64 n] (fun u v'=> ∃(x:Int) (a':Nat),u= .int .i64 x∧v'=tp L a'∧a'≤a+1∧0≤x∧(n<1→x=0)∧(1≤n→x<n)):=by
 refine bI Tryz.func12 rfl (by kernel_rfl) (gF _ _ _) (Nat.le_of_ble_eq_true rfl) ?_;refine aD fun K hK=>aC (by kernel_rfl) ?_;simp (maxSteps:=4000000) only[↓sP,sA,tyS,simprocAttr];repeat refine AI ?_
 refine hK _ _ _ ?_;clear hK K;refine aD fun K hK=>?_;refine aD fun K hK=>aC (by kernel_rfl) ?_;simp (maxSteps:=4000000) only[↓sP,sA,tyS,simprocAttr];repeat refine AI ?_
 refine hK _ _ _ ?_;clear hK K;refine aQ (b:=decide (n<1)) rfl (fun hb=>?_) (fun hb=>?_)
 ·
  refine aD fun K hK=>aC (by kernel_rfl) ?_;simp (maxSteps:=4000000) only[↓sP,sA,tyS,simprocAttr];repeat refine AI ?_
  refine hK _ _ _ ?_;clear hK K;refine aT ?_;simp (maxSteps:=4000000) only[bA,Tryz.results12,aY,aZ,aX,↓sP,sA,tyS,simprocAttr];refine kE [] (.int .i64 0) (tp L a) rfl rfl ?_ (by simp) ⟨0,a,rfl,rfl,by omega,by omega,fun _=>rfl,fun h=>by omega⟩;simp[HV.close,tp,CV.denil,CV.denilL,denilL_int,HV.norm,HV.toC]
 refine aV ?_;simp (maxSteps:=4000000) only[↓sP,sA,tyS,simprocAttr];repeat refine AI ?_
 refine hK _ _ _ ?_;clear hK K;refine aD fun K hK=>aC (by kernel_rfl) ?_;simp only[sR,simprocAttr];iterate 7
  (refine aB (g:=none) rfl rfl fun K' hK'=>?_;simp only[sH,↓sP,sA,tyS,simprocAttr,tp];(repeat refine AI ?_);refine hK' _ _ ?_;clear hK' K')
 simp only[sE,↓reduceIte,simprocAttr];repeat refine AI ?_
 refine hK _ _ _ ?_;clear hK K;refine aD fun K hK=>?_;have key: ∀(v:Int) fr ob nx,Fits 1 fr ob (fin [(0,.ptr 0 0),(1,.c (.int .i64 n)),(5,.c (.int .i64 v))]) (fob [(0,.box 33 (.c (tp L a)))]) 300→K fr ob nx:=by
  intro v fr ob nx hf;refine hK _ _ _ (cN hf ?_);clear hf hK K;have hn1:1≤n:=by simp at hb;omega
  have e0:=Int.tmod_lt_of_pos v (b:=n) (by omega);have e1: -n<v.tmod n:=Int.lt_tmod_of_pos v (by omega);refine aD fun K hK=>aC (by kernel_rfl) ?_;simp only[sR,simprocAttr];iterate 8
   (refine aB (g:=none) rfl rfl fun K' hK'=>?_;simp only[sH,↓sP,sA,tyS,simprocAttr,tp];(repeat refine AI ?_);refine hK' _ _ ?_;clear hK' K')
  simp only[sE,↓reduceIte,simprocAttr];repeat refine AI ?_
  refine hK _ _ _ ?_;clear hK K;refine aD fun K hK=>aC (by kernel_rfl) ?_;simp only[sR,simprocAttr];iterate 8
   (refine aB (g:=none) rfl rfl fun K' hK'=>?_;simp only[sH,↓sP,sA,tyS,simprocAttr,tp];(repeat refine AI ?_);refine hK' _ _ ?_;clear hK' K')
  simp only[sE,↓reduceIte,simprocAttr];repeat refine AI ?_
  refine hK _ _ _ ?_;clear hK K;refine aT ?_;simp (maxSteps:=4000000) only[bA,Tryz.results12,aY,aZ,aX,↓sP,sA,tyS,simprocAttr];have e2:IntKind.i64.wrap (v.tmod n+n)=v.tmod n+n:=IntWalk.i64_in _ (by omega);have e3:IntKind.i64.wrap ((a:Int)+1)=((a+1:Nat):Int):=IntWalk.i64_in _ (by omega);refine kE [] (.int .i64 ((v.tmod n+n).tmod n)) (tp L (a+1)) (by rw[e2];rfl) rfl ?_ (by simp) ⟨_,a+1,rfl,rfl,by omega,Int.tmod_nonneg _ (by omega),fun h=>by omega,fun _=>Int.tmod_lt_of_pos _ (by omega)⟩;simp[HV.close,HV.closeL,tp,CV.denil,CV.denilL,denilL_int,HV.norm,HV.toC,HV.toCL,e3]
 refine aD fun K hK=>qZ mixed (by kernel_rfl) (by kernel_rfl) (by kernel_rfl) ?_;simp only[sR,simprocAttr];iterate 10
  (refine aB (g:=none) rfl rfl fun K' hK'=>?_;simp only[sH,↓sP,sA,tyS,simprocAttr,tp];(repeat refine AI ?_);refine hK' _ _ ?_;clear hK' K')
 simp only[sE,↓reduceIte,simprocAttr];repeat refine AI ?_
 refine hK _ _ _ ?_;clear hK K;refine aQ (b:=decide ((a:Int)<L.length)) rfl (fun hb=>?_) (fun hb=>?_)
 ·
  refine qZ mixed (by kernel_rfl) (by kernel_rfl) (by kernel_rfl) ?_;simp only[sR,simprocAttr];iterate 11
   (refine aB (g:=none) rfl rfl fun K' hK'=>?_;simp only[sH,↓sP,sA,tyS,simprocAttr,tp,Int.natCast_nonneg,(by simpa using hb:(a:Int)<L.length),bN (show a<L.length by simpa using hb)];(repeat refine AI ?_);refine hK' _ _ ?_;clear hK' K')
  simp only[sE,↓reduceIte,simprocAttr];exact key (L[a]'(by simpa using hb)) _ _ _ (aS (by omega) (by simp[bK,fin_at,finA_at,upd_at,HV.men,HV.menL,HV.norm,HV.toC,HV.toCL]) (by simp[bM,fob_at,upd_at,none0_at,bY,HO.men,HV.men,HV.menL,HV.norm,HV.toC,HV.toCL]))
 refine aV ?_;simp (maxSteps:=4000000) only[↓sP,sA,tyS,simprocAttr];exact key (IntKind.i64.wrap (IntKind.i64.wrap (↑a*7)+3)) _ _ _ (aS (by omega) (by simp[bK,fin_at,finA_at,upd_at,HV.men,HV.menL,HV.norm,HV.toC,HV.toCL]) (by simp[bM,fob_at,upd_at,none0_at,bY,HO.men,HV.men,HV.menL,HV.norm,HV.toC,HV.toCL]))
theorem aW0 (L:List Int)(a:Nat)(ha:a<2^40):aX4 Tryz.prog 13 33 (tp L a) [] (fun u v'=> ∃(b:UInt8) (a':Nat),u=dg (dg1 b)∧v'=tp L a'∧a'≤a+1):=by
 refine bI Tryz.func13 rfl (by kernel_rfl) (gF _ _ _) (Nat.le_of_ble_eq_true rfl) ?_;refine aD fun K hK=>aC (by kernel_rfl) ?_;simp (maxSteps:=4000000) only[↓sP,sA,tyS,simprocAttr];repeat refine AI ?_
 refine hK _ _ _ ?_;clear hK K;refine aD fun K hK=>aC (by kernel_rfl) ?_;simp (maxSteps:=4000000) only[↓sP,sA,tyS,simprocAttr];refine gK (args:=[_]) (qC L a 6 ha (by omega)) rfl (by simp) ⟨rfl,rfl,rfl,rfl⟩ ?_;rintro u v' ⟨x,a',rfl,rfl,h1,h2,h3,h4⟩;have e1:IntKind.i64.wrap (1+x)=1+x:=IntWalk.i64_in _ (by omega);have e2:IntKind.u8.wrap (1+x)=1+x:=IntWalk.u8_in _ (by omega);simp only[↓sP,sA,tyS,simprocAttr,e1,e2];repeat refine AI ?_
 refine hK _ _ _ ?_;clear hK K;refine aT ?_;simp (maxSteps:=4000000) only[bA,Tryz.results13,aY,aZ,aX,↓sP,sA,tyS,simprocAttr];refine kE [] (dgi .u8 (1+x)) (tp L a') rfl rfl (by simp[HV.close,HV.closeL,tp,CV.denil,CV.denilL,denilL_int,HV.norm,HV.toC,HV.toCL]) (by simp) ⟨_,a',tR (by omega) (by omega),rfl,h1⟩
attribute [local simp] tp
theorem aO2 (L:List Int)(a:Nat)(ha:a<2^30):aX4 Tryz.prog 4 33 (tp L a) [] (fun u v'=> ∃(p:Rp) (a':Nat),u=p.cv∧0≤p.at_∧p.at_<6∧v'=tp L a'∧a'≤a+4):=by
 refine bI Tryz.func4 rfl (by kernel_rfl) (gF _ _ _) (Nat.le_of_ble_eq_true rfl) ?_;refine aD fun K hK=>aC (by kernel_rfl) ?_;simp (maxSteps:=4000000) only[↓sP,sA,tyS,simprocAttr];repeat refine AI ?_
 refine hK _ _ _ ?_;clear hK K;refine aD fun K hK=>aC (by kernel_rfl) ?_;simp (maxSteps:=4000000) only[↓sP,sA,tyS,simprocAttr];refine gK (args:=[_]) (qC L a 2 (by omega) (by omega)) rfl (by simp) ⟨rfl,rfl,rfl,rfl⟩ ?_;rintro u v' ⟨x,a1,rfl,rfl,h1,h2,h3,h4⟩;have e1:IntKind.i64.wrap (3+x)=3+x:=IntWalk.i64_in _ (by omega);have e2:IntKind.u8.wrap (3+x)=3+x:=IntWalk.u8_in _ (by omega);simp only[↓sP,sA,tyS,simprocAttr,e1,e2];repeat refine AI ?_
 refine hK _ _ _ ?_;clear hK K;refine aD fun K hK=>?_;have key: ∀(s r:CV) (a':Nat) fr ob nx,a'≤a+3→(∃d:Dig,s=dg d)→(∃d:Dig,r=dg d)→Fits 1 fr ob (fin [(0,.ptr 0 0),(2,.ptr 1 0),(3,.ptr 37 0)]) (fob [(0,.box 33 (.c (tp L a'))),(1,.box 27 (.c (.agg [.agg [zd,zd,zd],.int .i64 0]))),(37,.box 25 (.c (.agg [s,r,dgi .u8 (3+x)])))]) 300→K fr ob nx:=by
  rintro s r a' fr ob nx ha' ⟨ds,rfl⟩ ⟨dr,rfl⟩ hf;refine hK _ _ _ (cN hf ?_);clear hf hK K;refine aD fun K hK=>eL mixed [(0,[],[]),(1,[],[]),(2,[],[0]),(3,[],[]),(4,[],[])] [0,0,2,7,15] (by kernel_rfl) (by kernel_rfl) (by kernel_rfl) (by kernel_rfl) rfl (by kernel_rfl) ?_;simp (maxSteps:=4000000) only[↓sP,sA,tyS,simprocAttr];refine gK (args:=[_]) (qC L a' 6 (by omega) (by omega)) rfl (by simp) ⟨rfl,rfl,rfl,rfl⟩ ?_;rintro u v' ⟨z,a4,rfl,rfl,m1,m2,m3,m4⟩;simp only[↓sP,sA,tyS,simprocAttr];repeat refine AI ?_
  refine hK _ _ _ ?_;clear hK K;refine aT ?_;simp (maxSteps:=4000000) only[bA,Tryz.results4,aY,aZ,aX,↓sP,sA,tyS,simprocAttr];refine kE [] (Rp.cv ⟨ds,dr,dg1 (UInt8.ofNat (3+x).toNat),z⟩) (tp L a4) ?_ rfl ?_ (by simp) ⟨_,a4,rfl,m2,m4 (by omega),rfl,by omega⟩
  · simp[HV.close,HV.closeL,CV.denil,CV.denilL,HV.norm,HV.toC,HV.toCL,Rp.cv,dg_denil,dgi_denil,tR (show 0≤3+x by omega) (by omega)]
  simp[HV.close,HV.closeL,tp,CV.denil,CV.denilL,denilL_int,HV.norm,HV.toC,HV.toCL]
 refine aD fun K hK=>aC (by kernel_rfl) ?_;simp (maxSteps:=4000000) only[↓sP,sA,tyS,simprocAttr];refine gK (args:=[_]) (qC L a1 8 (by omega) (by omega)) rfl (by simp) ⟨rfl,rfl,rfl,rfl⟩ ?_;rintro u v' ⟨y,a2,rfl,rfl,g1,g2,g3,g4⟩;try simp only[↓sP,sA,tyS,simprocAttr]
 repeat refine AI ?_
 refine hK _ _ _ ?_;clear hK K;refine bE ?_;refine aD fun K hK=>aC (by kernel_rfl) ?_;simp (maxSteps:=4000000) only[↓sP,sA,tyS,simprocAttr];repeat refine AI ?_
 refine hK _ _ _ ?_;clear hK K;refine aQ (b:=y==0) rfl (fun hb=>?_) (fun hb=>?_)
 · refine aC (by kernel_rfl) ?_;simp (maxSteps:=4000000) only[↓sP,sA,tyS,simprocAttr];refine gK (args:=[]) (aW0 L a2 (by omega)) rfl (by simp) ⟨rfl,rfl,rfl,rfl⟩ ?_;rintro u v' ⟨b,a3,rfl,rfl,k1⟩;simp only[↓sP,sA,tyS,simprocAttr];exact key _ _ a3 _ _ _ (by omega) ⟨dg1 b,rfl⟩ ⟨dg1 2,rfl⟩ (aS (by omega) (by simp[bK,fin_at,finA_at,upd_at,HV.men,HV.menL,HV.norm,HV.toC,HV.toCL]) (by simp[bM,fob_at,upd_at,none0_at,bY,HO.men,HV.men,HV.menL,HV.norm,HV.toC,HV.toCL]))
 refine aD fun K hK=>aC (by kernel_rfl) ?_;simp (maxSteps:=4000000) only[↓sP,sA,tyS,simprocAttr];repeat refine AI ?_
 refine hK _ _ _ ?_;clear hK K;refine aQ (b:=y==1) rfl (fun hb=>?_) (fun hb=>?_)
 · refine aC (by kernel_rfl) ?_;simp (maxSteps:=4000000) only[↓sP,sA,tyS,simprocAttr];refine gK (args:=[]) (aW0 L a2 (by omega)) rfl (by simp) ⟨rfl,rfl,rfl,rfl⟩ ?_;rintro u v' ⟨b,a3,rfl,rfl,k1⟩;simp only[↓sP,sA,tyS,simprocAttr];exact key _ _ a3 _ _ _ (by omega) ⟨dg1 1,rfl⟩ ⟨dg1 b,rfl⟩ (aS (by omega) (by simp[bK,fin_at,finA_at,upd_at,HV.men,HV.menL,HV.norm,HV.toC,HV.toCL]) (by simp[bM,fob_at,upd_at,none0_at,bY,HO.men,HV.men,HV.menL,HV.norm,HV.toC,HV.toCL]))
 refine aV ?_;simp (maxSteps:=4000000) only[↓sP,sA,tyS,simprocAttr];exact key _ _ a2 _ _ _ (by omega) ⟨dg1 1,rfl⟩ ⟨dg1 2,rfl⟩ (aS (by omega) (by simp[bK,fin_at,finA_at,upd_at,HV.men,HV.menL,HV.norm,HV.toC,HV.toCL]) (by simp[bM,fob_at,upd_at,none0_at,bY,HO.men,HV.men,HV.menL,HV.norm,HV.toC,HV.toCL]))
end Go.Proofs.YtflnfidkociekaaGreatDoor
