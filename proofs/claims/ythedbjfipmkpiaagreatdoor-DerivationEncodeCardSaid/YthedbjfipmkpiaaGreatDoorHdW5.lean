/- Part of a proof: walks of functions of the program, by contracts, and the rules they use. By an AI agent. -/
import Derived.Test.YthedbjfipmkpiaaGreatDoorPl28m
import Derived.Test.YthedbjfipmkpiaaGreatDoorHdSb
import Derived.Test.YthedbjfipmkpiaaGreatDoorHdU3
import Derived.Test.YthedbjfipmkpiaaGreatDoorPl18e
set_option linter.unusedSimpArgs false
set_option linter.unusedVariables false
set_option linter.defProp false
namespace Go.Proofs.YthedbjfipmkpiaaGreatDoor
open Go Go.Hl Go.Pl
set_option maxRecDepth 10000
set_option maxHeartbeats 8000000
theorem eF (n:Int):inN n=eJ n:=rfl
def rwK (k:Int):aH:=if k=2 then tC else if k=3 then uN else if k=4 then wV else if k=5 then wW else []
variable {k:Int}
theorem bV8 (h:k≠1):rwK k=wordK k:=by unfold rwK wordK;rw[if_neg h]
theorem bV9 (h:k≠1):(rwK k !=[])=inB k 1 5:=by
 by_cases h1:1≤k∧k≤5
 ·
  obtain rfl|rfl|rfl|rfl:k=2∨k=3∨k=4∨k=5:=by omega
  all_goals decide
 have e1:rwK k=[]:=by
  unfold rwK;rw[if_neg (by omega),if_neg (by omega),if_neg (by omega),if_neg (by omega)]
 have e2:inB k 1 5=false:=by unfold inB;simp;omega
 rw[e1,e2];rfl
theorem xS (k:Int):cK Tryz.prog 86 [.int .i64 k] (fun v=>v= .str (rwK k)):=by
 refine bA Tryz.func86 rfl (by kernel_rfl) (bB _) (Nat.le_of_ble_eq_true rfl) ?_;refine aD fun K hK=>aC (by kernel_rfl) ?_;simp (maxSteps:=4000000) only[↓sP,sA,tyS,simprocAttr];repeat refine AI ?_
 refine hK _ _ _ ?_;clear hK K;refine aD fun K hK=>?_;refine aD fun K hK=>aC (by kernel_rfl) ?_;simp (maxSteps:=4000000) only[↓sP,sA,tyS,simprocAttr];repeat refine AI ?_
 refine hK _ _ _ ?_;clear hK K;refine aL ?_;refine aD fun K hK=>aC (by kernel_rfl) ?_;simp (maxSteps:=4000000) only[↓sP,sA,tyS,simprocAttr];repeat refine AI ?_
 refine hK _ _ _ ?_;clear hK K;refine aF (b:=(k==2)) rfl (fun hb=>?_) (fun hb=>?_)
 ·
  have h2:k=2:=eq_of_beq hb;refine aD fun K hK=>aC (by kernel_rfl) ?_;simp (maxSteps:=4000000) only[↓sP,sA,tyS,simprocAttr];repeat refine AI ?_
  refine hK _ _ _ ?_;clear hK K;refine aJ ?_;simp (maxSteps:=4000000) only[aR,Tryz.results86,aP,aQ,aN,↓sP,sA,tyS,simprocAttr];first|exact aI [] (.str tC) rfl (by rw[rwK,if_pos h2])|exact aI [] (.str uN) rfl (by rw[rwK,if_neg h2,if_pos h3])|exact aI [] (.str wV) rfl (by rw[rwK,if_neg h2,if_neg h3,if_pos h4])|exact aI [] (.str wW) rfl (by rw[rwK,if_neg h2,if_neg h3,if_neg h4,if_pos h5])|exact aI [] (.str []) rfl (by rw[rwK,if_neg h2,if_neg h3,if_neg h4,if_neg h5])
 have h2:k≠2:=by simpa using hb
 refine aD fun K hK=>aC (by kernel_rfl) ?_;simp (maxSteps:=4000000) only[↓sP,sA,tyS,simprocAttr];repeat refine AI ?_
 refine hK _ _ _ ?_;clear hK K;refine aF (b:=(k==3)) rfl (fun hb=>?_) (fun hb=>?_)
 ·
  have h3:k=3:=eq_of_beq hb;refine aD fun K hK=>aC (by kernel_rfl) ?_;simp (maxSteps:=4000000) only[↓sP,sA,tyS,simprocAttr];repeat refine AI ?_
  refine hK _ _ _ ?_;clear hK K;refine aJ ?_;simp (maxSteps:=4000000) only[aR,Tryz.results86,aP,aQ,aN,↓sP,sA,tyS,simprocAttr];first|exact aI [] (.str tC) rfl (by rw[rwK,if_pos h2])|exact aI [] (.str uN) rfl (by rw[rwK,if_neg h2,if_pos h3])|exact aI [] (.str wV) rfl (by rw[rwK,if_neg h2,if_neg h3,if_pos h4])|exact aI [] (.str wW) rfl (by rw[rwK,if_neg h2,if_neg h3,if_neg h4,if_pos h5])|exact aI [] (.str []) rfl (by rw[rwK,if_neg h2,if_neg h3,if_neg h4,if_neg h5])
 have h3:k≠3:=by simpa using hb
 refine aD fun K hK=>aC (by kernel_rfl) ?_;simp (maxSteps:=4000000) only[↓sP,sA,tyS,simprocAttr];repeat refine AI ?_
 refine hK _ _ _ ?_;clear hK K;refine aF (b:=(k==4)) rfl (fun hb=>?_) (fun hb=>?_)
 ·
  have h4:k=4:=eq_of_beq hb;refine aD fun K hK=>aC (by kernel_rfl) ?_;simp (maxSteps:=4000000) only[↓sP,sA,tyS,simprocAttr];repeat refine AI ?_
  refine hK _ _ _ ?_;clear hK K;refine aJ ?_;simp (maxSteps:=4000000) only[aR,Tryz.results86,aP,aQ,aN,↓sP,sA,tyS,simprocAttr];first|exact aI [] (.str tC) rfl (by rw[rwK,if_pos h2])|exact aI [] (.str uN) rfl (by rw[rwK,if_neg h2,if_pos h3])|exact aI [] (.str wV) rfl (by rw[rwK,if_neg h2,if_neg h3,if_pos h4])|exact aI [] (.str wW) rfl (by rw[rwK,if_neg h2,if_neg h3,if_neg h4,if_pos h5])|exact aI [] (.str []) rfl (by rw[rwK,if_neg h2,if_neg h3,if_neg h4,if_neg h5])
 have h4:k≠4:=by simpa using hb
 refine aD fun K hK=>aC (by kernel_rfl) ?_;simp (maxSteps:=4000000) only[↓sP,sA,tyS,simprocAttr];repeat refine AI ?_
 refine hK _ _ _ ?_;clear hK K;refine aF (b:=(k==5)) rfl (fun hb=>?_) (fun hb=>?_)
 ·
  have h5:k=5:=eq_of_beq hb;refine aD fun K hK=>aC (by kernel_rfl) ?_;simp (maxSteps:=4000000) only[↓sP,sA,tyS,simprocAttr];repeat refine AI ?_
  refine hK _ _ _ ?_;clear hK K;refine aJ ?_;simp (maxSteps:=4000000) only[aR,Tryz.results86,aP,aQ,aN,↓sP,sA,tyS,simprocAttr];first|exact aI [] (.str tC) rfl (by rw[rwK,if_pos h2])|exact aI [] (.str uN) rfl (by rw[rwK,if_neg h2,if_pos h3])|exact aI [] (.str wV) rfl (by rw[rwK,if_neg h2,if_neg h3,if_pos h4])|exact aI [] (.str wW) rfl (by rw[rwK,if_neg h2,if_neg h3,if_neg h4,if_pos h5])|exact aI [] (.str []) rfl (by rw[rwK,if_neg h2,if_neg h3,if_neg h4,if_neg h5])
 have h5:k≠5:=by simpa using hb
 refine aK ?_;simp (maxSteps:=4000000) only[↓sP,sA,tyS,simprocAttr];repeat refine AI ?_
 refine hK _ _ _ ?_;clear hK K;refine aD fun K hK=>aC (by kernel_rfl) ?_;simp (maxSteps:=4000000) only[↓sP,sA,tyS,simprocAttr];repeat refine AI ?_
 refine hK _ _ _ ?_;clear hK K;refine aJ ?_;simp (maxSteps:=4000000) only[aR,Tryz.results86,aP,aQ,aN,↓sP,sA,tyS,simprocAttr];first|exact aI [] (.str tC) rfl (by rw[rwK,if_pos h2])|exact aI [] (.str uN) rfl (by rw[rwK,if_neg h2,if_pos h3])|exact aI [] (.str wV) rfl (by rw[rwK,if_neg h2,if_neg h3,if_pos h4])|exact aI [] (.str wW) rfl (by rw[rwK,if_neg h2,if_neg h3,if_neg h4,if_pos h5])|exact aI [] (.str []) rfl (by rw[rwK,if_neg h2,if_neg h3,if_neg h4,if_neg h5])
variable {x:Ln}
theorem bW0 (h:eJ x.n=false):cL x=false:=by unfold cL;rw[h];simp
theorem bJ2 (h:x.f.all eJ=false):cL x=false:=by
 unfold cL;split
 ·
  have:(x.f==[])=false:=by
   cases hf:x.f with
   |nil=>rw[hf]at h;simp at h
   |cons a l=>rfl
  rw[this];simp
 rw[h];simp
theorem cN0 {α:Type}[BEq α](l:List α):(l==[])=((l.length:Int)==0):=by
 cases l with
 |nil=>rfl
 |cons a l=>
  have:(((a::l).length:Int)==0)=false:=beq_eq_false_iff_ne.2 (by simp only[List.length_cons];omega);rw[this];rfl
theorem cD3 (x:Ln)(hx:x.f.length<2^38):cK Tryz.prog 50 [x.cv] (fun v=>v= .bool (cL x)):=by
 refine bA Tryz.func50 rfl (by kernel_rfl) (bB _) (Nat.le_of_ble_eq_true rfl) ?_;refine aD fun K hK=>aC (by kernel_rfl) ?_;simp (maxSteps:=4000000) only[↓sP,sA,tyS,simprocAttr];repeat refine AI ?_
 refine hK _ _ _ ?_;clear hK K;refine aD fun K hK=>?_;refine aD fun K hK=>aC (by kernel_rfl) ?_;simp only[sR,simprocAttr];iterate 2
  (refine aB (g:=none) rfl rfl fun K' hK'=>?_;simp only[sH,↓sP,sA,tyS,simprocAttr];(repeat refine AI ?_);refine hK' _ _ ?_;clear hK' K')
 refine aB (g:=none) rfl rfl fun K' hK'=>?_;simp (maxSteps:=4000000) only[sH,↓sP,sA,tyS,simprocAttr];refine aU (args:=[_]) (jU x.n) ⟨rfl,rfl,rfl,rfl⟩ ?_;rintro u rfl;repeat refine AI ?_
 refine hK' _ _ ?_;clear hK' K';refine aB (g:=none) rfl rfl fun K' hK'=>?_;simp (maxSteps:=4000000) only[sH,↓sP,sA,tyS,simprocAttr];repeat refine AI ?_
 refine hK' _ _ ?_;clear hK' K';simp only[sE,↓reduceIte,simprocAttr];repeat refine AI ?_
 refine hK _ _ _ ?_;clear hK K;refine aF (b:=!inN x.n) rfl (fun hb=>?_) (fun hb=>?_)
 ·
  refine aD fun K hK=>aC (by kernel_rfl) ?_;simp (maxSteps:=4000000) only[↓sP,sA,tyS,simprocAttr];repeat refine AI ?_
  refine hK _ _ _ ?_;clear hK K;refine aJ ?_;simp (maxSteps:=4000000) only[aR,Tryz.results50,aP,aQ,aN,↓sP,sA,tyS,simprocAttr];exact aI [] (.bool false) rfl (by rw[bW0 (by rw[←eF];simpa using hb)])
 have h40:eJ x.n=true:=by rw[←eF];simpa using hb
 clear hb;refine aK ?_;simp (maxSteps:=4000000) only[↓sP,sA,tyS,simprocAttr];repeat refine AI ?_
 refine hK _ _ _ ?_;clear hK K;refine aD fun K hK=>?_;refine aD fun K hK=>aC (by kernel_rfl) ?_;simp (maxSteps:=4000000) only[↓sP,sA,tyS,simprocAttr];repeat refine AI ?_
 refine hK _ _ _ ?_;clear hK K;refine aL ?_;refine bR (α:={i:Nat//i≤x.f.length∧(x.f.take i).all eJ=true}) (fun i=>(fin [(1,.ptr 0 0),(3,.c (.int .i64 i.1))],fob [(0,.box 41 (.c x.cv))])) 200 (fun i=>x.f.length-i.1) ⟨0,by omega,by simp⟩ (aG (by omega) (by simp[aX,fin_at,finA_at,upd_at,HV.men,HV.menL,HV.norm,HV.toC,HV.toCL]) (by simp[aZ,fob_at,upd_at,none0_at,bL,HO.men,HV.men,HV.menL,HV.norm,HV.toC,HV.toCL])) ?_;rintro⟨i,hi,hall⟩;refine aD fun K hK=>?_;refine aD fun K hK=>aC (by kernel_rfl) ?_;simp only[sR,simprocAttr];iterate 5
  (refine aB (g:=none) rfl rfl fun K' hK'=>?_;simp only[sH,↓sP,sA,tyS,simprocAttr,List.length_map];(repeat refine AI ?_);refine hK' _ _ ?_;clear hK' K')
 simp only[sE,↓reduceIte,simprocAttr];repeat refine AI ?_
 refine hK _ _ _ ?_;clear hK K;refine aF (b:=decide ((i:Int)<x.f.length)) rfl (fun hb=>?_) (fun hb=>?_)
 ·
  have hlt:i<x.f.length:=by have:=of_decide_eq_true hb;omega
  clear hb;refine aK ?_;simp (maxSteps:=4000000) only[↓sP,sA,tyS,simprocAttr];repeat refine AI ?_
  refine hK _ _ _ ?_;clear hK K;refine aD fun K hK=>?_;refine aL ?_;refine aD fun K hK=>aC (by kernel_rfl) ?_;simp only[sR,simprocAttr];iterate 5
   (refine aB (g:=none) rfl rfl fun K' hK'=>?_;simp only[sH,↓sP,sA,tyS,simprocAttr,Int.natCast_nonneg,Int.ofNat_lt,hlt,aY hlt];(repeat refine AI ?_);refine hK' _ _ ?_;clear hK' K')
  refine aB (g:=none) rfl rfl fun K' hK'=>?_;simp (maxSteps:=4000000) only[sH,↓sP,sA,tyS,simprocAttr,Int.natCast_nonneg,Int.ofNat_lt,hlt,aY hlt];refine aU (args:=[_]) (jU x.f[i]) ⟨rfl,rfl,rfl,rfl⟩ ?_;rintro u rfl;repeat refine AI ?_
  refine hK' _ _ ?_;clear hK' K';refine aB (g:=none) rfl rfl fun K' hK'=>?_;simp (maxSteps:=4000000) only[sH,↓sP,sA,tyS,simprocAttr,Int.natCast_nonneg,Int.ofNat_lt,hlt,aY hlt];repeat refine AI ?_
  refine hK' _ _ ?_;clear hK' K';simp only[sE,↓reduceIte,simprocAttr];repeat refine AI ?_
  refine hK _ _ _ ?_;clear hK K;refine aF (b:=!inN x.f[i]) rfl (fun hb=>?_) (fun hb=>?_)
  ·
   refine aD fun K hK=>aC (by kernel_rfl) ?_;simp (maxSteps:=4000000) only[↓sP,sA,tyS,simprocAttr];repeat refine AI ?_
   refine hK _ _ _ ?_;clear hK K;refine aJ ?_;simp (maxSteps:=4000000) only[aR,Tryz.results50,aP,aQ,aN,↓sP,sA,tyS,simprocAttr];exact aI [] (.bool false) rfl (by rw[bJ2 (aZ9 hlt (by rw[←eF];simpa using hb))])
  have hf40:eJ x.f[i]=true:=by rw[←eF];simpa using hb
  clear hb;refine aK ?_;simp (maxSteps:=4000000) only[↓sP,sA,tyS,simprocAttr];repeat refine AI ?_
  refine hK _ _ _ ?_;clear hK K;refine aC (by kernel_rfl) ?_;simp (maxSteps:=4000000) only[↓sP,sA,tyS,simprocAttr,IntWalk.i64_in _ (show-9223372036854775808≤(i:Int)+1∧(i:Int)+1≤9223372036854775807 by omega)];refine⟨⟨i+1,by omega,all_take hlt hall hf40⟩,aG (by omega) (by simp[aX,fin_at,finA_at,upd_at,HV.men,HV.menL,HV.norm,HV.toC,HV.toCL]) (by simp[aZ,fob_at,upd_at,none0_at,bL,HO.men,HV.men,HV.menL,HV.norm,HV.toC,HV.toCL]),?_⟩;show x.f.length-(i+1)<x.f.length-i;omega
 have hie:i=x.f.length:=by have:=of_decide_eq_false hb;omega
 subst hie;rw[List.take_length]at hall;clear hb;refine bJ ?_;simp (maxSteps:=4000000) only[↓sP,sA,tyS,simprocAttr];clear hK K;repeat refine AI ?_
 refine hK _ _ _ ?_;clear hK K;refine aD fun K hK=>?_;refine aD fun K hK=>aC (by kernel_rfl) ?_;simp (maxSteps:=4000000) only[↓sP,sA,tyS,simprocAttr];repeat refine AI ?_
 refine hK _ _ _ ?_;clear hK K;refine aF (b:=(x.k==1)) rfl (fun hb=>?_) (fun hb=>?_)
 ·
  have hk:x.k=1:=eq_of_beq hb;clear hb;refine aD fun K hK=>aC (by kernel_rfl) ?_;simp only[sR,simprocAttr];iterate 5
   (refine aB (g:=none) rfl rfl fun K' hK'=>?_;simp only[sH,↓sP,sA,tyS,simprocAttr,List.length_map];(repeat refine AI ?_);refine hK' _ _ ?_;clear hK' K')
  simp only[sE,↓reduceIte,simprocAttr];repeat refine AI ?_
  refine hK _ _ _ ?_;clear hK K;refine aJ ?_;simp (maxSteps:=4000000) only[aR,Tryz.results50,aP,aQ,aN,↓sP,sA,tyS,simprocAttr];exact aI [] (.bool ((x.f.length:Int)==0)) rfl (by rw[cL,h40,if_pos hk,cN0,hk];rfl)
 have hk:x.k≠1:=by simpa using hb
 clear hb;have hrw:(!(rwK x.k==[]))=inB x.k 1 5:=bV9 hk;refine aK ?_;simp (maxSteps:=4000000) only[↓sP,sA,tyS,simprocAttr];repeat refine AI ?_
 refine hK _ _ _ ?_;clear hK K;by_cases hin:inB x.k 1 5=true
 ·
  refine aD fun K hK=>aC (by kernel_rfl) ?_;simp only[sR,simprocAttr];iterate 2
   (refine aB (g:=none) rfl rfl fun K' hK'=>?_;simp only[sH,↓sP,sA,tyS,simprocAttr,List.length_map,hrw,hin];(repeat refine AI ?_);refine hK' _ _ ?_;clear hK' K')
  refine aB (g:=none) rfl rfl fun K' hK'=>?_;simp (maxSteps:=4000000) only[sH,↓sP,sA,tyS,simprocAttr,List.length_map,hrw,hin];refine aU (args:=[_]) (xS x.k) ⟨rfl,rfl,rfl,rfl⟩ ?_;rintro u rfl;repeat refine AI ?_
  refine hK' _ _ ?_;clear hK' K';iterate 2
   (refine aB (g:=none) rfl rfl fun K' hK'=>?_;simp only[sH,↓sP,sA,tyS,simprocAttr,List.length_map,hrw,hin];(repeat refine AI ?_);refine hK' _ _ ?_;clear hK' K')
  iterate 4
   (refine aB (g:=some (33,true)) rfl rfl fun K' hK'=>?_;simp only[sH,↓sP,sA,tyS,simprocAttr,List.length_map,hrw,hin];(repeat refine AI ?_);refine hK' _ _ ?_;clear hK' K')
  iterate 2
   (refine aB (g:=none) rfl rfl fun K' hK'=>?_;simp only[sH,↓sP,sA,tyS,simprocAttr,List.length_map,hrw,hin];(repeat refine AI ?_);refine hK' _ _ ?_;clear hK' K')
  simp only[sE,↓reduceIte,simprocAttr];repeat refine AI ?_
  refine hK _ _ _ ?_;clear hK K;refine aJ ?_;simp (maxSteps:=4000000) only[aR,Tryz.results50,aP,aQ,aN,↓sP,sA,tyS,simprocAttr];exact aI [] (.bool ((x.d.length:Int)==0)) rfl (by rw[cL,h40,if_neg hk,hin,hall,cN0];rfl)
 have hin':inB x.k 1 5=false:=by simpa using hin
 refine aD fun K hK=>aC (by kernel_rfl) ?_;simp only[sR,simprocAttr];iterate 2
  (refine aB (g:=none) rfl rfl fun K' hK'=>?_;simp only[sH,↓sP,sA,tyS,simprocAttr,hrw,hin'];(repeat refine AI ?_);refine hK' _ _ ?_;clear hK' K')
 refine aB (g:=none) rfl rfl fun K' hK'=>?_;simp (maxSteps:=4000000) only[sH,↓sP,sA,tyS,simprocAttr,hrw,hin'];refine aU (args:=[_]) (xS x.k) ⟨rfl,rfl,rfl,rfl⟩ ?_;rintro u rfl;repeat refine AI ?_
 refine hK' _ _ ?_;clear hK' K';iterate 2
  (refine aB (g:=none) rfl rfl fun K' hK'=>?_;simp only[sH,↓sP,sA,tyS,simprocAttr,hrw,hin'];(repeat refine AI ?_);refine hK' _ _ ?_;clear hK' K')
 iterate 4
  (refine aB (g:=some (33,true)) rfl rfl fun K' hK'=>?_;simp only[sH,↓sP,sA,tyS,simprocAttr,hrw,hin'];(repeat refine AI ?_);refine hK' _ _ ?_;clear hK' K')
 iterate 2
  (refine aB (g:=none) rfl rfl fun K' hK'=>?_;simp only[sH,↓sP,sA,tyS,simprocAttr,hrw,hin'];(repeat refine AI ?_);refine hK' _ _ ?_;clear hK' K')
 simp only[sE,↓reduceIte,simprocAttr];repeat refine AI ?_
 refine hK _ _ _ ?_;clear hK K;refine aJ ?_;simp (maxSteps:=4000000) only[aR,Tryz.results50,aP,aQ,aN,↓sP,sA,tyS,simprocAttr];exact aI [] (.bool false) rfl (by rw[cL,hin'];rfl)
theorem cI9 (h:cL x=true):0≤x.n∧x.n≤1099511627776∧ ∀n∈x.f,0≤n∧n≤1099511627776:=by
 obtain⟨_,h2⟩:=bA4 h;exact⟨(h2 _ List.mem_cons_self).1,(h2 _ List.mem_cons_self).2,fun n hn=>h2 n (List.mem_cons_of_mem _ hn)⟩
theorem bJ3 (x:Ln)(hx:LnW x)(hf:cL x=true):cK Tryz.prog 53 [x.cv] (fun v=>v= .slc ((dN x).map lsC)):=by
 obtain⟨hn0,hn1,hfn⟩:=cI9 hf;refine bA Tryz.func53 rfl (by kernel_rfl) (bB _) (Nat.le_of_ble_eq_true rfl) ?_;refine aD fun K hK=>aC (by kernel_rfl) ?_;simp (maxSteps:=4000000) only[↓sP,sA,tyS,simprocAttr];repeat refine AI ?_
 refine hK _ _ _ ?_;clear hK K;refine aD fun K hK=>?_;refine aD fun K hK=>aC (by kernel_rfl) ?_;simp (maxSteps:=4000000) only[↓sP,sA,tyS,simprocAttr];repeat refine AI ?_
 refine hK _ _ _ ?_;clear hK K;refine aF (b:=!(x.k==1)) rfl (fun hb=>?_) (fun hb=>?_)
 ·
  have hk:x.k≠1:=by simpa using hb
  have hd0:x.d=[]:=by
   unfold cL at hf;rw[if_neg hk]at hf;simp at hf;exact hf.2.2
  clear hb;refine aD fun K hK=>cV mixed [(0,[],[]),(1,[],[]),(3,[],[]),(4,[],[]),(2,[],[3,4]),(5,[],[]),(6,[],[]),(7,[],[])] [0,1,3,0,8,31,63,127] (by kernel_rfl) (by kernel_rfl) (by kernel_rfl) (by kernel_rfl) rfl (by kernel_rfl) ?_;iterate 4
   (refine bF (g:=none) rfl rfl fun K' hK'=>?_;simp only[sH,↓sP,sA,tyS,simprocAttr];(repeat refine AI ?_);refine hK' _ _ ?_;clear hK' K')
  refine bF (g:=none) rfl rfl fun K' hK'=>?_;simp (maxSteps:=4000000) only[sH,↓sP,sA,tyS,simprocAttr];refine aU (args:=[_]) (xS x.k) ⟨rfl,rfl,rfl,rfl⟩ ?_;rintro u rfl;rw[bV8 hk];repeat refine AI ?_
  refine hK' _ _ ?_;clear hK' K';refine bF (g:=none) rfl rfl fun K' hK'=>?_;simp (maxSteps:=4000000) only[sH,↓sP,sA,tyS,simprocAttr];refine aU (args:=[_]) (rD x.n ⟨by omega,by omega⟩) ⟨rfl,rfl,rfl,rfl⟩ ?_;rintro u rfl;repeat refine AI ?_
  refine hK' _ _ ?_;clear hK' K';iterate 2
   (refine bF (g:=none) rfl rfl fun K' hK'=>?_;simp only[sH,↓sP,sA,tyS,simprocAttr];(repeat refine AI ?_);refine hK' _ _ ?_;clear hK' K')
  simp only[sE,↓reduceIte,simprocAttr];repeat refine AI ?_
  refine hK _ _ _ ?_;clear hK K;refine aD fun K hK=>?_;refine aD fun K hK=>aC (by kernel_rfl) ?_;simp (maxSteps:=4000000) only[↓sP,sA,tyS,simprocAttr];repeat refine AI ?_
  refine hK _ _ _ ?_;clear hK K;refine aL ?_;refine bR (α:={i:Nat//i≤x.f.length}) (fun i=>(fin [(1,.ptr 0 0),(3,.own 44 (2+i.1)),(4,.c (.int .i64 i.1))],fob [(0,.box 41 (.c x.cv)),(44,.row 9 1 ((wordK x.k::eM x.n::(x.f.take i.1).map eM).map .str))])) 2000 (fun i=>x.f.length-i.1) ⟨0,by omega⟩ (aG (by omega) (by simp[aX,fin_at,finA_at,upd_at,HV.men,HV.menL,HV.norm,HV.toC,HV.toCL]) (by simp[aZ,fob_at,upd_at,none0_at,bL,HO.men,HV.men,HV.menL,HV.norm,HV.toC,HV.toCL])) ?_;rintro⟨i,hi⟩;refine aD fun K hK=>?_;refine aD fun K hK=>aC (by kernel_rfl) ?_;simp only[sR,simprocAttr];iterate 5
   (refine aB (g:=none) rfl rfl fun K' hK'=>?_;simp only[sH,↓sP,sA,tyS,simprocAttr,List.length_map];(repeat refine AI ?_);refine hK' _ _ ?_;clear hK' K')
  simp only[sE,↓reduceIte,simprocAttr];repeat refine AI ?_
  refine hK _ _ _ ?_;clear hK K;refine aF (b:=decide ((i:Int)<x.f.length)) rfl (fun hb=>?_) (fun hb=>?_)
  ·
   have hlt:i<x.f.length:=by have:=of_decide_eq_true hb;omega
   have hfl:=hx.fl;have hti:(x.f.take i).length=i:=by simp;omega
   have hfi:=hfn _ (List.getElem_mem hlt);clear hb;refine aK ?_;simp (maxSteps:=4000000) only[↓sP,sA,tyS,simprocAttr];repeat refine AI ?_
   refine hK _ _ _ ?_;clear hK K;refine aD fun K hK=>?_;refine aL ?_;refine aC (by kernel_rfl) ?_;simp only[sR,simprocAttr];iterate 6
    (refine aB (g:=none) rfl rfl fun K' hK'=>?_;simp only[sH,↓sP,sA,tyS,simprocAttr,Int.natCast_nonneg,Int.ofNat_lt,hlt,aY hlt,List.length_cons,List.length_map,hti];(repeat refine AI ?_);refine hK' _ _ ?_;clear hK' K')
   refine aB (g:=none) rfl rfl fun K' hK'=>?_;simp (maxSteps:=4000000) only[sH,↓sP,sA,tyS,simprocAttr,Int.natCast_nonneg,Int.ofNat_lt,hlt,aY hlt,List.length_cons,List.length_map,hti];refine aU (args:=[_]) (rD x.f[i] ⟨by omega,by omega⟩) ⟨rfl,rfl,rfl,rfl⟩ ?_;rintro u rfl;repeat refine AI ?_
   refine hK' _ _ ?_;clear hK' K';iterate 3
    (refine aB (g:=none) rfl rfl fun K' hK'=>?_;simp only[sH,↓sP,sA,tyS,simprocAttr,Int.natCast_nonneg,Int.ofNat_lt,hlt,aY hlt,List.length_cons,List.length_map,hti];(repeat refine AI ?_);refine hK' _ _ ?_;clear hK' K')
   simp only[sE,↓reduceIte,simprocAttr];repeat refine AI ?_
   refine hK _ _ _ ?_;clear hK K;refine aC (by kernel_rfl) ?_;simp (maxSteps:=4000000) only[↓sP,sA,tyS,simprocAttr,IntWalk.i64_in _ (show-9223372036854775808≤(i:Int)+1∧(i:Int)+1≤9223372036854775807 by omega)];have hmn:min i x.f.length+1+1+1=2+(i+1):=by omega
   refine⟨⟨i+1,by omega⟩,(aG (by omega) (by simp[aX,fin_at,finA_at,upd_at,HV.men,HV.menL,HV.norm,HV.toC,HV.toCL,kO hlt,List.map_append,hti,hmn]) (by simp[aZ,fob_at,upd_at,none0_at,bL,HO.men,HV.men,HV.menL,HV.norm,HV.toC,HV.toCL,kO hlt,List.map_append,hti,hmn])),?_⟩;show x.f.length-(i+1)<x.f.length-i;omega
  have hie:i=x.f.length:=by have:=of_decide_eq_false hb;omega
  subst hie;clear hb;refine bJ ?_;simp (maxSteps:=4000000) only[↓sP,sA,tyS,simprocAttr];clear hK K;repeat refine AI ?_
  refine hK _ _ _ ?_;clear hK K;have hfl2:2+x.f.length=x.f.length+1+1:=by omega
  refine dK [44] (bV (fr2:=fin [(3,.c (lsC (firstL x)))]) (ob2:=fob []) (nx2:=3000) (aG (by omega) (by simp[aX,eI,fin_at,finA_at,upd_at,fob_at,HV.close,HV.closeL,CV.denil,CV.denilL,denilL_str,hfl2,lsC,firstL,HV.men,HV.menL,HV.norm,HV.toC,HV.toCL]) (by simp[aZ,fM,fob_at,upd_at,none0_at,bL,HO.close,HV.close,HV.closeL,Ln.denil,HO.men,HV.men,HV.menL,HV.norm,HV.toC,HV.toCL])) ?_);refine aD fun K hK=>aC (by kernel_rfl) ?_;simp (maxSteps:=4000000) only[↓sP,sA,tyS,simprocAttr];repeat refine AI ?_
  refine hK _ _ _ ?_;clear hK K;refine aJ ?_;simp (maxSteps:=4000000) only[aR,Tryz.results53,aP,aQ,aN,↓sP,sA,tyS,simprocAttr];exact aI [3004] (.slc ((dN x).map lsC)) (by simp[HV.close,HV.closeL,fob_at,upd_at,CV.denil,HV.norm,HV.toC,HV.toCL,dN,hd0,lL]) rfl
 have hk:x.k=1:=by simpa using hb
 have hf0:x.f=[]:=by
  unfold cL at hf;rw[if_pos hk]at hf;simp at hf;exact hf.2
 have hfirst:firstL x=[mO,eM x.n]:=by unfold firstL;rw[hf0,hk];rfl
 clear hb;refine aK ?_;simp (maxSteps:=4000000) only[↓sP,sA,tyS,simprocAttr];repeat refine AI ?_
 refine hK _ _ _ ?_;clear hK K;refine aD fun K hK=>cI (by kernel_rfl) ?_;simp only[sR,simprocAttr];iterate 2
  (refine bE (g:=none) rfl rfl fun K' hK'=>?_;simp only[sH,↓sP,sA,tyS,simprocAttr];(repeat refine AI ?_);refine hK' _ _ ?_;clear hK' K')
 refine bE (g:=none) rfl rfl fun K' hK'=>?_;simp (maxSteps:=4000000) only[sH,↓sP,sA,tyS,simprocAttr];refine aU (args:=[_]) (rD x.n ⟨by omega,by omega⟩) ⟨rfl,rfl,rfl,rfl⟩ ?_;rintro u rfl;repeat refine AI ?_
 refine hK' _ _ ?_;clear hK' K';refine dT (g:=none) 32 rfl rfl fun K' hK'=>?_;simp (maxSteps:=4000000) only[gT,kC,sH,↓sP,sA,tyS,simprocAttr];repeat refine AI ?_
 refine cZ (by first|rfl|simp) ?_;try simp (maxSteps:=4000000) only[sH,↓sP,sA,tyS,simprocAttr]
 repeat refine AI ?_
 refine hK' _ _ ?_;clear hK' K';iterate 2
  (refine bE (g:=none) rfl rfl fun K' hK'=>?_;simp only[sH,↓sP,sA,tyS,simprocAttr];(repeat refine AI ?_);refine hK' _ _ ?_;clear hK' K')
 simp only[sE,↓reduceIte,simprocAttr];repeat refine AI ?_
 refine hK _ _ _ ?_;clear hK K;refine aD fun K hK=>?_;refine aD fun K hK=>aC (by kernel_rfl) ?_;simp (maxSteps:=4000000) only[↓sP,sA,tyS,simprocAttr];repeat refine AI ?_
 refine hK _ _ _ ?_;clear hK K;refine aL ?_;refine bR (α:={i:Nat//i≤x.d.length}) (fun i=>(fin [(1,.ptr 0 0),(5,.own 36 (1+i.1)),(6,.c (.int .i64 i.1))],fob [(0,.box 41 (.c x.cv)),(36,.row 71 1 ((firstL x::(x.d.take i.1).map kZ).map lsC))])) 5000 (fun i=>x.d.length-i.1) ⟨0,by omega⟩ (aG (by omega) (by simp[aX,fin_at,finA_at,upd_at,HV.men,HV.menL,HV.norm,HV.toC,HV.toCL,hfirst,lsC,mO,CV.denil,CV.denilL,denilL_str]) (by simp[aZ,fob_at,upd_at,none0_at,bL,HO.men,HV.men,HV.menL,HV.norm,HV.toC,HV.toCL,hfirst,lsC,mO,CV.denil,CV.denilL,denilL_str])) ?_;rintro⟨i,hi⟩;refine aD fun K hK=>?_;refine aD fun K hK=>aC (by kernel_rfl) ?_;simp only[sR,simprocAttr];iterate 5
  (refine aB (g:=none) rfl rfl fun K' hK'=>?_;simp only[sH,↓sP,sA,tyS,simprocAttr,List.length_map];(repeat refine AI ?_);refine hK' _ _ ?_;clear hK' K')
 simp only[sE,↓reduceIte,simprocAttr];repeat refine AI ?_
 refine hK _ _ _ ?_;clear hK K;refine aF (b:=decide ((i:Int)<x.d.length)) rfl (fun hb=>?_) (fun hb=>?_)
 ·
  have hlt:i<x.d.length:=by have:=of_decide_eq_true hb;omega
  have hdl:=hx.dl;have hti:(x.d.take i).length=i:=by simp;omega
  clear hb;refine aK ?_;simp (maxSteps:=4000000) only[↓sP,sA,tyS,simprocAttr];repeat refine AI ?_
  refine hK _ _ _ ?_;clear hK K;refine aD fun K hK=>?_;refine aL ?_;refine cI (by kernel_rfl) ?_;simp only[sR,simprocAttr];iterate 6
   (refine bE (g:=none) rfl rfl fun K' hK'=>?_;simp only[sH,↓sP,sA,tyS,simprocAttr,Int.natCast_nonneg,Int.ofNat_lt,hlt,aY hlt,List.length_cons,List.length_map,hti];(repeat refine AI ?_);refine hK' _ _ ?_;clear hK' K')
  refine bE (g:=none) rfl rfl fun K' hK'=>?_;simp (maxSteps:=4000000) only[sH,↓sP,sA,tyS,simprocAttr,Int.natCast_nonneg,Int.ofNat_lt,hlt,aY hlt,List.length_cons,List.length_map,hti];refine aU (args:=[_]) (rE x.d[i]) ⟨rfl,rfl,rfl,rfl⟩ ?_;rintro u rfl;repeat refine AI ?_
  refine hK' _ _ ?_;clear hK' K';refine dT (g:=none) 5048 rfl rfl fun K' hK'=>?_;simp (maxSteps:=4000000) only[gT,kC,sH,↓sP,sA,tyS,simprocAttr,Int.natCast_nonneg,Int.ofNat_lt,hlt,aY hlt,List.length_cons,List.length_map,hti];repeat refine AI ?_
  refine cZ (by first|rfl|simp) ?_;try simp (maxSteps:=4000000) only[sH,↓sP,sA,tyS,simprocAttr,Int.natCast_nonneg,Int.ofNat_lt,hlt,aY hlt,List.length_cons,List.length_map,hti]
  repeat refine AI ?_
  refine hK' _ _ ?_;clear hK' K';iterate 3
   (refine bE (g:=none) rfl rfl fun K' hK'=>?_;simp only[sH,↓sP,sA,tyS,simprocAttr,Int.natCast_nonneg,Int.ofNat_lt,hlt,aY hlt,List.length_cons,List.length_map,hti];(repeat refine AI ?_);refine hK' _ _ ?_;clear hK' K')
  simp only[sE,↓reduceIte,simprocAttr];repeat refine AI ?_
  refine hK _ _ _ ?_;clear hK K;refine aC (by kernel_rfl) ?_;simp (maxSteps:=4000000) only[↓sP,sA,tyS,simprocAttr,IntWalk.i64_in _ (show-9223372036854775808≤(i:Int)+1∧(i:Int)+1≤9223372036854775807 by omega)];have hmn2:min i x.d.length+1+1=1+(i+1):=by omega
  refine⟨⟨i+1,by omega⟩,(aG (by omega) (by simp[aX,fin_at,finA_at,upd_at,HV.men,HV.menL,HV.norm,HV.toC,HV.toCL,oM hlt,List.map_append,hti,kZ,lsC,mQ,hmn2]) (by simp[aZ,fob_at,upd_at,none0_at,bL,HO.men,HV.men,HV.menL,HV.norm,HV.toC,HV.toCL,oM hlt,List.map_append,hti,kZ,lsC,mQ,hmn2])),?_⟩;show x.d.length-(i+1)<x.d.length-i;omega
 have hie:i=x.d.length:=by have:=of_decide_eq_false hb;omega
 subst hie;clear hb;refine bJ ?_;simp (maxSteps:=4000000) only[↓sP,sA,tyS,simprocAttr];clear hK K;repeat refine AI ?_
 refine hK _ _ _ ?_;clear hK K;refine aD fun K hK=>aC (by kernel_rfl) ?_;simp (maxSteps:=4000000) only[↓sP,sA,tyS,simprocAttr];repeat refine AI ?_
 refine hK _ _ _ ?_;clear hK K;refine aJ ?_;simp (maxSteps:=4000000) only[aR,Tryz.results53,aP,aQ,aN,↓sP,sA,tyS,simprocAttr];have hdl2:1+x.d.length=x.d.length+1:=by omega
 rw[List.take_length];exact aI [36] (.slc ((dN x).map lsC)) (by simp[HV.close,HV.closeL,fob_at,upd_at,CV.denil,HV.norm,HV.toC,HV.toCL,dN,hdl2,lL]) rfl
theorem bW1 (d:Dv):iZ d=(eJ d.t&&eJ d.r&&d.l.all cL):=rfl
theorem yJ {l:List Ln}{i:Nat}(h:i<l.length):(l.take (i+1)).all cL=((l.take i).all cL&&cL l[i]):=by
 rw[List.take_succ_eq_append_getElem h,List.all_append];simp
theorem bJ4 (d:Dv)(hd:DvW d):iG Tryz.prog 22 [d.cv] (fun u v=>u= .slc ((dvO d).map dD)∧v= .int .i64 (dvE d)):=by
 refine bA Tryz.func22 rfl (by kernel_rfl) (bB _) (Nat.le_of_ble_eq_true rfl) ?_;refine aD fun K hK=>aC (by kernel_rfl) ?_;simp (maxSteps:=4000000) only[↓sP,sA,tyS,simprocAttr];repeat refine AI ?_
 refine hK _ _ _ ?_;clear hK K;refine aD fun K hK=>?_;have key: ∀(b:Bool) fr ob nx,b=(eJ d.t&&eJ d.r)→Fits 0 fr ob (fin [(1,.ptr 0 0),(2,.c .nils),(3,.c (.int .i64 0)),(4,.c (.bool b))]) (fob [(0,.box 50 (.c d.cv))]) 200→K fr ob nx:=by
  rintro b fr ob nx hbb hf;refine hK _ _ _ (bV hf ?_);clear hf hK K;refine aD fun K hK=>?_;refine aD fun K hK=>aC (by kernel_rfl) ?_;simp (maxSteps:=4000000) only[↓sP,sA,tyS,simprocAttr];repeat refine AI ?_
  refine hK _ _ _ ?_;clear hK K;refine aL ?_;refine bR (α:={i:Nat//i≤d.l.length}) (fun i=>(fin [(1,.ptr 0 0),(4,.c (.bool (b&&(d.l.take i.1).all cL))),(5,.c (.int .i64 i.1))],fob [(0,.box 50 (.c d.cv))])) 500 (fun i=>d.l.length-i.1) ⟨0,by omega⟩ (aG (by omega) (by simp[aX,fin_at,finA_at,upd_at,HV.men,HV.menL,HV.norm,HV.toC,HV.toCL,List.take_zero,List.all_nil,Bool.and_true]) (by simp[aZ,fob_at,upd_at,none0_at,bL,HO.men,HV.men,HV.menL,HV.norm,HV.toC,HV.toCL,List.take_zero,List.all_nil,Bool.and_true])) ?_;rintro⟨i,hi⟩;refine aD fun K hK=>?_;refine aD fun K hK=>aC (by kernel_rfl) ?_;simp only[sR,simprocAttr];iterate 5
   (refine aB (g:=none) rfl rfl fun K' hK'=>?_;simp only[sH,↓sP,sA,tyS,simprocAttr,List.length_map];(repeat refine AI ?_);refine hK' _ _ ?_;clear hK' K')
  simp only[sE,↓reduceIte,simprocAttr];repeat refine AI ?_
  refine hK _ _ _ ?_;clear hK K;refine aF (b:=decide ((i:Int)<d.l.length)) rfl (fun hb=>?_) (fun hb=>?_)
  ·
   have hlt:i<d.l.length:=by have:=of_decide_eq_true hb;omega
   have hfl:=(hd.l _ (List.getElem_mem hlt)).fl;have hll:=hd.ll;clear hb;obtain⟨c,hc⟩: ∃c,c=(b&&(d.l.take i).all cL):=⟨_,rfl⟩;have hcs:(b&&(d.l.take (i+1)).all cL)=(c&&cL d.l[i]):=by rw[yJ hlt,hc,Bool.and_assoc]
   rw[←hc];refine aK ?_;simp (maxSteps:=4000000) only[↓sP,sA,tyS,simprocAttr];repeat refine AI ?_
   refine hK _ _ _ ?_;clear hK K;refine aD fun K hK=>?_;refine aL ?_;by_cases hct:c=true
   ·
    refine aC (by kernel_rfl) ?_;simp only[sR,simprocAttr];iterate 2
     (refine aB (g:=none) rfl rfl fun K' hK'=>?_;simp only[sH,↓sP,sA,tyS,simprocAttr,hct,Int.natCast_nonneg,Int.ofNat_lt,hlt,aY hlt];(repeat refine AI ?_);refine hK' _ _ ?_;clear hK' K')
    iterate 5
     (refine aB (g:=some (24,true)) rfl rfl fun K' hK'=>?_;simp only[sH,↓sP,sA,tyS,simprocAttr,hct,Int.natCast_nonneg,Int.ofNat_lt,hlt,aY hlt];(repeat refine AI ?_);refine hK' _ _ ?_;clear hK' K')
    refine aB (g:=some (24,true)) rfl rfl fun K' hK'=>?_;simp (maxSteps:=4000000) only[sH,↓sP,sA,tyS,simprocAttr,hct,Int.natCast_nonneg,Int.ofNat_lt,hlt,aY hlt];refine aU (args:=[_]) (cD3 d.l[i] hfl) ⟨rfl,rfl,rfl,rfl⟩ ?_;rintro u rfl;repeat refine AI ?_
    refine hK' _ _ ?_;clear hK' K';iterate 2
     (refine aB (g:=none) rfl rfl fun K' hK'=>?_;simp only[sH,↓sP,sA,tyS,simprocAttr,hct,Int.natCast_nonneg,Int.ofNat_lt,hlt,aY hlt];(repeat refine AI ?_);refine hK' _ _ ?_;clear hK' K')
    simp only[sE,↓reduceIte,simprocAttr];repeat refine AI ?_
    refine hK _ _ _ ?_;clear hK K;refine aC (by kernel_rfl) ?_;simp (maxSteps:=4000000) only[↓sP,sA,tyS,simprocAttr,IntWalk.i64_in _ (show-9223372036854775808≤(i:Int)+1∧(i:Int)+1≤9223372036854775807 by omega)];first|exact⟨⟨i+1,by omega⟩,(aG (by omega) (by simp[aX,fin_at,finA_at,upd_at,HV.men,HV.menL,HV.norm,HV.toC,HV.toCL,hcs,hct,Bool.true_and]) (by simp[aZ,fob_at,upd_at,none0_at,bL,HO.men,HV.men,HV.menL,HV.norm,HV.toC,HV.toCL,hcs,hct,Bool.true_and])),(show d.l.length-(i+1)<d.l.length-i by omega)⟩|exact⟨⟨i+1,by omega⟩,(aG (by omega) (by simp[aX,fin_at,finA_at,upd_at,HV.men,HV.menL,HV.norm,HV.toC,HV.toCL,hcs,hcf,Bool.false_and]) (by simp[aZ,fob_at,upd_at,none0_at,bL,HO.men,HV.men,HV.menL,HV.norm,HV.toC,HV.toCL,hcs,hcf,Bool.false_and])),(show d.l.length-(i+1)<d.l.length-i by omega)⟩
   have hcf:c=false:=by simpa using hct
   refine aC (by kernel_rfl) ?_;simp only[sR,simprocAttr];iterate 2
    (refine aB (g:=none) rfl rfl fun K' hK'=>?_;simp only[sH,↓sP,sA,tyS,simprocAttr,hcf];(repeat refine AI ?_);refine hK' _ _ ?_;clear hK' K')
   iterate 6
    (refine aB (g:=some (24,true)) rfl rfl fun K' hK'=>?_;simp only[sH,↓sP,sA,tyS,simprocAttr,hcf];(repeat refine AI ?_);refine hK' _ _ ?_;clear hK' K')
   iterate 2
    (refine aB (g:=none) rfl rfl fun K' hK'=>?_;simp only[sH,↓sP,sA,tyS,simprocAttr,hcf];(repeat refine AI ?_);refine hK' _ _ ?_;clear hK' K')
   simp only[sE,↓reduceIte,simprocAttr];repeat refine AI ?_
   refine hK _ _ _ ?_;clear hK K;refine aC (by kernel_rfl) ?_;simp (maxSteps:=4000000) only[↓sP,sA,tyS,simprocAttr,IntWalk.i64_in _ (show-9223372036854775808≤(i:Int)+1∧(i:Int)+1≤9223372036854775807 by omega)];first|exact⟨⟨i+1,by omega⟩,(aG (by omega) (by simp[aX,fin_at,finA_at,upd_at,HV.men,HV.menL,HV.norm,HV.toC,HV.toCL,hcs,hct,Bool.true_and]) (by simp[aZ,fob_at,upd_at,none0_at,bL,HO.men,HV.men,HV.menL,HV.norm,HV.toC,HV.toCL,hcs,hct,Bool.true_and])),(show d.l.length-(i+1)<d.l.length-i by omega)⟩|exact⟨⟨i+1,by omega⟩,(aG (by omega) (by simp[aX,fin_at,finA_at,upd_at,HV.men,HV.menL,HV.norm,HV.toC,HV.toCL,hcs,hcf,Bool.false_and]) (by simp[aZ,fob_at,upd_at,none0_at,bL,HO.men,HV.men,HV.menL,HV.norm,HV.toC,HV.toCL,hcs,hcf,Bool.false_and])),(show d.l.length-(i+1)<d.l.length-i by omega)⟩
  have hie:i=d.l.length:=by have:=of_decide_eq_false hb;omega
  subst hie;clear hb;rw[List.take_length];have hfd:(b&&d.l.all cL)=iZ d:=by rw[hbb];rfl
  rw[hfd];refine bJ ?_;simp (maxSteps:=4000000) only[↓sP,sA,tyS,simprocAttr];clear hK K;repeat refine AI ?_
  refine hK _ _ _ ?_;clear hK K;refine aD fun K hK=>?_;refine aD fun K hK=>aC (by kernel_rfl) ?_;simp (maxSteps:=4000000) only[↓sP,sA,tyS,simprocAttr];repeat refine AI ?_
  refine hK _ _ _ ?_;clear hK K;refine aF (b:=!iZ d) rfl (fun hb=>?_) (fun hb=>?_)
  ·
   refine aD fun K hK=>aC (by kernel_rfl) ?_;simp (maxSteps:=4000000) only[↓sP,sA,tyS,simprocAttr];repeat refine AI ?_
   refine hK _ _ _ ?_;clear hK K;refine aJ ?_;simp (maxSteps:=4000000) only[aR,Tryz.results22,aP,aQ,aN,↓sP,sA,tyS,simprocAttr];have hf:iZ d=false:=by simpa using hb
   exact bH [] (.slc []) (.int .i64 1) (by simp[HV.close,HV.closeL,CV.denil,CV.denilL,HV.norm,HV.toC,HV.toCL]) ⟨by rw[dvO,hf];rfl,by rw[dvE,hf];rfl⟩
  have hfine:iZ d=true:=by simpa using hb
  have hfa:d.l.all cL=true∧eJ d.t=true∧eJ d.r=true:=by
   rw[bW1]at hfine;simp only[Bool.and_eq_true]at hfine;exact⟨hfine.2,hfine.1.1,hfine.1.2⟩
  have ht:=(gW _).1 hfa.2.1;have hr:=(gW _).1 hfa.2.2;clear hb;refine aK ?_;simp (maxSteps:=4000000) only[↓sP,sA,tyS,simprocAttr];repeat refine AI ?_
  refine hK _ _ _ ?_;clear hK K;refine bV (fr2:=fin [(1,.ptr 0 0)]) (ob2:=fob [(0,.box 50 (.c d.cv))]) (nx2:=1000) (aG (by omega) (by simp[aX,fin_at,finA_at,upd_at,HV.men,HV.menL,HV.norm,HV.toC,HV.toCL]) (by simp[aZ,fob_at,upd_at,none0_at,bL,HO.men,HV.men,HV.menL,HV.norm,HV.toC,HV.toCL])) ?_;refine aD fun K hK=>dI mixed [(0,[],[]),(1,[],[]),(2,[],[]),(3,[],[]),(4,[],[]),(5,[],[]),(6,[],[]),(7,[],[]),(8,[],[]),(10,[],[]),(11,[],[]),(13,[],[]),(14,[],[]),(16,[],[]),(17,[],[]),(20,[],[]),(21,[],[]),(22,[],[]),(24,[],[]),(25,[],[]),(26,[],[]),(27,[],[]),(28,[],[]),(29,[],[]),(9,[],[0,1,2,3,4,5,10,11,13,14,16,17,20,21,22,24,25,26,27,28,29]),(12,[],[0,1,2,3,4,5,13,14,16,17,20,21,22,24,25,26,27,28,29]),(15,[],[0,1,2,3,4,5,16,17,20,21,22,24,25,26,27,28,29]),(18,[],[0,1,2,3,4,5,20,21,22,24,25,26,27,28,29]),(19,[],[]),(23,[19],[0,1,2,3,4,5,24,25,26,27,28,29,19]),(30,[19],[]),(31,[],[]),(32,[],[])] [0,1,3,0,8,24,0,64,192,448,0,1024,4032,0,8192,32704,0,65536,262080,524287,0,1048576,3145728,7864256,0,16777216,50331648,0,134217728,402653184,1073217472,2147483647,4294967295] (by kernel_rfl) (by kernel_rfl) (by kernel_rfl) (by kernel_rfl) rfl (by kernel_rfl) ?_;iterate 24
   (refine bO (g:=none) rfl rfl fun K' hK'=>?_;simp only[sH,↓sP,sA,tyS,simprocAttr,eT,eU,gE,gF,eV,eW];(repeat refine AI ?_);refine hK' _ _ ?_;clear hK' K')
  refine bO (g:=none) rfl rfl fun K' hK'=>?_;simp (maxSteps:=4000000) only[sH,↓sP,sA,tyS,simprocAttr,eT,eU,gE,gF,eV,eW];refine aU (args:=[_]) (rE d.q.a) ⟨rfl,rfl,rfl,rfl⟩ ?_;rintro u rfl;repeat refine AI ?_
  refine hK' _ _ ?_;clear hK' K';refine bO (g:=none) rfl rfl fun K' hK'=>?_;simp (maxSteps:=4000000) only[sH,↓sP,sA,tyS,simprocAttr,eT,eU,gE,gF,eV,eW];refine aU (args:=[_]) (rD d.t ⟨by omega,by omega⟩) ⟨rfl,rfl,rfl,rfl⟩ ?_;rintro u rfl;repeat refine AI ?_
  refine hK' _ _ ?_;clear hK' K';refine bO (g:=none) rfl rfl fun K' hK'=>?_;simp (maxSteps:=4000000) only[sH,↓sP,sA,tyS,simprocAttr,eT,eU,gE,gF,eV,eW];refine aU (args:=[_]) (rE d.p) ⟨rfl,rfl,rfl,rfl⟩ ?_;rintro u rfl;repeat refine AI ?_
  refine hK' _ _ ?_;clear hK' K';refine bO (g:=none) rfl rfl fun K' hK'=>?_;simp (maxSteps:=4000000) only[sH,↓sP,sA,tyS,simprocAttr,eT,eU,gE,gF,eV,eW];refine aU (args:=[_]) (rD d.r ⟨by omega,by omega⟩) ⟨rfl,rfl,rfl,rfl⟩ ?_;rintro u rfl;repeat refine AI ?_
  refine hK' _ _ ?_;clear hK' K';refine fZ (g:=none) 1076 rfl rfl fun K' hK'=>?_;simp (maxSteps:=4000000) only[gT,kC,sH,↓sP,sA,tyS,simprocAttr,eT,eU,gE,gF,eV,eW];repeat refine AI ?_
  refine cZ (by first|rfl|simp) ?_;try simp (maxSteps:=4000000) only[sH,↓sP,sA,tyS,simprocAttr,eT,eU,gE,gF,eV,eW]
  repeat refine AI ?_
  refine hK' _ _ ?_;clear hK' K';refine bO (g:=none) rfl rfl fun K' hK'=>?_;simp (maxSteps:=4000000) only[sH,↓sP,sA,tyS,simprocAttr,eT,eU,gE,gF,eV,eW];refine aU (args:=[_]) (rE d.o.v) ⟨rfl,rfl,rfl,rfl⟩ ?_;rintro u rfl;repeat refine AI ?_
  refine hK' _ _ ?_;clear hK' K';refine fZ (g:=none) 1120 rfl rfl fun K' hK'=>?_;simp (maxSteps:=4000000) only[gT,kC,sH,↓sP,sA,tyS,simprocAttr,eT,eU,gE,gF,eV,eW];repeat refine AI ?_
  refine cZ (by first|rfl|simp) ?_;try simp (maxSteps:=4000000) only[sH,↓sP,sA,tyS,simprocAttr,eT,eU,gE,gF,eV,eW]
  repeat refine AI ?_
  refine hK' _ _ ?_;clear hK' K';iterate 2
   (refine bO (g:=none) rfl rfl fun K' hK'=>?_;simp only[sH,↓sP,sA,tyS,simprocAttr,eT,eU,gE,gF,eV,eW];(repeat refine AI ?_);refine hK' _ _ ?_;clear hK' K')
  simp only[sE,↓reduceIte,simprocAttr];repeat refine AI ?_
  refine hK _ _ _ ?_;clear hK K;refine aD fun K hK=>?_;refine aD fun K hK=>aC (by kernel_rfl) ?_;simp (maxSteps:=4000000) only[↓sP,sA,tyS,simprocAttr];repeat refine AI ?_
  refine hK _ _ _ ?_;clear hK K;refine aL ?_;refine bR (α:={i:Nat//i≤d.l.length}) (fun i=>(fin [(1,.ptr 0 0),(6,.own 1124 (dvT d i.1).length),(7,.c (.int .i64 i.1))],fob [(0,.box 50 (.c d.cv)),(1124,.row 71 1 ((dvT d i.1).map lsC))])) 3000 (fun i=>d.l.length-i.1) ⟨0,by omega⟩ (aG (by omega) (by simp[aX,fin_at,finA_at,upd_at,HV.men,HV.menL,HV.norm,HV.toC,HV.toCL,dvT,jS,lsC,wDer,wOrg]) (by simp[aZ,fob_at,upd_at,none0_at,bL,HO.men,HV.men,HV.menL,HV.norm,HV.toC,HV.toCL,dvT,jS,lsC,wDer,wOrg])) ?_;rintro⟨i,hi⟩;refine aD fun K hK=>?_;refine aD fun K hK=>aC (by kernel_rfl) ?_;simp only[sR,simprocAttr];iterate 5
   (refine aB (g:=none) rfl rfl fun K' hK'=>?_;simp only[sH,↓sP,sA,tyS,simprocAttr,List.length_map];(repeat refine AI ?_);refine hK' _ _ ?_;clear hK' K')
  simp only[sE,↓reduceIte,simprocAttr];repeat refine AI ?_
  refine hK _ _ _ ?_;clear hK K;refine aF (b:=decide ((i:Int)<d.l.length)) rfl (fun hb=>?_) (fun hb=>?_)
  ·
   have hlt:i<d.l.length:=by have:=of_decide_eq_true hb;omega
   have hll:=hd.ll;have hle:=bT2 d (i+1);have hlen:=hd.len;rw[lN hlt,List.length_append]at hle;have hfl:cL d.l[i]=true:=List.all_eq_true.1 hfa.1 _ (List.getElem_mem hlt);have hcl:(∀v∈(dN d.l[i]).map lsC,v.cells=1)=True:=eq_true fun v hv=>by
    obtain⟨y,_,rfl⟩:=List.mem_map.1 hv;rfl
   clear hb;refine aK ?_;simp (maxSteps:=4000000) only[↓sP,sA,tyS,simprocAttr];repeat refine AI ?_
   refine hK _ _ _ ?_;clear hK K;refine aD fun K hK=>?_;refine aL ?_;refine aC (by kernel_rfl) ?_;simp only[sR,simprocAttr];iterate 6
    (refine aB (g:=none) rfl rfl fun K' hK'=>?_;simp only[sH,↓sP,sA,tyS,simprocAttr,Int.natCast_nonneg,Int.ofNat_lt,hlt,aY hlt,List.length_map,hcl];(repeat refine AI ?_);refine hK' _ _ ?_;clear hK' K')
   refine aB (g:=none) rfl rfl fun K' hK'=>?_;simp (maxSteps:=4000000) only[sH,↓sP,sA,tyS,simprocAttr,Int.natCast_nonneg,Int.ofNat_lt,hlt,aY hlt,List.length_map,hcl];refine aU (args:=[_]) (bJ3 d.l[i] (hd.l _ (List.getElem_mem hlt)) hfl) ⟨rfl,rfl,rfl,rfl⟩ ?_;rintro u rfl;repeat refine AI ?_
   refine hK' _ _ ?_;clear hK' K';iterate 2
    (refine aB (g:=none) rfl rfl fun K' hK'=>?_;simp only[sH,↓sP,sA,tyS,simprocAttr,Int.natCast_nonneg,Int.ofNat_lt,hlt,aY hlt,List.length_map,hcl];(repeat refine AI ?_);refine hK' _ _ ?_;clear hK' K')
   simp only[sE,↓reduceIte,simprocAttr];repeat refine AI ?_
   refine hK _ _ _ ?_;clear hK K;refine aC (by kernel_rfl) ?_;simp (maxSteps:=4000000) only[↓sP,sA,tyS,simprocAttr,IntWalk.i64_in _ (show-9223372036854775808≤(i:Int)+1∧(i:Int)+1≤9223372036854775807 by omega)];refine⟨⟨i+1,by omega⟩,(aG (by omega) (by simp[aX,fin_at,finA_at,upd_at,HV.men,HV.menL,HV.norm,HV.toC,HV.toCL,lN hlt,List.map_append,List.length_append]) (by simp[aZ,fob_at,upd_at,none0_at,bL,HO.men,HV.men,HV.menL,HV.norm,HV.toC,HV.toCL,lN hlt,List.map_append,List.length_append])),?_⟩;show d.l.length-(i+1)<d.l.length-i;omega
  have hie:i=d.l.length:=by have:=of_decide_eq_false hb;omega
  subst hie;clear hb;rw[bA0];have hlen:=hd.len;refine bJ ?_;simp (maxSteps:=4000000) only[↓sP,sA,tyS,simprocAttr];clear hK K;repeat refine AI ?_
  refine hK _ _ _ ?_;clear hK K;refine dK [1124] (bV (fr2:=fin [(6,.c (.slc ((gR d).map lsC)))]) (ob2:=fob []) (nx2:=4000) (aG (by omega) (by simp[aX,eI,fin_at,finA_at,upd_at,fob_at,HV.close,HV.closeL,CV.denil,CV.denilL,dJ,HV.men,HV.menL,HV.norm,HV.toC,HV.toCL]) (by simp[aZ,fM,fob_at,upd_at,none0_at,bL,HO.close,HV.close,HV.closeL,HO.men,HV.men,HV.menL,HV.norm,HV.toC,HV.toCL])) ?_);refine aD fun K hK=>aC (by kernel_rfl) ?_;simp only[sR,simprocAttr];refine aB (g:=none) rfl rfl fun K' hK'=>?_;simp (maxSteps:=4000000) only[sH,↓sP,sA,tyS,simprocAttr,dJ];repeat refine AI ?_
  refine hK' _ _ ?_;clear hK' K';refine aB (g:=none) rfl rfl fun K' hK'=>?_;simp (maxSteps:=4000000) only[sH,↓sP,sA,tyS,simprocAttr,dJ];refine cM (args:=[_]) (cD2 (gR d) (by omega) (bT1 hd)) ⟨rfl,rfl,rfl,rfl⟩ ?_;rintro u v ⟨rfl,rfl⟩;repeat refine AI ?_
  refine hK' _ _ ?_;clear hK' K';iterate 4
   (refine aB (g:=none) rfl rfl fun K' hK'=>?_;simp only[sH,↓sP,sA,tyS,simprocAttr,dJ];(repeat refine AI ?_);refine hK' _ _ ?_;clear hK' K')
  simp only[sE,↓reduceIte,simprocAttr];repeat refine AI ?_
  refine hK _ _ _ ?_;clear hK K;refine aJ ?_;simp (maxSteps:=4000000) only[aR,Tryz.results22,aP,aQ,aN,↓sP,sA,tyS,simprocAttr];exact bH [] (.slc ((qU (gR d)).map dD)) (.int .i64 (nM (gR d))) (by simp[HV.close,HV.closeL,CV.denil,CV.denilL,bN,HV.norm,HV.toC,HV.toCL]) ⟨by rw[dvO,if_pos hfine],by rw[dvE,if_pos hfine]⟩
 by_cases h0:eJ d.t=true
 ·
  refine aC (by kernel_rfl) ?_;simp only[sR,simprocAttr];iterate 2
   (refine aB (g:=none) rfl rfl fun K' hK'=>?_;simp only[sH,↓sP,sA,tyS,simprocAttr,eF,h0];(repeat refine AI ?_);refine hK' _ _ ?_;clear hK' K')
  refine aB (g:=none) rfl rfl fun K' hK'=>?_;simp (maxSteps:=4000000) only[sH,↓sP,sA,tyS,simprocAttr,eF,h0];refine aU (args:=[_]) (jU d.t) ⟨rfl,rfl,rfl,rfl⟩ ?_;rintro u rfl;repeat refine AI ?_
  refine hK' _ _ ?_;clear hK' K';refine aB (g:=none) rfl rfl fun K' hK'=>?_;simp (maxSteps:=4000000) only[sH,↓sP,sA,tyS,simprocAttr,eF,h0];repeat refine AI ?_
  refine hK' _ _ ?_;clear hK' K';iterate 2
   (refine aB (g:=some (11,true)) rfl rfl fun K' hK'=>?_;simp only[sH,↓sP,sA,tyS,simprocAttr,eF,h0];(repeat refine AI ?_);refine hK' _ _ ?_;clear hK' K')
  refine aB (g:=some (11,true)) rfl rfl fun K' hK'=>?_;simp (maxSteps:=4000000) only[sH,↓sP,sA,tyS,simprocAttr,eF,h0];refine aU (args:=[_]) (jU d.r) ⟨rfl,rfl,rfl,rfl⟩ ?_;rintro u rfl;repeat refine AI ?_
  refine hK' _ _ ?_;clear hK' K';iterate 2
   (refine aB (g:=none) rfl rfl fun K' hK'=>?_;simp only[sH,↓sP,sA,tyS,simprocAttr,eF,h0];(repeat refine AI ?_);refine hK' _ _ ?_;clear hK' K')
  simp only[sE,↓reduceIte,simprocAttr];exact key (eJ d.r) _ _ _ (by rw[h0];rfl) (aG (by omega) (by simp[aX,fin_at,finA_at,upd_at,HV.men,HV.menL,HV.norm,HV.toC,HV.toCL,eF]) (by simp[aZ,fob_at,upd_at,none0_at,bL,HO.men,HV.men,HV.menL,HV.norm,HV.toC,HV.toCL,eF]))
 have h0':eJ d.t=false:=by simpa using h0
 refine aC (by kernel_rfl) ?_;simp only[sR,simprocAttr];iterate 2
  (refine aB (g:=none) rfl rfl fun K' hK'=>?_;simp only[sH,↓sP,sA,tyS,simprocAttr,eF,h0'];(repeat refine AI ?_);refine hK' _ _ ?_;clear hK' K')
 refine aB (g:=none) rfl rfl fun K' hK'=>?_;simp (maxSteps:=4000000) only[sH,↓sP,sA,tyS,simprocAttr,eF,h0'];refine aU (args:=[_]) (jU d.t) ⟨rfl,rfl,rfl,rfl⟩ ?_;rintro u rfl;repeat refine AI ?_
 refine hK' _ _ ?_;clear hK' K';refine aB (g:=none) rfl rfl fun K' hK'=>?_;simp (maxSteps:=4000000) only[sH,↓sP,sA,tyS,simprocAttr,eF,h0'];repeat refine AI ?_
 refine hK' _ _ ?_;clear hK' K';iterate 3
  (refine aB (g:=some (11,true)) rfl rfl fun K' hK'=>?_;simp only[sH,↓sP,sA,tyS,simprocAttr,eF,h0'];(repeat refine AI ?_);refine hK' _ _ ?_;clear hK' K')
 iterate 2
  (refine aB (g:=none) rfl rfl fun K' hK'=>?_;simp only[sH,↓sP,sA,tyS,simprocAttr,eF,h0'];(repeat refine AI ?_);refine hK' _ _ ?_;clear hK' K')
 simp only[sE,↓reduceIte,simprocAttr];exact key false _ _ _ (by rw[h0'];rfl) (aG (by omega) (by simp[aX,fin_at,finA_at,upd_at,HV.men,HV.menL,HV.norm,HV.toC,HV.toCL]) (by simp[aZ,fob_at,upd_at,none0_at,bL,HO.men,HV.men,HV.menL,HV.norm,HV.toC,HV.toCL]))
theorem setW_snoc (l:List Dig)(d:Dig):nI (dws (l++[d]))=mP (nI (dws l)) d.1:=by
 rw[mJ,nI,List.foldl_append];rfl
theorem bW2 (d:Dv)(hl:d.l.length<2^38)(hd:(dL d.l).length<2^38):cK Tryz.prog 25 [d.cv] (fun v=> ∃K:List Dig,v= .slc (K.map dg)∧dws K=aB5 d.l):=by
 refine bA Tryz.func25 rfl (by kernel_rfl) (bB _) (Nat.le_of_ble_eq_true rfl) ?_;refine aD fun K hK=>aC (by kernel_rfl) ?_;simp (maxSteps:=4000000) only[↓sP,sA,tyS,simprocAttr];repeat refine AI ?_
 refine hK _ _ _ ?_;clear hK K;refine aD fun K hK=>aC (by kernel_rfl) ?_;simp (maxSteps:=4000000) only[↓sP,sA,tyS,simprocAttr];repeat refine AI ?_
 refine hK _ _ _ ?_;clear hK K;refine aD fun K hK=>?_;refine aD fun K hK=>aC (by kernel_rfl) ?_;simp (maxSteps:=4000000) only[↓sP,sA,tyS,simprocAttr];repeat refine AI ?_
 refine hK _ _ _ ?_;clear hK K;refine aL ?_;refine dK [] (bV (fr2:=fin [(1,.ptr 0 0),(3,.c (.slc [])),(4,.c (.int .i64 0))]) (ob2:=fob [(0,.box 50 (.c d.cv))]) (nx2:=100) (aG (by omega) (by simp[aX,eI,fin_at,finA_at,upd_at,fob_at,HV.close,HV.closeL,CV.denil,CV.denilL,HV.men,HV.menL,HV.norm,HV.toC,HV.toCL]) (by simp[aZ,fM,fob_at,upd_at,none0_at,bL,HO.close,HV.close,HV.closeL,Dv.denil,HO.men,HV.men,HV.menL,HV.norm,HV.toC,HV.toCL])) ?_);refine bR (α:={y:Nat×List Dig//y.1≤d.l.length∧dws y.2=nI (dws (dL (d.l.take y.1)))∧y.2.length≤(dL (d.l.take y.1)).length}) (fun y=>(fin [(1,.ptr 0 0),(3,.c (.slc (y.1.2.map dg))),(4,.c (.int .i64 y.1.1))],fob [(0,.box 50 (.c d.cv))])) 200 (fun y=>d.l.length-y.1.1) ⟨(0,[]),by omega,rfl,by simp⟩ (aG (by omega) (by simp[aX,fin_at,finA_at,upd_at,HV.men,HV.menL,HV.norm,HV.toC,HV.toCL]) (by simp[aZ,fob_at,upd_at,none0_at,bL,HO.men,HV.men,HV.menL,HV.norm,HV.toC,HV.toCL])) ?_;rintro⟨⟨i,D0⟩,hi,hK1,hK2⟩;simp only at hi hK1 hK2⊢;refine aD fun K hK=>?_;refine aD fun K hK=>aC (by kernel_rfl) ?_;simp only[sR,simprocAttr];iterate 5
  (refine aB (g:=none) rfl rfl fun K' hK'=>?_;simp only[sH,↓sP,sA,tyS,simprocAttr,List.length_map];(repeat refine AI ?_);refine hK' _ _ ?_;clear hK' K')
 simp only[sE,↓reduceIte,simprocAttr];repeat refine AI ?_
 refine hK _ _ _ ?_;clear hK K;refine aF (b:=decide ((i:Int)<d.l.length)) rfl (fun hb=>?_) (fun hb=>?_)
 ·
  have hlt:i<d.l.length:=by have:=of_decide_eq_true hb;omega
  have hle:=docsL_le d.l (i+1);rw[iK hlt,List.length_append]at hle;clear hb;refine aK ?_;simp (maxSteps:=4000000) only[↓sP,sA,tyS,simprocAttr];repeat refine AI ?_
  refine hK _ _ _ ?_;clear hK K;refine aD fun K hK=>?_;refine aL ?_;refine aD fun K hK=>aC (by kernel_rfl) ?_;simp (maxSteps:=4000000) only[↓sP,sA,tyS,simprocAttr];repeat refine AI ?_
  refine hK _ _ _ ?_;clear hK K;refine aL ?_;obtain⟨A,hA⟩: ∃A,A=dL (d.l.take i):=⟨_,rfl⟩;rw[←hA]at hK1 hK2 hle;refine bR (α:={z:Nat×List Dig//z.1≤d.l[i].d.length∧dws z.2=nI (dws (A++d.l[i].d.take z.1))∧z.2.length≤A.length+z.1}) (fun z=>(fin [(1,.ptr 0 0),(3,.c (.slc (z.1.2.map dg))),(4,.c (.int .i64 i)),(5,.c (.int .i64 z.1.1))],fob [(0,.box 50 (.c d.cv))])) 500 (fun z=>d.l[i].d.length-z.1.1) ⟨(0,D0),by omega,by simpa using hK1,by simpa using hK2⟩ (aG (by omega) (by simp[aX,fin_at,finA_at,upd_at,HV.men,HV.menL,HV.norm,HV.toC,HV.toCL]) (by simp[aZ,fob_at,upd_at,none0_at,bL,HO.men,HV.men,HV.menL,HV.norm,HV.toC,HV.toCL])) ?_;rintro⟨⟨j,M⟩,hj,hM1,hM2⟩;simp only at hj hM1 hM2⊢;refine aD fun K hK=>?_;refine aD fun K hK=>aC (by kernel_rfl) ?_;simp only[sR,simprocAttr];iterate 9
   (refine aB (g:=none) rfl rfl fun K' hK'=>?_;simp only[sH,↓sP,sA,tyS,simprocAttr,Int.natCast_nonneg,Int.ofNat_lt,hlt,aY hlt,List.length_map];(repeat refine AI ?_);refine hK' _ _ ?_;clear hK' K')
  simp only[sE,↓reduceIte,simprocAttr];repeat refine AI ?_
  refine hK _ _ _ ?_;clear hK K;refine aF (b:=decide (j<d.l[i].d.length)) rfl (fun hb=>?_) (fun hb=>?_)
  ·
   have hlj:j<d.l[i].d.length:=by have:=of_decide_eq_true hb;omega
   clear hb;refine aK ?_;simp (maxSteps:=4000000) only[↓sP,sA,tyS,simprocAttr];repeat refine AI ?_
   refine hK _ _ _ ?_;clear hK K;refine aD fun K hK=>?_;refine aL ?_;refine aC (by kernel_rfl) ?_;simp only[sR,simprocAttr];iterate 10
    (refine aB (g:=none) rfl rfl fun K' hK'=>?_;simp only[sH,↓sP,sA,tyS,simprocAttr,Int.natCast_nonneg,Int.ofNat_lt,hlt,aY hlt,hlj,aY hlj,denilL_dg];(repeat refine AI ?_);refine hK' _ _ ?_;clear hK' K')
   refine aB (g:=none) rfl rfl fun K' hK'=>?_;simp (maxSteps:=4000000) only[sH,↓sP,sA,tyS,simprocAttr,Int.natCast_nonneg,Int.ofNat_lt,hlt,aY hlt,hlj,aY hlj,denilL_dg];refine aU (args:=[_,_]) (cD0 M d.l[i].d[j] (by omega)) ⟨rfl,rfl,rfl,rfl⟩ ?_;rintro u ⟨Q,rfl,hQ⟩;have hQl:Q.length≤M.length+1:=by
    have h1:=aJ7 (dws M) d.l[i].d[j].1;rw[←hQ,eK,eK]at h1;exact h1
   repeat refine AI ?_
   refine hK' _ _ ?_;clear hK' K';refine aB (g:=none) rfl rfl fun K' hK'=>?_;simp (maxSteps:=4000000) only[sH,↓sP,sA,tyS,simprocAttr,Int.natCast_nonneg,Int.ofNat_lt,hlt,aY hlt,hlj,aY hlj,denilL_dg];repeat refine AI ?_
   refine hK' _ _ ?_;clear hK' K';simp only[sE,↓reduceIte,simprocAttr];repeat refine AI ?_
   refine hK _ _ _ ?_;clear hK K;refine aC (by kernel_rfl) ?_;simp (maxSteps:=4000000) only[↓sP,sA,tyS,simprocAttr,IntWalk.i64_in _ (show-9223372036854775808≤(j:Int)+1∧(j:Int)+1≤9223372036854775807 by omega)];refine⟨⟨(j+1,Q),by show j+1≤_;omega,?_,by show Q.length≤A.length+(j+1);omega⟩,aG (by omega) (by simp[aX,fin_at,finA_at,upd_at,HV.men,HV.menL,HV.norm,HV.toC,HV.toCL]) (by simp[aZ,fob_at,upd_at,none0_at,bL,HO.men,HV.men,HV.menL,HV.norm,HV.toC,HV.toCL]),?_⟩
   · show dws Q=nI (dws (A++d.l[i].d.take (j+1)));rw[List.take_succ_eq_append_getElem hlj,←List.append_assoc,setW_snoc,←hM1,hQ]
   show d.l[i].d.length-(j+1)<d.l[i].d.length-j;omega
  have hje:j=d.l[i].d.length:=by have:=of_decide_eq_false hb;omega
  subst hje;clear hb;rw[List.take_length]at hM1;refine bJ ?_;simp (maxSteps:=4000000) only[↓sP,sA,tyS,simprocAttr];clear hK K;repeat refine AI ?_
  refine hK _ _ _ ?_;clear hK K;refine aC (by kernel_rfl) ?_;simp (maxSteps:=4000000) only[↓sP,sA,tyS,simprocAttr,IntWalk.i64_in _ (show-9223372036854775808≤(i:Int)+1∧(i:Int)+1≤9223372036854775807 by omega)];refine⟨⟨(i+1,M),by show i+1≤_;omega,?_,?_⟩,aG (by omega) (by simp[aX,fin_at,finA_at,upd_at,HV.men,HV.menL,HV.norm,HV.toC,HV.toCL]) (by simp[aZ,fob_at,upd_at,none0_at,bL,HO.men,HV.men,HV.menL,HV.norm,HV.toC,HV.toCL]),?_⟩
  · show dws M=nI (dws (dL (d.l.take (i+1))));rw[iK hlt,←hA];exact hM1
  · show M.length≤(dL (d.l.take (i+1))).length;rw[iK hlt,←hA,List.length_append];exact hM2
  show d.l.length-(i+1)<d.l.length-i;omega
 have hie:i=d.l.length:=by have:=of_decide_eq_false hb;omega
 subst hie;clear hb;rw[List.take_length]at hK1;refine bJ ?_;simp (maxSteps:=4000000) only[↓sP,sA,tyS,simprocAttr];clear hK K;repeat refine AI ?_
 refine hK _ _ _ ?_;clear hK K;refine aD fun K hK=>aC (by kernel_rfl) ?_;simp (maxSteps:=4000000) only[↓sP,sA,tyS,simprocAttr];repeat refine AI ?_
 refine hK _ _ _ ?_;clear hK K;refine aJ ?_;simp (maxSteps:=4000000) only[aR,Tryz.results25,aP,aQ,aN,↓sP,sA,tyS,simprocAttr];exact aI [] (.slc (D0.map dg)) (by simp[HV.close,CV.denil,denilL_dg,HV.norm,HV.toC]) ⟨D0,rfl,hK1⟩
end Go.Proofs.YthedbjfipmkpiaaGreatDoor
