/- Part of a proof: walks of functions of the program, by contracts, and the rules they use. By an AI agent. -/
import Derived.Test.YthedbjfipmkpiaaGreatDoorPl31g
import Derived.Test.YthedbjfipmkpiaaGreatDoorHdSb
import Derived.Test.YthedbjfipmkpiaaGreatDoorHlFl
import Derived.Test.YthedbjfipmkpiaaGreatDoorHdFm
import Derived.Test.YthedbjfipmkpiaaGreatDoorPl02g
import Derived.Test.YthedbjfipmkpiaaGreatDoorHdW9
import Derived.Test.YthedbjfipmkpiaaGreatDoorHdX6
import Derived.Test.YthedbjfipmkpiaaGreatDoorHdU2
import Derived.Test.YthedbjfipmkpiaaGreatDoorHdX3
set_option linter.unusedSimpArgs false
set_option linter.unusedVariables false
set_option linter.defProp false
namespace Go.Proofs.YthedbjfipmkpiaaGreatDoor
open Go Go.Hl Go.Pl
set_option maxRecDepth 10000
set_option maxHeartbeats 16000000
def hBs (s:aG)(i:Nat):List UInt8:=(List.range i).map (hB s)
theorem bH9 (s:aG)(i:Nat):(hBs s i).length=i:=by simp[hBs]
theorem cD9 (s:aG):hBs s 0=[]:=rfl
theorem cE0 (s:aG)(i:Nat):hBs s (i+1)=hBs s i++[hB s i]:=by simp[hBs,List.range_succ]
theorem aH2 (c:UInt8):cJ Tryz.prog 129 [.int .u8 c.toNat] (fun v=>v= .int .i64 (valL c:Nat)):=by
 refine cI Tryz.func129 rfl (by kernel_rfl) (dT _) (Nat.le_of_ble_eq_true rfl) ?_;refine aB fun K hK=>aD (by kernel_rfl) ?_;simp (maxSteps:=4000000) only[↓sP,sA,tyS,simprocAttr];repeat refine AI ?_
 refine hK _ _ _ ?_;clear hK K;refine aB fun K hK=>?_;refine aB fun K hK=>aD (by kernel_rfl) ?_;simp only[sR,simprocAttr];iterate 3
  (refine aE (g:=none) rfl rfl fun K' hK'=>?_;simp only[sH,↓sP,sA,tyS,simprocAttr];(repeat refine AI ?_);refine hK' _ _ ?_;clear hK' K')
 refine aL 4 rfl (fun h1_4=>?_) (fun h1_4=>?_)
 ·
  iterate 2
   (refine aE (g:=some (5,true)) rfl rfl fun K' hK'=>?_;simp only[sH,↓sP,sA,tyS,simprocAttr,h1_4];(repeat refine AI ?_);refine hK' _ _ ?_;clear hK' K')
  refine aE (g:=none) rfl rfl fun K' hK'=>?_;simp (maxSteps:=4000000) only[sH,↓sP,sA,tyS,simprocAttr,h1_4];repeat refine AI ?_
  refine hK' _ _ ?_;clear hK' K';refine aL 7 rfl (fun h1_7=>?_) (fun h1_7=>?_)
  ·
   simp only[h1_7];simp only[sE,↓reduceIte,simprocAttr];repeat refine AI ?_
   refine hK _ _ _ ?_;clear hK K;refine aH (b:=true) rfl (fun hb=>?_) (fun hb=>?_)
   ·
    have e1:IntKind.u8.wrap ((c.toNat:Int)-48)=((c.toNat-48:Nat):Int):=by simp at h1_4 h1_7;rw[IntWalk.u8_in _ (by omega)];omega
    have e2:IntKind.i64.wrap ((c.toNat-48:Nat):Int)=((c.toNat-48:Nat):Int):=by have:=c.toNat_lt;rw[IntWalk.i64_in _ (by omega)]
    refine aB fun K hK=>aD (by kernel_rfl) ?_;simp only[sR,simprocAttr];iterate 4
     (refine aE (g:=none) rfl rfl fun K' hK'=>?_;simp only[sH,↓sP,sA,tyS,simprocAttr,e1,e2,h1_4,h1_7];(repeat refine AI ?_);refine hK' _ _ ?_;clear hK' K')
    simp only[sE,↓reduceIte,simprocAttr];repeat refine AI ?_
    refine hK _ _ _ ?_;clear hK K;refine aF ?_;simp (maxSteps:=4000000) only[bS,Tryz.results129,bN,bR,bM,↓sP,sA,tyS,simprocAttr];refine aJ [] _ rfl ?_;simp only[decide_eq_true_eq,decide_eq_false_iff_not]at*;refine congrArg (CV.int IntKind.i64) ?_;unfold valL;split<;>(try split)<;>omega
   cases hb
  simp only[h1_7];simp only[sE,↓reduceIte,simprocAttr];repeat refine AI ?_
  refine hK _ _ _ ?_;clear hK K;refine aH (b:=false) rfl (fun hb=>?_) (fun hb=>?_)
  · cases hb
  refine aK ?_;simp (maxSteps:=4000000) only[↓sP,sA,tyS,simprocAttr];repeat refine AI ?_
  refine hK _ _ _ ?_;clear hK K;refine aB fun K hK=>?_;refine aB fun K hK=>aD (by kernel_rfl) ?_;simp only[sR,simprocAttr];iterate 3
   (refine aE (g:=none) rfl rfl fun K' hK'=>?_;simp only[sH,↓sP,sA,tyS,simprocAttr,h1_4,h1_7];(repeat refine AI ?_);refine hK' _ _ ?_;clear hK' K')
  refine aL 13 rfl (fun h3_13=>?_) (fun h3_13=>?_)
  ·
   iterate 2
    (refine aE (g:=some (14,true)) rfl rfl fun K' hK'=>?_;simp only[sH,↓sP,sA,tyS,simprocAttr,h1_4,h1_7,h3_13];(repeat refine AI ?_);refine hK' _ _ ?_;clear hK' K')
   refine aE (g:=none) rfl rfl fun K' hK'=>?_;simp (maxSteps:=4000000) only[sH,↓sP,sA,tyS,simprocAttr,h1_4,h1_7,h3_13];repeat refine AI ?_
   refine hK' _ _ ?_;clear hK' K';refine aL 16 rfl (fun h3_16=>?_) (fun h3_16=>?_)
   ·
    simp only[h3_16];simp only[sE,↓reduceIte,simprocAttr];repeat refine AI ?_
    refine hK _ _ _ ?_;clear hK K;refine aH (b:=true) rfl (fun hb=>?_) (fun hb=>?_)
    ·
     have e1:IntKind.u8.wrap ((c.toNat:Int)-97)=((c.toNat-97:Nat):Int):=by simp at h3_13 h3_16;rw[IntWalk.u8_in _ (by omega)];omega
     have e2:IntKind.i64.wrap ((c.toNat-97:Nat):Int)=((c.toNat-97:Nat):Int):=by have:=c.toNat_lt;rw[IntWalk.i64_in _ (by omega)]
     have e3:IntKind.i64.wrap (((c.toNat-97:Nat):Int)+10)=((c.toNat-97+10:Nat):Int):=by have:=c.toNat_lt;rw[IntWalk.i64_in _ (by omega)];omega
     refine aB fun K hK=>aD (by kernel_rfl) ?_;simp only[sR,simprocAttr];iterate 5
      (refine aE (g:=none) rfl rfl fun K' hK'=>?_;simp only[sH,↓sP,sA,tyS,simprocAttr,e1,e2,e3,h1_4,h1_7,h3_13,h3_16];(repeat refine AI ?_);refine hK' _ _ ?_;clear hK' K')
     simp only[sE,↓reduceIte,simprocAttr];repeat refine AI ?_
     refine hK _ _ _ ?_;clear hK K;refine aF ?_;simp (maxSteps:=4000000) only[bS,Tryz.results129,bN,bR,bM,↓sP,sA,tyS,simprocAttr];refine aJ [] _ rfl ?_;simp only[decide_eq_true_eq,decide_eq_false_iff_not]at*;refine congrArg (CV.int IntKind.i64) ?_;unfold valL;split<;>(try split)<;>omega
    cases hb
   simp only[h3_16];simp only[sE,↓reduceIte,simprocAttr];repeat refine AI ?_
   refine hK _ _ _ ?_;clear hK K;refine aH (b:=false) rfl (fun hb=>?_) (fun hb=>?_)
   · cases hb
   refine aK ?_;simp (maxSteps:=4000000) only[↓sP,sA,tyS,simprocAttr];repeat refine AI ?_
   refine hK _ _ _ ?_;clear hK K;refine aB fun K hK=>aD (by kernel_rfl) ?_;simp (maxSteps:=4000000) only[↓sP,sA,tyS,simprocAttr];repeat refine AI ?_
   refine hK _ _ _ ?_;clear hK K;refine aF ?_;simp (maxSteps:=4000000) only[bS,Tryz.results129,bN,bR,bM,↓sP,sA,tyS,simprocAttr];refine aJ [] _ rfl ?_;simp only[decide_eq_true_eq,decide_eq_false_iff_not]at*;refine congrArg (CV.int IntKind.i64) ?_;unfold valL;split<;>(try split)<;>omega
  iterate 2
   (refine aE (g:=some (14,true)) rfl rfl fun K' hK'=>?_;simp only[sH,↓sP,sA,tyS,simprocAttr,h1_4,h1_7,h3_13];(repeat refine AI ?_);refine hK' _ _ ?_;clear hK' K')
  refine aE (g:=none) rfl rfl fun K' hK'=>?_;simp (maxSteps:=4000000) only[sH,↓sP,sA,tyS,simprocAttr,h1_4,h1_7,h3_13];repeat refine AI ?_
  refine hK' _ _ ?_;clear hK' K';simp only[sE,↓reduceIte,simprocAttr];repeat refine AI ?_
  refine hK _ _ _ ?_;clear hK K;refine aH (b:=false) rfl (fun hb=>?_) (fun hb=>?_)
  · cases hb
  refine aK ?_;simp (maxSteps:=4000000) only[↓sP,sA,tyS,simprocAttr];repeat refine AI ?_
  refine hK _ _ _ ?_;clear hK K;refine aB fun K hK=>aD (by kernel_rfl) ?_;simp (maxSteps:=4000000) only[↓sP,sA,tyS,simprocAttr];repeat refine AI ?_
  refine hK _ _ _ ?_;clear hK K;refine aF ?_;simp (maxSteps:=4000000) only[bS,Tryz.results129,bN,bR,bM,↓sP,sA,tyS,simprocAttr];refine aJ [] _ rfl ?_;simp only[decide_eq_true_eq,decide_eq_false_iff_not]at*;refine congrArg (CV.int IntKind.i64) ?_;unfold valL;split<;>(try split)<;>omega
 iterate 2
  (refine aE (g:=some (5,true)) rfl rfl fun K' hK'=>?_;simp only[sH,↓sP,sA,tyS,simprocAttr,h1_4];(repeat refine AI ?_);refine hK' _ _ ?_;clear hK' K')
 refine aE (g:=none) rfl rfl fun K' hK'=>?_;simp (maxSteps:=4000000) only[sH,↓sP,sA,tyS,simprocAttr,h1_4];repeat refine AI ?_
 refine hK' _ _ ?_;clear hK' K';simp only[sE,↓reduceIte,simprocAttr];repeat refine AI ?_
 refine hK _ _ _ ?_;clear hK K;refine aH (b:=false) rfl (fun hb=>?_) (fun hb=>?_)
 · cases hb
 refine aK ?_;simp (maxSteps:=4000000) only[↓sP,sA,tyS,simprocAttr];repeat refine AI ?_
 refine hK _ _ _ ?_;clear hK K;refine aB fun K hK=>?_;refine aB fun K hK=>aD (by kernel_rfl) ?_;simp only[sR,simprocAttr];iterate 3
  (refine aE (g:=none) rfl rfl fun K' hK'=>?_;simp only[sH,↓sP,sA,tyS,simprocAttr,h1_4];(repeat refine AI ?_);refine hK' _ _ ?_;clear hK' K')
 refine aL 13 rfl (fun h3_13=>?_) (fun h3_13=>?_)
 ·
  iterate 2
   (refine aE (g:=some (14,true)) rfl rfl fun K' hK'=>?_;simp only[sH,↓sP,sA,tyS,simprocAttr,h1_4,h3_13];(repeat refine AI ?_);refine hK' _ _ ?_;clear hK' K')
  refine aE (g:=none) rfl rfl fun K' hK'=>?_;simp (maxSteps:=4000000) only[sH,↓sP,sA,tyS,simprocAttr,h1_4,h3_13];repeat refine AI ?_
  refine hK' _ _ ?_;clear hK' K';refine aL 16 rfl (fun h3_16=>?_) (fun h3_16=>?_)
  ·
   simp only[h3_16];simp only[sE,↓reduceIte,simprocAttr];repeat refine AI ?_
   refine hK _ _ _ ?_;clear hK K;refine aH (b:=true) rfl (fun hb=>?_) (fun hb=>?_)
   ·
    have e1:IntKind.u8.wrap ((c.toNat:Int)-97)=((c.toNat-97:Nat):Int):=by simp at h3_13 h3_16;rw[IntWalk.u8_in _ (by omega)];omega
    have e2:IntKind.i64.wrap ((c.toNat-97:Nat):Int)=((c.toNat-97:Nat):Int):=by have:=c.toNat_lt;rw[IntWalk.i64_in _ (by omega)]
    have e3:IntKind.i64.wrap (((c.toNat-97:Nat):Int)+10)=((c.toNat-97+10:Nat):Int):=by have:=c.toNat_lt;rw[IntWalk.i64_in _ (by omega)];omega
    refine aB fun K hK=>aD (by kernel_rfl) ?_;simp only[sR,simprocAttr];iterate 5
     (refine aE (g:=none) rfl rfl fun K' hK'=>?_;simp only[sH,↓sP,sA,tyS,simprocAttr,e1,e2,e3,h1_4,h3_13,h3_16];(repeat refine AI ?_);refine hK' _ _ ?_;clear hK' K')
    simp only[sE,↓reduceIte,simprocAttr];repeat refine AI ?_
    refine hK _ _ _ ?_;clear hK K;refine aF ?_;simp (maxSteps:=4000000) only[bS,Tryz.results129,bN,bR,bM,↓sP,sA,tyS,simprocAttr];refine aJ [] _ rfl ?_;simp only[decide_eq_true_eq,decide_eq_false_iff_not]at*;refine congrArg (CV.int IntKind.i64) ?_;unfold valL;split<;>(try split)<;>omega
   cases hb
  simp only[h3_16];simp only[sE,↓reduceIte,simprocAttr];repeat refine AI ?_
  refine hK _ _ _ ?_;clear hK K;refine aH (b:=false) rfl (fun hb=>?_) (fun hb=>?_)
  · cases hb
  refine aK ?_;simp (maxSteps:=4000000) only[↓sP,sA,tyS,simprocAttr];repeat refine AI ?_
  refine hK _ _ _ ?_;clear hK K;refine aB fun K hK=>aD (by kernel_rfl) ?_;simp (maxSteps:=4000000) only[↓sP,sA,tyS,simprocAttr];repeat refine AI ?_
  refine hK _ _ _ ?_;clear hK K;refine aF ?_;simp (maxSteps:=4000000) only[bS,Tryz.results129,bN,bR,bM,↓sP,sA,tyS,simprocAttr];refine aJ [] _ rfl ?_;simp only[decide_eq_true_eq,decide_eq_false_iff_not]at*;refine congrArg (CV.int IntKind.i64) ?_;unfold valL;split<;>(try split)<;>omega
 iterate 2
  (refine aE (g:=some (14,true)) rfl rfl fun K' hK'=>?_;simp only[sH,↓sP,sA,tyS,simprocAttr,h1_4,h3_13];(repeat refine AI ?_);refine hK' _ _ ?_;clear hK' K')
 refine aE (g:=none) rfl rfl fun K' hK'=>?_;simp (maxSteps:=4000000) only[sH,↓sP,sA,tyS,simprocAttr,h1_4,h3_13];repeat refine AI ?_
 refine hK' _ _ ?_;clear hK' K';simp only[sE,↓reduceIte,simprocAttr];repeat refine AI ?_
 refine hK _ _ _ ?_;clear hK K;refine aH (b:=false) rfl (fun hb=>?_) (fun hb=>?_)
 · cases hb
 refine aK ?_;simp (maxSteps:=4000000) only[↓sP,sA,tyS,simprocAttr];repeat refine AI ?_
 refine hK _ _ _ ?_;clear hK K;refine aB fun K hK=>aD (by kernel_rfl) ?_;simp (maxSteps:=4000000) only[↓sP,sA,tyS,simprocAttr];repeat refine AI ?_
 refine hK _ _ _ ?_;clear hK K;refine aF ?_;simp (maxSteps:=4000000) only[bS,Tryz.results129,bN,bR,bM,↓sP,sA,tyS,simprocAttr];refine aJ [] _ rfl ?_;simp only[decide_eq_true_eq,decide_eq_false_iff_not]at*;refine congrArg (CV.int IntKind.i64) ?_;unfold valL;split<;>(try split)<;>omega
theorem bQ4 (s:aG)(n:Nat)(hn:n<1000):eU Tryz.prog 99 [.str s,.int .i64 n] (fun u v=>u= .slc (((cW s n).getD []).map u8)∧v= .bool (cW s n).isSome):=by
 have hw2:IntKind.i64.wrap (2*(n:Int))=((2*n:Nat):Int):=by rw[IntWalk.i64_in _ (by omega)];omega
 refine cI Tryz.func99 rfl (by kernel_rfl) (dT _) (Nat.le_of_ble_eq_true rfl) ?_;refine aB fun K hK=>aD (by kernel_rfl) ?_;simp (maxSteps:=4000000) only[↓sP,sA,tyS,simprocAttr];repeat refine AI ?_
 refine hK _ _ _ ?_;clear hK K;refine aB fun K hK=>?_;refine aB fun K hK=>aD (by kernel_rfl) ?_;simp only[sR,simprocAttr];iterate 5
  (refine aE (g:=none) rfl rfl fun K' hK'=>?_;simp only[sH,↓sP,sA,tyS,simprocAttr,hw2];(repeat refine AI ?_);refine hK' _ _ ?_;clear hK' K')
 simp only[sE,↓reduceIte,simprocAttr];repeat refine AI ?_
 refine hK _ _ _ ?_;clear hK K;refine aH (b:=(s.length:Int) !=((2*n:Nat):Int)) rfl (fun hb=>?_) (fun hb=>?_)
 ·
  refine aB fun K hK=>aD (by kernel_rfl) ?_;simp (maxSteps:=4000000) only[↓sP,sA,tyS,simprocAttr];repeat refine AI ?_
  refine hK _ _ _ ?_;clear hK K;refine aF ?_;simp (maxSteps:=4000000) only[bS,Tryz.results99,bN,bR,bM,↓sP,sA,tyS,simprocAttr];have hv:cW s n=none:=qX (by simp at hb;omega);refine aR [] (.slc []) (.bool false) ?_ ⟨by rw[hv];rfl,by rw[hv];rfl⟩;simp[HV.close,HV.closeL,CV.denil,CV.denilL,HV.norm,HV.toC,HV.toCL]
 refine aK ?_;simp (maxSteps:=4000000) only[↓sP,sA,tyS,simprocAttr];repeat refine AI ?_
 refine hK _ _ _ ?_;clear hK K;have hlen:s.length=2*n:=by simp at hb;omega
 clear hb;refine aB fun K hK=>aD (by kernel_rfl) ?_;simp (maxSteps:=4000000) only[↓sP,sA,tyS,simprocAttr];repeat refine AI ?_
 refine hK _ _ _ ?_;clear hK K;refine aB fun K hK=>?_;refine aB fun K hK=>aD (by kernel_rfl) ?_;simp (maxSteps:=4000000) only[↓sP,sA,tyS,simprocAttr];repeat refine AI ?_
 refine hK _ _ _ ?_;clear hK K;refine aN ?_;refine gQ 6 0 5 1 rfl rfl rfl rfl ?_;refine bF (α:={i:Nat//i≤n∧ ∀j,j<i→hOk s j=true}) (fun i=>(fin [(0,.c (.str s)),(1,.c (.int .i64 n)),(6,.own 36 i.1),(7,.c (.int .i64 i.1))],fob [(36,.row 5 1 ((hBs s i.1).map u8))])) 100 (fun i=>n-i.1) ⟨0,by omega,fun j hj=>absurd hj (by omega)⟩ (by simp only[cD9,List.map_nil];exact aM (by omega) (by simp[aW,fin_at,finA_at,upd_at,HV.men,HV.menL,HV.norm,HV.toC,HV.toCL]) (by simp[aX,fob_at,upd_at,none0_at,bT,HO.men,HV.men,HV.menL,HV.norm,HV.toC,HV.toCL])) ?_;rintro⟨i,hi,hok⟩;have hrl:=bH9 s i;refine aB fun K hK=>?_;refine aB fun K hK=>aD (by kernel_rfl) ?_;simp (maxSteps:=4000000) only[↓sP,sA,tyS,simprocAttr];repeat refine AI ?_
 refine hK _ _ _ ?_;clear hK K;refine aH (b:=decide ((i:Int)<(n:Int))) rfl (fun hb=>?_) (fun hb=>?_)
 ·
  have hlt:i<n:=by simp at hb;omega
  clear hb;have hv2:IntKind.i64.wrap (2*(i:Int))=((2*i:Nat):Int):=by rw[IntWalk.i64_in _ (by omega)];omega
  have hv3:IntKind.i64.wrap (((2*i:Nat):Int)+1)=((2*i+1:Nat):Int):=by rw[IntWalk.i64_in _ (by omega)];rfl
  have hgx:s.getD (2*i) 0=hX s i:=rfl;have hgy:s.getD (2*i+1) 0=hY s i:=rfl;have hl1:2*i<s.length:=by omega
  have hl2:2*i+1<s.length:=by omega
  refine aK ?_;simp (maxSteps:=4000000) only[↓sP,sA,tyS,simprocAttr];repeat refine AI ?_
  refine hK _ _ _ ?_;clear hK K;refine aB fun K hK=>?_;refine aN ?_;refine aB fun K hK=>aO9 mixed [(0,[],[]),(1,[],[]),(2,[],[]),(3,[],[]),(5,[],[]),(6,[],[]),(7,[],[]),(8,[],[]),(9,[],[]),(4,[],[5,6,7,8,9]),(10,[],[]),(11,[],[]),(12,[],[])] [0,0,2,7,15,0,0,64,192,480,1023,2047,4095] (by kernel_rfl) (by kernel_rfl) (by kernel_rfl) (by kernel_rfl) rfl (by kernel_rfl) ?_;iterate 9
   (refine bL (g:=none) rfl rfl fun K' hK'=>?_;simp only[sH,↓sP,sA,tyS,simprocAttr,Int.natCast_nonneg,Int.ofNat_lt,hv2,hv3,hgx,hgy,hl1,hl2];(repeat refine AI ?_);refine hK' _ _ ?_;clear hK' K')
  refine bL (g:=none) rfl rfl fun K' hK'=>?_;simp (maxSteps:=4000000) only[sH,↓sP,sA,tyS,simprocAttr,Int.natCast_nonneg,Int.ofNat_lt,hv2,hv3,hgx,hgy,hl1,hl2];refine dN (args:=[_]) (aH2 (hX s i)) ⟨rfl,rfl,rfl,rfl⟩ ?_;rintro u rfl;repeat refine AI ?_
  refine hK' _ _ ?_;clear hK' K';refine bL (g:=none) rfl rfl fun K' hK'=>?_;simp (maxSteps:=4000000) only[sH,↓sP,sA,tyS,simprocAttr,Int.natCast_nonneg,Int.ofNat_lt,hv2,hv3,hgx,hgy,hl1,hl2];refine dN (args:=[_]) (aH2 (hY s i)) ⟨rfl,rfl,rfl,rfl⟩ ?_;rintro u rfl;repeat refine AI ?_
  refine hK' _ _ ?_;clear hK' K';iterate 2
   (refine bL (g:=none) rfl rfl fun K' hK'=>?_;simp only[sH,↓sP,sA,tyS,simprocAttr,Int.natCast_nonneg,Int.ofNat_lt,hv2,hv3,hgx,hgy,hl1,hl2];(repeat refine AI ?_);refine hK' _ _ ?_;clear hK' K')
  simp only[sE,↓reduceIte,simprocAttr];repeat refine AI ?_
  refine hK _ _ _ ?_;clear hK K;refine aB fun K hK=>?_;have hx:=bF0 (hX s i);have hy:=bF0 (hY s i);refine aB fun K hK=>aD (by kernel_rfl) ?_;simp only[sR,simprocAttr];iterate 3
   (refine aE (g:=none) rfl rfl fun K' hK'=>?_;simp only[sH,↓sP,sA,tyS,simprocAttr];(repeat refine AI ?_);refine hK' _ _ ?_;clear hK' K')
  refine aL 32 rfl (fun h8_32=>?_) (fun h8_32=>?_)
  ·
   iterate 2
    (refine aE (g:=some (33,false)) rfl rfl fun K' hK'=>?_;simp only[sH,↓sP,sA,tyS,simprocAttr,h8_32];(repeat refine AI ?_);refine hK' _ _ ?_;clear hK' K')
   refine aE (g:=none) rfl rfl fun K' hK'=>?_;simp (maxSteps:=4000000) only[sH,↓sP,sA,tyS,simprocAttr,h8_32];repeat refine AI ?_
   refine hK' _ _ ?_;clear hK' K';simp only[sE,↓reduceIte,simprocAttr];repeat refine AI ?_
   refine hK _ _ _ ?_;clear hK K;refine aH (b:=true) rfl (fun hb=>?_) (fun hb=>?_)
   ·
    refine aB fun K hK=>aD (by kernel_rfl) ?_;simp (maxSteps:=4000000) only[↓sP,sA,tyS,simprocAttr];repeat refine AI ?_
    refine hK _ _ _ ?_;clear hK K;refine aF ?_;simp (maxSteps:=4000000) only[bS,Tryz.results99,bN,bR,bM,↓sP,sA,tyS,simprocAttr];have hk:hOk s i=false:=by simp at h8_32;simp[hOk];omega
    have hv:cW s n=none:=by
     unfold cW;rw[if_neg];rintro⟨_,h⟩;have:=List.all_eq_true.1 h i (List.mem_range.2 hlt);rw[hk]at this;cases this
    refine aR [] (.slc []) (.bool false) ?_ ⟨by rw[hv];rfl,by rw[hv];rfl⟩;simp[HV.close,HV.closeL,CV.denil,CV.denilL,HV.norm,HV.toC,HV.toCL]
   cases hb
  iterate 2
   (refine aE (g:=some (33,false)) rfl rfl fun K' hK'=>?_;simp only[sH,↓sP,sA,tyS,simprocAttr,h8_32];(repeat refine AI ?_);refine hK' _ _ ?_;clear hK' K')
  refine aE (g:=none) rfl rfl fun K' hK'=>?_;simp (maxSteps:=4000000) only[sH,↓sP,sA,tyS,simprocAttr,h8_32];repeat refine AI ?_
  refine hK' _ _ ?_;clear hK' K';refine aL 35 rfl (fun h8_35=>?_) (fun h8_35=>?_)
  ·
   simp only[h8_35];simp only[sE,↓reduceIte,simprocAttr];repeat refine AI ?_
   refine hK _ _ _ ?_;clear hK K;refine aH (b:=true) rfl (fun hb=>?_) (fun hb=>?_)
   ·
    refine aB fun K hK=>aD (by kernel_rfl) ?_;simp (maxSteps:=4000000) only[↓sP,sA,tyS,simprocAttr];repeat refine AI ?_
    refine hK _ _ _ ?_;clear hK K;refine aF ?_;simp (maxSteps:=4000000) only[bS,Tryz.results99,bN,bR,bM,↓sP,sA,tyS,simprocAttr];have hk:hOk s i=false:=by simp at h8_35;simp[hOk];omega
    have hv:cW s n=none:=by
     unfold cW;rw[if_neg];rintro⟨_,h⟩;have:=List.all_eq_true.1 h i (List.mem_range.2 hlt);rw[hk]at this;cases this
    refine aR [] (.slc []) (.bool false) ?_ ⟨by rw[hv];rfl,by rw[hv];rfl⟩;simp[HV.close,HV.closeL,CV.denil,CV.denilL,HV.norm,HV.toC,HV.toCL]
   cases hb
  simp only[h8_35];simp only[sE,↓reduceIte,simprocAttr];repeat refine AI ?_
  refine hK _ _ _ ?_;clear hK K;refine aH (b:=false) rfl (fun hb=>?_) (fun hb=>?_)
  · cases hb
  refine aK ?_;simp (maxSteps:=4000000) only[↓sP,sA,tyS,simprocAttr];repeat refine AI ?_
  refine hK _ _ _ ?_;clear hK K;have hx':valL (hX s i)<16:=by simp at h8_32;omega
  have hy':valL (hY s i)<16:=by simp at h8_35;omega
  have e1:IntKind.i64.wrap (16*((valL (hX s i):Nat):Int))=((16*valL (hX s i):Nat):Int):=by rw[IntWalk.i64_in _ (by omega)];omega
  have e2:IntKind.i64.wrap (((16*valL (hX s i):Nat):Int)+((valL (hY s i):Nat):Int))=((16*valL (hX s i)+valL (hY s i):Nat):Int):=by rw[IntWalk.i64_in _ (by omega)];omega
  have e3:IntKind.u8.wrap ((16*valL (hX s i)+valL (hY s i):Nat):Int)=((hB s i).toNat:Int):=by rw[IntWalk.u8_in _ (by omega),bX8 hx' hy']
  refine aD (by kernel_rfl) ?_;simp only[sR,simprocAttr];iterate 9
   (refine aE (g:=none) rfl rfl fun K' hK'=>?_;simp only[sH,↓sP,sA,tyS,simprocAttr,e1,e2,e3,Int.natCast_nonneg,List.length_append,List.length_map,hrl,h8_32,h8_35];(repeat refine AI ?_);refine hK' _ _ ?_;clear hK' K')
  simp only[sE,↓reduceIte,simprocAttr];repeat refine AI ?_
  refine hK _ _ _ ?_;clear hK K;refine aD (by kernel_rfl) ?_;simp (maxSteps:=4000000) only[↓sP,sA,tyS,simprocAttr,IntWalk.i64_in _ (show-9223372036854775808≤(i:Int)+1∧(i:Int)+1≤9223372036854775807 by omega)];have hok': ∀j,j<i+1→hOk s j=true:=fun j hj=>by
   rcases Nat.lt_or_ge j i with h|h
   · exact hok j h
   have:j=i:=by omega
   subst this;simp[hOk,hx',hy']
  refine⟨⟨i+1,hlt,hok'⟩,aM (by omega) ?_ ?_,?_⟩
  · simp[aW,upd_at,fin_at,HV.men]
  · simp only[aX,cE0,List.map_append,List.map_cons,List.map_nil];exact⟨rfl,by omega,trivial,trivial⟩
  show n-(i+1)<n-i;omega
 refine bA ?_;simp (maxSteps:=4000000) only[↓sP,sA,tyS,simprocAttr];clear hK K;repeat refine AI ?_
 refine hK _ _ _ ?_;clear hK K;refine aB fun K hK=>aD (by kernel_rfl) ?_;simp (maxSteps:=4000000) only[↓sP,sA,tyS,simprocAttr];repeat refine AI ?_
 refine hK _ _ _ ?_;clear hK K;refine aF ?_;simp (maxSteps:=4000000) only[bS,Tryz.results99,bN,bR,bM,↓sP,sA,tyS,simprocAttr];have hin:i=n:=by simp at hb;omega
 subst hin;have hv:cW s i=some (hBs s i):=by
  unfold cW;rw[if_pos ⟨hlen,List.all_eq_true.2 fun j hj=>hok j (List.mem_range.1 hj)⟩];rfl
 refine aR [36] (.slc ((hBs s i).map u8)) (.bool true) ?_ ⟨by rw[hv];rfl,by rw[hv];rfl⟩;simp[HV.close,HV.closeL,upd_at,fob_at,HV.norm,HV.toC,HV.toCL,CV.denil,bH9,List.take_of_length_le]
def nL (n:Nat)(l:List UInt8)(i:Nat):List UInt8:=l.take i++List.replicate (n-i) 0
theorem bB7 (n:Nat)(l:List UInt8):nL n l 0=List.replicate n 0:=by simp[nL]
variable {i n:Nat}{l:List UInt8}
theorem bQ5 (h:i≤l.length)(hl:l.length≤n):(nL n l i).length=n:=by simp[nL];omega
theorem bQ6 (h:i<l.length)(hl:l.length≤n):(nL n l i).set i l[i]=nL n l (i+1):=by
 unfold nL;rw[List.set_append_right _ _ (by rw[List.length_take];exact Nat.min_le_left _ _),List.take_succ_eq_append_getElem h,show n-i=n-(i+1)+1 from by omega,List.replicate_succ,List.append_assoc];simp[Nat.min_eq_left (Nat.le_of_lt h)]
theorem bQ7 (hl:l.length=n):nL n l l.length=l:=by subst hl;simp[nL]
theorem bQ8 {s:aG}:((cW s n).getD []).length≤n:=by
 cases h:cW s n with
 |none=>simp
 |some l=>simp[jI h]
theorem kV (s:aG):eU Tryz.prog 67 [.str s] (fun u v=>u=dg ((eK s).getD zdg)∧v= .bool (eK s).isSome):=by
 refine cI Tryz.func67 rfl (by kernel_rfl) (dT _) (Nat.le_of_ble_eq_true rfl) ?_;refine aB fun K hK=>aD (by kernel_rfl) ?_;simp (maxSteps:=4000000) only[↓sP,sA,tyS,simprocAttr];repeat refine AI ?_
 refine hK _ _ _ ?_;clear hK K;refine aB fun K hK=>aD (by kernel_rfl) ?_;simp (maxSteps:=4000000) only[↓sP,sA,tyS,simprocAttr];repeat refine AI ?_
 refine hK _ _ _ ?_;clear hK K;refine aB fun K hK=>?_;refine aB fun K hK=>aD (by kernel_rfl) ?_;simp only[sR,simprocAttr];iterate 4
  (refine aE (g:=none) rfl rfl fun K' hK'=>?_;simp only[sH,↓sP,sA,tyS,simprocAttr,List.drop_zero,Nat.sub_zero];(repeat refine AI ?_);refine hK' _ _ ?_;clear hK' K')
 refine aL 10 rfl (fun h2_10=>?_) (fun h2_10=>?_)
 ·
  iterate 3
   (refine aE (g:=some (11,false)) rfl rfl fun K' hK'=>?_;simp only[sH,↓sP,sA,tyS,simprocAttr,List.drop_zero,Nat.sub_zero,h2_10];(repeat refine AI ?_);refine hK' _ _ ?_;clear hK' K')
  refine aE (g:=none) rfl rfl fun K' hK'=>?_;simp (maxSteps:=4000000) only[sH,↓sP,sA,tyS,simprocAttr,List.drop_zero,Nat.sub_zero,h2_10];repeat refine AI ?_
  refine hK' _ _ ?_;clear hK' K';simp only[sE,↓reduceIte,simprocAttr];repeat refine AI ?_
  refine hK _ _ _ ?_;clear hK K;refine aH (b:=true) rfl (fun hb=>?_) (fun hb=>?_)
  ·
   refine aB fun K hK=>aD (by kernel_rfl) ?_;simp (maxSteps:=4000000) only[↓sP,sA,tyS,simprocAttr,bH,bI,dJ,eP,oC];repeat refine AI ?_
   refine hK _ _ _ ?_;clear hK K;refine aF ?_;simp (maxSteps:=4000000) only[bS,Tryz.results67,bN,bR,bM,↓sP,sA,tyS,simprocAttr];have hn:eK s=none:=mH (fun _=>qX (by simp at h2_10⊢;omega));refine aR [] zd (.bool false) rfl ⟨by rw[hn];rfl,by rw[hn];rfl⟩
  cases hb
 refine aE (g:=some (11,false)) rfl rfl fun K' hK'=>?_;simp (maxSteps:=4000000) only[sH,↓sP,sA,tyS,simprocAttr,List.drop_zero,Nat.sub_zero,h2_10];repeat refine AI ?_
 refine hK' _ _ ?_;clear hK' K';refine aE (g:=some (11,false)) rfl rfl fun K' hK'=>?_;simp (maxSteps:=4000000) only[sH,↓sP,sA,tyS,simprocAttr,List.drop_zero,Nat.sub_zero,h2_10];refine⟨by simp at h2_10;omega,?_⟩;repeat refine AI ?_
 refine hK' _ _ ?_;clear hK' K';refine aE (g:=some (11,false)) rfl rfl fun K' hK'=>?_;simp (maxSteps:=4000000) only[sH,↓sP,sA,tyS,simprocAttr,List.drop_zero,Nat.sub_zero,h2_10];repeat refine AI ?_
 refine hK' _ _ ?_;clear hK' K';refine aE (g:=none) rfl rfl fun K' hK'=>?_;simp (maxSteps:=4000000) only[sH,↓sP,sA,tyS,simprocAttr,List.drop_zero,Nat.sub_zero,h2_10];repeat refine AI ?_
 refine hK' _ _ ?_;clear hK' K';refine aL 14 rfl (fun h2_14=>?_) (fun h2_14=>?_)
 ·
  simp only[h2_14];simp only[sE,↓reduceIte,simprocAttr];repeat refine AI ?_
  refine hK _ _ _ ?_;clear hK K;refine aH (b:=true) rfl (fun hb=>?_) (fun hb=>?_)
  ·
   refine aB fun K hK=>aD (by kernel_rfl) ?_;simp (maxSteps:=4000000) only[↓sP,sA,tyS,simprocAttr,bH,bI,dJ,eP,oC];repeat refine AI ?_
   refine hK _ _ _ ?_;clear hK K;refine aF ?_;simp (maxSteps:=4000000) only[bS,Tryz.results67,bN,bR,bM,↓sP,sA,tyS,simprocAttr];have hn:eK s=none:=mH (fun hp=>by
    unfold prefB at hp;simp only[Bool.and_eq_true]at hp;have:s.take 7=shaW:=eq_of_beq hp.2;rw[this]at h2_14;exact absurd h2_14 (by decide))
   refine aR [] zd (.bool false) rfl ⟨by rw[hn];rfl,by rw[hn];rfl⟩
  cases hb
 simp only[h2_14];simp only[sE,↓reduceIte,simprocAttr];repeat refine AI ?_
 refine hK _ _ _ ?_;clear hK K;refine aH (b:=false) rfl (fun hb=>?_) (fun hb=>?_)
 · cases hb
 refine aK ?_;simp (maxSteps:=4000000) only[↓sP,sA,tyS,simprocAttr];repeat refine AI ?_
 refine hK _ _ _ ?_;clear hK K;have hs:s.length=71:=by simp at h2_10;omega
 have hp:prefB s shaW=true:=by
  unfold prefB;have e:s.take 7=shaW:=by simpa[shaW]using h2_14
  rw[show shaW.length=7 from rfl,e,hs];rfl
 have htd:List.take (s.length-7) (List.drop 7 s)=List.drop 7 s:=List.take_of_length_le (by simp);have h7:(7:Int)≤(s.length:Int):=by omega
 have h7':7≤s.length:=by omega
 refine aB fun K hK=>aD (by kernel_rfl) ?_;simp only[sR,simprocAttr];iterate 2
  (refine aE (g:=none) rfl rfl fun K' hK'=>?_;simp only[sH,↓sP,sA,tyS,simprocAttr,htd,h7,h7',Int.natCast_nonneg,Int.ofNat_le,h2_10,h2_14];(repeat refine AI ?_);refine hK' _ _ ?_;clear hK' K')
 refine aE (g:=none) rfl rfl fun K' hK'=>?_;simp (maxSteps:=4000000) only[sH,↓sP,sA,tyS,simprocAttr,htd,h7,h7',Int.natCast_nonneg,Int.ofNat_le,h2_10,h2_14];refine iK (args:=[_,_]) (bQ4 (s.drop 7) 32 (by omega)) ⟨rfl,rfl,rfl,rfl⟩ ?_;rintro u v ⟨rfl,rfl⟩;repeat refine AI ?_
 refine hK' _ _ ?_;clear hK' K';iterate 5
  (refine aE (g:=none) rfl rfl fun K' hK'=>?_;simp only[sH,↓sP,sA,tyS,simprocAttr,htd,h7,h7',Int.natCast_nonneg,Int.ofNat_le,h2_10,h2_14];(repeat refine AI ?_);refine hK' _ _ ?_;clear hK' K')
 simp only[sE,↓reduceIte,simprocAttr];repeat refine AI ?_
 refine hK _ _ _ ?_;clear hK K;refine aB fun K hK=>?_;obtain⟨l,hl⟩: ∃l,l=(cW (s.drop 7) 32).getD []:=⟨_,rfl⟩;have hll:l.length≤32:=by rw[hl];exact bQ8
 rw[←hl];refine aB fun K hK=>aD (by kernel_rfl) ?_;simp (maxSteps:=4000000) only[↓sP,sA,tyS,simprocAttr];repeat refine AI ?_
 refine hK _ _ _ ?_;clear hK K;refine aN ?_;refine bF (α:={i:Nat//i≤l.length}) (fun i=>(fin [(2,.ptr 0 0),(4,.ptr 8 0),(5,.c (.slc (l.map u8))),(6,.c (.bool (cW (s.drop 7) 32).isSome)),(7,.c (.int .i64 i.1))],fob [(0,.box 44 (.c zd)),(8,.box 44 (.c (us (nL 32 l i.1))))])) 200 (fun i=>l.length-i.1) ⟨0,by omega⟩ (aM (by omega) (by simp[aW,fin_at,finA_at,upd_at,HV.men,HV.menL,HV.norm,HV.toC,HV.toCL]) (by simp only[aX,fob_at,upd_at,none0_at,bB7];exact⟨rfl,by omega,trivial,rfl,by omega,trivial,trivial⟩)) ?_;rintro⟨i,hi⟩;have hA:=bQ5 hi hll;refine aB fun K hK=>?_;refine aB fun K hK=>aD (by kernel_rfl) ?_;simp only[sR,simprocAttr];iterate 4
  (refine aE (g:=none) rfl rfl fun K' hK'=>?_;simp only[sH,↓sP,sA,tyS,simprocAttr,h2_10,h2_14];(repeat refine AI ?_);refine hK' _ _ ?_;clear hK' K')
 simp only[sE,↓reduceIte,simprocAttr];repeat refine AI ?_
 refine hK _ _ _ ?_;clear hK K;refine aH (b:=decide ((i:Int)<l.length)) rfl (fun hb=>?_) (fun hb=>?_)
 ·
  have hlt:i<l.length:=by simpa using hb
  clear hb;have hset:=cH6 (l:=nL 32 l i) (i:=i) l[i] (by omega) (by omega);have hi16:(i:Int)<32:=by omega
  rw[bQ6 hlt hll]at hset;refine aK ?_;simp (maxSteps:=4000000) only[↓sP,sA,tyS,simprocAttr];repeat refine AI ?_
  refine hK _ _ _ ?_;clear hK K;refine aB fun K hK=>?_;refine aN ?_;refine aD (by kernel_rfl) ?_;simp only[sR,simprocAttr];iterate 7
   (refine aE (g:=none) rfl rfl fun K' hK'=>?_;simp only[sH,↓sP,sA,tyS,simprocAttr,Int.natCast_nonneg,Int.ofNat_lt,hlt,bP hlt,u8,hset,aJ3,Nat.mul_one,hi16,h2_10,h2_14];(repeat refine AI ?_);refine hK' _ _ ?_;clear hK' K')
  simp only[sE,↓reduceIte,simprocAttr];repeat refine AI ?_
  refine hK _ _ _ ?_;clear hK K;refine aD (by kernel_rfl) ?_;simp (maxSteps:=4000000) only[↓sP,sA,tyS,simprocAttr,IntWalk.i64_in _ (show-9223372036854775808≤(i:Int)+1∧(i:Int)+1≤9223372036854775807 by omega)];refine⟨⟨i+1,hlt⟩,aM (by omega) (by simp[aW,fin_at,finA_at,upd_at,HV.men,HV.menL,HV.norm,HV.toC,HV.toCL]) (by simp[aX,fob_at,upd_at,none0_at,bT,HO.men,HV.men,HV.menL,HV.norm,HV.toC,HV.toCL]),?_⟩;show l.length-(i+1)<l.length-i;omega
 refine bA ?_;simp (maxSteps:=4000000) only[↓sP,sA,tyS,simprocAttr];clear hK K;repeat refine AI ?_
 refine hK _ _ _ ?_;clear hK K;have hil:i=l.length:=by simp at hb;omega
 subst hil;have hg:=cQ1 hA;refine aB fun K hK=>aD (by kernel_rfl) ?_;simp only[sR,simprocAttr];iterate 4
  (refine aE (g:=none) rfl rfl fun K' hK'=>?_;simp only[sH,↓sP,sA,tyS,simprocAttr,dg_setAt,hg,bH,bI,dJ,eP,oC,h2_10,h2_14];(repeat refine AI ?_);refine hK' _ _ ?_;clear hK' K')
 simp only[sE,↓reduceIte,simprocAttr];repeat refine AI ?_
 refine hK _ _ _ ?_;clear hK K;refine aF ?_;simp (maxSteps:=4000000) only[bS,Tryz.results67,bN,bR,bM,↓sP,sA,tyS,simprocAttr];rw[hg];simp only[Option.map_some];cases hv:cW (s.drop 7) 32 with
 |none=>
  rw[hv]at hl;subst hl;rw[mH fun _=>hv];exact aR [] zd (.bool false) rfl ⟨rfl,rfl⟩
 |some m=>
  rw[hv]at hl;obtain rfl:m=l:=hl.symm;have hm:=jI hv;rw[vB hp hv hm];refine aR [] (dg (⟨m,hm⟩:Dig)) (.bool true) ?_ ?_
  rotate_left
  · exact⟨rfl,rfl⟩
  rw[show us (nL 32 m m.length)=dg (⟨m,hm⟩:Dig)from by rw[bQ7 hm];rfl];simp[HV.close,HV.closeL,HV.norm,HV.toC,HV.toCL,CV.denil,dg_denil]
def rdV (d:Dv)(N n:Nat):HV:= .agg [.c d.q.cv,.c (.int .i64 d.t),.c (dg d.p),.c (.int .i64 d.r),.c d.o.cv,.own N n]
def kdF (w:aG):Nat→Int
 |0=>0
 |k+1=>if 2≤k∧rwK k=w then k else kdF w k
variable {k:Nat}
theorem cL8 {w:aG}(h:2≤k)(hw:rwK k=w):kdF w (k+1)=k:=by rw[kdF,if_pos ⟨h,hw⟩]
theorem cE1 {w:aG}(hw:rwK k≠w):kdF w (k+1)=kdF w k:=by rw[kdF,if_neg (fun h=>hw h.2)]
def kfW (w:aG):Int:=(gM w).getD 0
theorem cL9 {w:aG}(h:w=lF):kfW w=1:=by subst h;rfl
theorem cE2 {w:aG}(h:w≠lF):kfW w=kdF w 6:=by
 have e:kdF w 6=if rwK 5=w then 5 else if rwK 4=w then 4 else if rwK 3=w then 3 else if rwK 2=w then 2 else 0:=by
  simp[kdF]
 rw[e,show rwK 5=vE from rfl,show rwK 4=vD from rfl,show rwK 3=tF from rfl,show rwK 2=rA from rfl];unfold kfW gM;rw[if_neg h];rcases Decidable.em (w=rA)with rfl|h2
 · decide
 rcases Decidable.em (w=tF)with rfl|h3
 · decide
 rcases Decidable.em (w=vD)with rfl|h4
 · decide
 rcases Decidable.em (w=vE)with rfl|h5
 · decide
 rw[if_neg h2,if_neg h3,if_neg h4,if_neg h5,if_neg (Ne.symm h5),if_neg (Ne.symm h4),if_neg (Ne.symm h3),if_neg (Ne.symm h2)];rfl
theorem cM0 (w:aG):(kfW w !=0)=(gM w).isSome:=by
 unfold kfW;cases h:gM w with
 |none=>rfl
 |some k=>
  have:=nG.1 h;simp;omega
def gN (w:aG):Int:=(cP w).getD 0
theorem aH3 : ∀l:List aG,eS l=if l.all (fun w=>(cP w).isSome)then some (l.map gN)else none
 |[]=>rfl
 |w::l=>by
  have ih:=aH3 l;unfold eS at ih⊢;rw[List.mapM_cons,ih];cases h:cP w with
  |none=>simp[h]
  |some n=>
   simp only[List.all_cons,h,Option.isSome_some,Bool.true_and,List.map_cons,gN,Option.getD_some];cases h2:l.all (fun w=>(cP w).isSome)<;>simp
variable {w:List aG}
theorem cE3 (h:2≤w.length):jA w=if((cP (wd w 1)).isSome&&(w.drop 2).all fun x=>(cP x).isSome)=true∧(gM (wd w 0)).isSome=true then some ⟨kfW (wd w 0),gN (wd w 1),[],(w.drop 2).map gN⟩else none:=by
 match w,h with
 |a::b::r,_=>
  unfold jA;simp only[List.drop_succ_cons,List.drop_zero,aH3,List.all_cons,List.map_cons];rw[show wd (a::b::r) 0=a from rfl,show wd (a::b::r) 1=b from rfl];cases h1:((cP b).isSome&&r.all fun x=>(cP x).isSome)with
  |false=>simp
  |true=>
   simp only[if_true,true_and];unfold kfW;cases h2:gM a<;>simp
theorem wM (h:w.length<2):jA w=none:=by
 match w,h with
 |[],_=>rfl
 |[a],_=>rfl
def RlP (d:Dv)(L:List Ln)(w:List aG)(r:HV)(os':List HO):Prop:=
 (w.length<2∧jA w=none∧r= .tup [rdV d 0 L.length,.c (.bool false)]∧os'=[.hrow 41 4 (L.map fun z=>HV.c z.cv)])∨
 2≤w.length∧ ∃(k n:Int) (f:List Int),r= .tup [rdV d 0 (L.length+1),.c (.bool (jA w).isSome)]∧os'=[.hrow 41 4 ((L.map fun z=>HV.c z.cv)++[rdE ⟨k,n,[],f⟩ 1]),.row 44 32 []]∧ ∀x,jA w=some x→x=⟨k,n,[],f⟩
theorem cO0 (L:List Ln):lst [.hrow 41 4 (L.map fun z=>HV.c z.cv)]=fob [(0,.hrow 41 4 (L.map fun z=>HV.c z.cv))]:=by
 funext i
 match i with
 |0=>rfl
 |i+1=>simp[lst,fob,cZ,upd]
def fW (w:List aG)(i:Nat):List Int:=((w.drop 2).take (i-2)).map gN
def okB (w:List aG)(i:Nat):Bool:=(cP (wd w 1)).isSome&&((w.drop 2).take (i-2)).all fun x=>(cP x).isSome
theorem cO1 (h2:2≤i)(h:i<w.length):(w.drop 2).take (i+1-2)=(w.drop 2).take (i-2)++[w[i]]:=by
 rw[show i+1-2=(i-2)+1 by omega,List.take_succ_eq_append_getElem (by rw[List.length_drop];omega),List.getElem_drop];simp only[show 2+(i-2)=i by omega]
theorem bI0 (h2:2≤i)(h:i<w.length):fW w (i+1)=fW w i++[gN w[i]]:=by
 unfold fW;rw[cO1 h2 h,List.map_append];rfl
theorem aV3 (h2:2≤i)(h:i<w.length):okB w (i+1)=(okB w i&&(cP w[i]).isSome):=by
 unfold okB;rw[cO1 h2 h,List.all_append];simp[Bool.and_assoc]
theorem cS5 (w:List aG):fW w w.length=(w.drop 2).map gN:=by
 unfold fW;rw[List.take_of_length_le (by rw[List.length_drop];omega)]
theorem cM1 (w:List aG):okB w w.length=((cP (wd w 1)).isSome&&(w.drop 2).all fun x=>(cP x).isSome):=by
 unfold okB;rw[List.take_of_length_le (by rw[List.length_drop];omega)]
theorem cE4 (h:i≤w.length):(fW w i).length=i-2:=by
 unfold fW;rw[List.length_map,List.length_take,List.length_drop];omega
variable {L:List Ln}{d:Dv}{r:HV}{ob:Ob}
theorem cE5 (hr:r= .tup [rdV d 0 L.length,.c (.bool false)])(h0:ob 0=some (.hrow 41 4 (L.map fun z=>HV.c z.cv)))(hs:w.length<2)(hn:jA w=none):
  iJ 1 r ob (fun r ob'=> ∃os',ob'=lst os'∧(1≤os'.length∧os'.length≤1+4)∧RlP d L w r os'):=by
 subst hr;refine iD [] [] (.tup [rdV d 0 L.length,.c (.bool false)]) [.hrow 41 4 (L.map fun z=>HV.c z.cv)] ?_ (by simp[rdV,HV.men,HV.menL]) ⟨⟨by simp[HO.men,bD],by simp,_,(by simpa[tau]using h0),?_⟩,trivial⟩ rfl (by simp) (by simp) (by simp) (.inl ⟨hs,hn,rfl,rfl⟩)
 · simp[rdV,HV.close,HV.closeL,CV.denil,HV.norm,HV.toC,HV.toCL,HV.ren,HV.renL,tau,Qs.denil,Og.denil,dg_denil]
 simp[HO.close,HO.ren,iR,fY,sI]
theorem aV4 {k n:Int}{f:List Int}{b:Bool}(N:Nat)(hN:1≤N)(hr:r= .tup [rdV d 0 (L.length+1),.c (.bool b)])(h0:ob 0=some (.hrow 41 4 ((L.map fun z=>HV.c z.cv)++[rdE ⟨k,n,[],f⟩ N])))(h1:ob N=some (.row 44 32 []))(hs:2≤w.length)(hb:(jA w).isSome=b)(hx: ∀x,jA w=some x→x=⟨k,n,[],f⟩):
  iJ 1 r ob (fun r ob'=> ∃os',ob'=lst os'∧(1≤os'.length∧os'.length≤1+4)∧RlP d L w r os'):=by
 subst hr;refine iD [] [N] (.tup [rdV d 0 (L.length+1),.c (.bool b)]) [.hrow 41 4 ((L.map fun z=>HV.c z.cv)++[rdE ⟨k,n,[],f⟩ 1]),.row 44 32 []] ?_ (by simp[rdV,HV.men,HV.menL]) ⟨⟨by simp[HO.men,bD,HV.menL_append,HV.menL,HV.men,rdE],by simp,_,(by simpa[tau]using h0),?_⟩,⟨by simp[HO.men],by simp,_,(by simpa[tau]using h1),rfl⟩,trivial⟩ rfl (by simp) (by simpa using hN) (by simp) (.inr ⟨hs,k,n,f,by rw[hb],rfl,hx⟩)
 · simp[rdV,HV.close,HV.closeL,CV.denil,HV.norm,HV.toC,HV.toCL,HV.ren,HV.renL,tau,Qs.denil,Og.denil,dg_denil]
 simp[HO.close,HO.ren,iR,fY,sI,kS,gG,rdE,HV.close,HV.closeL,HV.ren,HV.renL,HV.norm,HV.toC,HV.toCL,CV.denil,denilL_int,tau]
theorem aV5 (w:List aG)(hwl:w.length≤120)(h0:0<w.length)(hnd:wd w 0≠jW)(d:Dv)(L:List Ln)(hL:L.length<2^38):HGe Tryz.prog 69 [rdV d 0 L.length,.c (.slc (w.map .str))] [.hrow 41 4 (L.map fun z=>HV.c z.cv)] (RlP d L w):=by
 refine cI (args:=[rdV d 0 L.length,.c (.slc (w.map .str))]) Tryz.func69 rfl (by kernel_rfl) (fP rfl (by simp[eH,HO.men,bD]) (by simp[rdV,HV.menL,HV.men])) (Nat.le_of_ble_eq_true rfl) ?_;show Hw _ _ 1 _ _ _ (lst _) 1;rw[cO0];have hdc:(wd w 0==[100,111,99])=false:=beq_false_of_ne hnd;refine R0 ?_ (e:=fun _ h_=>by simp only[↓sP,sA,tyS,simprocAttr,rdV];exact AX h_);refine aB fun K hK=>?_;have F:=@List.length_map.{0,0};refine RF ?_;refine aH (b:=decide ((w.length:Int)<2)) rfl (fun hb=>?_) (fun hb=>?_)
 ·
  have hsh:w.length<2:=by have:=of_decide_eq_true hb;omega
  clear hb;refine R0 ?_ (e:=fun _ h_=>by simp only[↓sP,sA,tyS,simprocAttr,rdV];exact AX h_);refine aF (RT Tryz.results69 ?_);refine⟨rfl,?_⟩;exact cE5 rfl rfl hsh (wM hsh)
 have h2:2≤w.length:=by have:=of_decide_eq_false hb;omega
 clear hb;refine aK ?_;refine T0 (hK _ _ _ ?_);clear hK K;refine aB fun K hK=>?_;refine aB fun K hK=>Rg ?_;iterate 4 refine S0 ?_ (e:=fun _ h_=>by simp only[sH,↓sP,sA,tyS,simprocAttr,List.length_map,cV h0,Int.toNat_zero,hdc];exact AX h_)
 refine T2 (hK _ _ _ ?_);clear hK K;refine CF rfl ?_;refine aK ?_;refine T0 (hK _ _ _ ?_);clear hK K;refine R0 ?_;refine aB fun K hK=>?_;refine R0 ?_;refine aN ?_;have kd2:kdF (wd w 0) 2=0:=by simp[kdF]
 refine bF (α:={k:Nat//2≤k∧k≤6}) (fun k=>(fin [(1,.c (.slc (w.map .str))),(2,.ptr 1 0),(4,.ptr 5 0),(9,.ptr 41 0),(10,.c (.int .i64 k.1))],fob [(0,.hrow 41 4 (L.map fun z=>HV.c z.cv)),(1,.box 50 (rdV d 0 L.length)),(5,.box 50 (.c (.agg [.agg [.str [],.str [],zd],.int .i64 0,zd,.int .i64 0,.agg [zd,.str [],.str []],.nils]))),(41,.box 41 (.c (.agg [.int .i64 (kdF (wd w 0) k.1),.int .i64 0,.nils,.nils])))])) 200 (fun k=>6-k.1) ⟨2,by omega,by omega⟩ (aM (by omega) (by simp[aW,fin_at,finA_at,upd_at,HV.men,HV.menL,HV.norm,HV.toC,HV.toCL,rdV,bD,kd2]) (by simp[aX,fob_at,upd_at,none0_at,bT,HO.men,HV.men,HV.menL,HV.norm,HV.toC,HV.toCL,rdV,bD,kd2])) ?_;clear kd2;rintro⟨k,hk1,hk2⟩;simp only;refine aB fun K hK=>?_;refine R0 ?_;refine aH (b:=decide ((k:Int)≤5)) rfl (fun hb=>?_) (fun hb=>?_)
 ·
  have hk5:k≤5:=by have:=of_decide_eq_true hb;omega
  clear hb;refine aK ?_;refine T0 (hK _ _ _ ?_);clear hK K;refine aB fun K hK=>?_;refine aN ?_;refine aB fun K hK=>DW [(0,[],[]),(2,[],[]),(3,[],[]),(4,[],[]),(1,[],[2,3,4]),(5,[],[])] [0,1,0,4,12,31] ?_;iterate 4 refine W0 ?_ (e:=fun _ h_=>by simp only[sH,↓sP,sA,tyS,simprocAttr,List.length_map,cV h0,Int.toNat_zero];exact AX h_)
  refine bL (g:=none) rfl rfl fun K' hK'=>?_;simp only[sH,↓sP,sA,tyS,simprocAttr,List.length_map,cV h0,Int.toNat_zero];refine C1 (tT k) ?_;rintro u rfl;refine AX (hK' _ _ ?_);clear hK' K';refine W0 ?_ (e:=fun _ h_=>by simp only[sH,↓sP,sA,tyS,simprocAttr,List.length_map,cV h0,Int.toNat_zero];exact AX h_);refine T2 (hK _ _ _ ?_);clear hK K;refine aH (b:=(rwK k==wd w 0)) rfl (fun hb=>?_) (fun hb=>?_)
  · refine aD (by kernel_rfl) ?_;refine T0 (hK _ _ _ ?_);clear hK K;refine aD (by kernel_rfl) ?_;refine TQ (show IntKind.i64.wrap ((k:Int)+1)=((k+1:Nat):Int)from by rw[IntWalk.i64_in _ (by omega)];rfl) ?_;have hh:=cL8 hk1 (eq_of_beq hb);refine⟨⟨k+1,by omega,by omega⟩,?_,by simp only;omega⟩;simp only[hh];exact aM (by omega) (by simp[aW,fin_at,finA_at,upd_at,HV.men,HV.menL,HV.norm,HV.toC,HV.toCL,rdV,bD]) (by simp[aX,fob_at,upd_at,none0_at,bT,HO.men,HV.men,HV.menL,HV.norm,HV.toC,HV.toCL,rdV,bD])
  refine aK ?_;refine T0 (hK _ _ _ ?_);clear hK K;refine aD (by kernel_rfl) ?_;refine TQ (show IntKind.i64.wrap ((k:Int)+1)=((k+1:Nat):Int)from by rw[IntWalk.i64_in _ (by omega)];rfl) ?_;have hh:=cE1 (k:=k) (w:=wd w 0) (fun e=>by rw[e]at hb;simp at hb);refine⟨⟨k+1,by omega,by omega⟩,?_,by simp only;omega⟩;simp only[hh];exact aM (by omega) (by simp[aW,fin_at,finA_at,upd_at,HV.men,HV.menL,HV.norm,HV.toC,HV.toCL,rdV,bD]) (by simp[aX,fob_at,upd_at,none0_at,bT,HO.men,HV.men,HV.menL,HV.norm,HV.toC,HV.toCL,rdV,bD])
 obtain rfl:k=6:=by have:=of_decide_eq_false hb;omega
 clear hb;refine bA (T3 ?_);clear hK K;refine AX (hK _ _ _ ?_);clear hK K;refine aB fun K hK=>?_;have key: ∀fr ob nx,Fits 1 fr ob (fin [(1,.c (.slc (w.map .str))),(2,.ptr 1 0),(4,.ptr 5 0),(9,.ptr 41 0)]) (fob [(0,.hrow 41 4 (L.map fun z=>HV.c z.cv)),(1,.box 50 (rdV d 0 L.length)),(5,.box 50 (.c (.agg [.agg [.str [],.str [],zd],.int .i64 0,zd,.int .i64 0,.agg [zd,.str [],.str []],.nils]))),(41,.box 41 (.c (.agg [.int .i64 (kfW (wd w 0)),.int .i64 0,.nils,.nils])))]) 400→K fr ob nx:=by
  rintro fr ob nx hf;refine hK _ _ _ (bE hf ?_);clear hf hK K;refine aB fun K hK=>Rg ?_;iterate 3 refine S0 ?_ (e:=fun _ h_=>by simp only[sH,↓sP,sA,tyS,simprocAttr,List.length_map,cV (show 1<w.length by omega),Int.toNat_one];exact AX h_)
  refine HS rfl rfl fun K' hK'=>?_;simp only[sH,↓sP,sA,tyS,simprocAttr,List.length_map,cV (show 1<w.length by omega),Int.toNat_one];refine D1 (tL (wd w 1)) ?_;rintro u v ⟨rfl,rfl⟩;refine AX (hK' _ _ ?_);clear hK' K';iterate 5 refine S0 ?_ (e:=fun _ h_=>by simp only[sH,↓sP,sA,tyS,simprocAttr,List.length_map,cV (show 1<w.length by omega),Int.toNat_one];exact AX h_)
  refine T2 (hK _ _ _ ?_);clear hK K;refine R0 ?_;refine aB fun K hK=>?_;refine R0 ?_;refine aN ?_;refine dQ 41 2 44 32 rfl rfl rfl rfl (dQ 41 3 3 1 rfl rfl rfl rfl ?_);refine bF (α:={i:Nat//2≤i∧i≤w.length}) (fun i=>(fin [(1,.c (.slc (w.map .str))),(2,.ptr 1 0),(4,.ptr 5 0),(9,.ptr 41 0),(12,.c (.bool (okB w i.1))),(13,.c (.int .i64 i.1))],fob [(0,.hrow 41 4 (L.map fun z=>HV.c z.cv)),(1,.box 50 (rdV d 0 L.length)),(5,.box 50 (.c (.agg [.agg [.str [],.str [],zd],.int .i64 0,zd,.int .i64 0,.agg [zd,.str [],.str []],.nils]))),(41,.box 41 (.agg [.c (.int .i64 (kfW (wd w 0))),.c (.int .i64 (gN (wd w 1))),.own 452 0,.own 453 (fW w i.1).length])),(452,.row 44 32 []),(453,.row 3 1 ((fW w i.1).map (CV.int .i64)))])) 600 (fun i=>w.length-i.1) ⟨2,by omega,by omega⟩ (aM (by omega) (by simp[aW,fin_at,finA_at,upd_at,HV.men,HV.menL,HV.norm,HV.toC,HV.toCL,rdV,bD,fW,okB,gN]) (by simp[aX,fob_at,upd_at,none0_at,bT,HO.men,HV.men,HV.menL,HV.norm,HV.toC,HV.toCL,rdV,bD,fW,okB,gN])) ?_;rintro⟨i,hi1,hi2⟩;simp only;refine aB fun K hK=>?_;refine aB fun K hK=>Rg ?_;iterate 4 refine SF ?_
  refine T2 (hK _ _ _ ?_);clear hK K;refine aH (b:=decide ((i:Int)<w.length)) rfl (fun hb=>?_) (fun hb=>?_)
  ·
   have hlt:i<w.length:=by have:=of_decide_eq_true hb;omega
   have hfl:=cE4 hi2;clear hb;refine aK ?_;refine T0 (hK _ _ _ ?_);clear hK K;refine aB fun K hK=>?_;refine aN ?_;refine aB fun K hK=>Rg ?_;have F:=aI @List.length_map.{0,0} (aI @Int.natCast_nonneg (aI @Int.ofNat_lt (aI hlt (nM hlt))));iterate 4 refine SF ?_
   refine HS rfl rfl fun K' hK'=>T6 ?_;refine D1 (tL w[i]) ?_;rintro u v ⟨rfl,rfl⟩;refine AX (hK' _ _ ?_);clear hK' K';iterate 5 refine SF ?_
   refine T2 (hK _ _ _ ?_);clear hK K;refine Rg ?_;have F:=@List.length_map.{0,0};iterate 7 refine SF ?_
   refine aL 116 rfl (fun h24_116=>?_) (fun h24_116=>?_)
   ·
    have F:=aI @List.length_map.{0,0} h24_116;iterate 5 refine SF ?_
    refine T2 (hK _ _ _ ?_);clear hK K;refine aD (by kernel_rfl) ?_;refine TQ (show IntKind.i64.wrap ((i:Int)+1)=((i+1:Nat):Int)from by rw[IntWalk.i64_in _ (by omega)];rfl) ?_;refine⟨⟨i+1,by omega,hlt⟩,?_,by simp only;omega⟩;simp only[bI0 hi1 hlt,aV3 hi1 hlt,h24_116,Bool.true_and];exact aM (by omega) (by simp[aW,fin_at,finA_at,upd_at,HV.men,HV.menL,HV.norm,HV.toC,HV.toCL,rdV,bD,gN]) (by simp[aX,fob_at,upd_at,none0_at,bT,HO.men,HV.men,HV.menL,HV.norm,HV.toC,HV.toCL,rdV,bD,gN])
   have F:=aI @List.length_map.{0,0} h24_116;iterate 5 refine SF ?_
   refine T2 (hK _ _ _ ?_);clear hK K;refine aD (by kernel_rfl) ?_;refine TQ (show IntKind.i64.wrap ((i:Int)+1)=((i+1:Nat):Int)from by rw[IntWalk.i64_in _ (by omega)];rfl) ?_;refine⟨⟨i+1,by omega,hlt⟩,?_,by simp only;omega⟩;simp only[bI0 hi1 hlt,aV3 hi1 hlt,h24_116,Bool.false_and];exact aM (by omega) (by simp[aW,fin_at,finA_at,upd_at,HV.men,HV.menL,HV.norm,HV.toC,HV.toCL,rdV,bD,gN]) (by simp[aX,fob_at,upd_at,none0_at,bT,HO.men,HV.men,HV.menL,HV.norm,HV.toC,HV.toCL,rdV,bD,gN])
  obtain rfl:i=w.length:=by have:=of_decide_eq_false hb;omega
  clear hb;have hfl:=cE4 (w:=w) (Nat.le_refl _);have hF:=cS5 w;have hO:=cM1 w;obtain⟨F,hFe⟩: ∃F,F=fW w w.length:=⟨_,rfl⟩;obtain⟨ok,hoe⟩: ∃ok,ok=okB w w.length:=⟨_,rfl⟩;rw[←hFe]at hF hfl⊢;rw[←hoe]at hO⊢;have hlf:=cE3 h2;rw[←hF,←hO,←cM0]at hlf;clear hFe hoe hF hO;refine bA (T3 ?_);clear hK K;refine AX (hK _ _ _ ?_);clear hK K;refine cR [453] (bE (fr2:=fin [(2,.ptr 1 0),(4,.ptr 5 0),(9,.ptr 41 0),(12,.c (.bool ok))]) (ob2:=fob [(0,.hrow 41 4 (L.map fun z=>HV.c z.cv)),(1,.box 50 (rdV d 0 L.length)),(5,.box 50 (.c dv0.cv)),(41,.box 41 (rdE ⟨kfW (wd w 0),gN (wd w 1),[],F⟩ 452)),(452,.row 44 32 [])]) (nx2:=700) (aM (by omega) (by simp[aW,fin_at,finA_at,upd_at,HV.men,HV.menL,HV.norm,HV.toC,HV.toCL,dA,dL,HO.close,HV.close,HV.closeL,CV.denil,CV.denilL,denilL_str,iR,bD,rdV,rdE,Qs.denil,Og.denil,dg_denil,sI,denilL_int,eP,(show CV.agg [CV.agg [CV.str [],CV.str [],zd],CV.int IntKind.i64 0,zd,CV.int IntKind.i64 0,CV.agg [zd,CV.str [],CV.str []],CV.slc []]=dv0.cv from rfl)]) (by simp[aX,fob_at,upd_at,none0_at,bT,HO.men,HV.men,HV.menL,HV.norm,HV.toC,HV.toCL,dA,dL,HO.close,HV.close,HV.closeL,CV.denil,CV.denilL,denilL_str,iR,bD,rdV,rdE,Qs.denil,Og.denil,dg_denil,sI,denilL_int,eP,(show CV.agg [CV.agg [CV.str [],CV.str [],zd],CV.int IntKind.i64 0,zd,CV.int IntKind.i64 0,CV.agg [zd,CV.str [],CV.str []],CV.slc []]=dv0.cv from rfl)])) ?_);refine aB fun K hK=>bY (by kernel_rfl) ?_;simp only[sR,simprocAttr];iterate 3 refine SG0 ?_ (e:=fun _ h_=>by simp only[sH,↓sP,sA,tyS,simprocAttr,rdV,rdE,List.length_map,List.length_nil];exact AX h_)
  refine cA (g:=none) rfl rfl fun K' hK'=>?_;simp only[sN,↓hopH.eq_def,sH,↓sP,sA,tyS,simprocAttr,rdV,rdE,List.length_map,List.length_nil];refine AX (hK' _ _ ?_);clear hK' K';refine cA (g:=none) rfl rfl fun K' hK'=>?_;simp only[sN,↓hopH.eq_def,sH,↓sP,sA,tyS,simprocAttr,rdV,rdE,List.length_map,List.length_nil];refine AX (hK' _ _ ?_);clear hK' K';iterate 2 refine SG0 ?_ (e:=fun _ h_=>by simp only[sH,↓sP,sA,tyS,simprocAttr,rdV,rdE,List.length_map,List.length_nil];exact AX h_)
  refine T2 (hK _ _ _ ?_);clear hK K;by_cases hok:ok=true
  ·
   subst hok;refine aB fun K hK=>DW [(0,[],[]),(1,[],[]),(2,[],[]),(3,[],[]),(4,[],[]),(5,[],[]),(6,[],[]),(7,[],[3,4,5,6]),(8,[],[])] [0,0,2,6,14,30,62,7,255] ?_;iterate 9 refine W0 ?_ (e:=fun _ h_=>by simp only[sH,↓sP,sA,tyS,simprocAttr,rdV,rdE];exact AX h_)
   refine T2 (hK _ _ _ ?_);clear hK K;refine aF (RT Tryz.results69 ?_);refine⟨rfl,?_⟩;refine aV4 (k:=kfW (wd w 0)) (n:=gN (wd w 1)) (f:=F) (b:=kfW (wd w 0) !=0) 452 (by omega) ?_ rfl rfl h2 ?_ ?_
   rotate_left 1
   · rw[hlf];cases(kfW (wd w 0) !=0)<;>simp
   ·
    intro x hx;rw[hlf]at hx;split at hx
    · exact(Option.some.inj hx).symm
    cases hx
   simp[rdV];try rfl
  obtain rfl:ok=false:=by simpa using hok
  refine aB fun K hK=>DW [(0,[],[]),(1,[],[]),(2,[],[]),(3,[],[]),(4,[],[]),(5,[],[]),(6,[],[]),(7,[],[3,4,5,6]),(8,[],[])] [0,0,2,6,14,30,62,7,255] ?_;iterate 9 refine W0 ?_ (e:=fun _ h_=>by simp only[sH,↓sP,sA,tyS,simprocAttr,rdV,rdE];exact AX h_)
  refine T2 (hK _ _ _ ?_);clear hK K;refine aF (RT Tryz.results69 ?_);refine⟨rfl,?_⟩;refine aV4 (k:=kfW (wd w 0)) (n:=gN (wd w 1)) (f:=F) (b:=false) 452 (by omega) ?_ rfl rfl h2 ?_ ?_
  rotate_left 1
  · rw[hlf];cases(kfW (wd w 0) !=0)<;>simp
  ·
   intro x hx;rw[hlf]at hx;split at hx
   · exact(Option.some.inj hx).symm
   cases hx
  simp[rdV];try rfl
 refine aB fun K hK=>Rg ?_;iterate 4 refine S0 ?_ (e:=fun _ h_=>by simp only[sH,↓sP,sA,tyS,simprocAttr,List.length_map,cV h0,Int.toNat_zero];exact AX h_)
 refine T2 (hK _ _ _ ?_);clear hK K;refine aH (b:=(wd w 0==[110,101,101,100])) rfl (fun hb=>?_) (fun hb=>?_)
 · refine aD (by kernel_rfl) ?_;simp only[↓sP,sA,tyS,simprocAttr];have hh:=cL9 (w:=wd w 0) (eq_of_beq hb);exact key _ _ _ (by rw[hh];exact aM (by omega) (by simp[aW,fin_at,finA_at,upd_at,HV.men,HV.menL,HV.norm,HV.toC,HV.toCL,rdV,bD]) (by simp[aX,fob_at,upd_at,none0_at,bT,HO.men,HV.men,HV.menL,HV.norm,HV.toC,HV.toCL,rdV,bD]))
 refine aK (T3 ?_);have hh:=cE2 (w:=wd w 0) (fun e=>by rw[e]at hb;cases hb);exact key _ _ _ (by rw[hh];exact aM (by omega) (by simp[aW,fin_at,finA_at,upd_at,HV.men,HV.menL,HV.norm,HV.toC,HV.toCL,rdV,bD]) (by simp[aX,fob_at,upd_at,none0_at,bT,HO.men,HV.men,HV.menL,HV.norm,HV.toC,HV.toCL,rdV,bD]))
end Go.Proofs.YthedbjfipmkpiaaGreatDoor
