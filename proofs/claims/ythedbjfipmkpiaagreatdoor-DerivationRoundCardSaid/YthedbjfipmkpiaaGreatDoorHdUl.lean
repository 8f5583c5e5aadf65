/- Part of a proof: walks of functions of the program, by contracts, and the rules they use. By an AI agent. -/
import Derived.Test.YthedbjfipmkpiaaGreatDoorHdTl
import Derived.Test.YthedbjfipmkpiaaGreatDoorHdSb
import Derived.Test.YthedbjfipmkpiaaGreatDoorHlIt
import Derived.Test.YthedbjfipmkpiaaGreatDoorHlMc
import Derived.Test.YthedbjfipmkpiaaGreatDoorPl31h
import Derived.Test.YthedbjfipmkpiaaGreatDoorHlTlaw
import Derived.Test.YthedbjfipmkpiaaGreatDoorPl18e
import Derived.Shelf.GgSortFunc.InsertionK
import Derived.Sort.Statements
import Derived.Shelf.RegionOpenPlain
import Derived.WalkKit
import Derived.Deep.LoopGhost
import Derived.Lib.Walk
import Derived.Lib.SliceRun
import Derived.Test.YthedbjfipmkpiaaGreatDoorChecked
set_option linter.unusedSimpArgs false
set_option linter.unusedVariables false
set_option linter.defProp false
namespace Go.Proofs.YthedbjfipmkpiaaGreatDoor
open Go Go.Hl Go.Pl
set_option maxRecDepth 10000
set_option maxHeartbeats 16000000
theorem cB2 (S:List Sp)(hl:S.length<2^40):cE Tryz.prog 19 [.slc (S.map Sp.cv)] (fun v=>v= .slc ((cF S).map bC)):=by
 refine bI Tryz.func19 rfl (by kernel_rfl) (dJ _) (Nat.le_of_ble_eq_true rfl) ?_;refine aC fun K hK=>aE (by kernel_rfl) ?_;simp (maxSteps:=4000000) only[↓sP,sA,tyS,simprocAttr,rpost_exit,rpost_normal,rpost_ret,hscope_exit,hscope_normal,hscope_ret,ithen_normal,ithen_exit,ithen_ret,iblk_normal,iblk_exit,iblk_ret];repeat refine AI ?_
 refine hK _ _ _ ?_;clear hK K;refine aC fun K hK=>aE (by kernel_rfl) ?_;simp (maxSteps:=4000000) only[↓sP,sA,tyS,simprocAttr,rpost_exit,rpost_normal,rpost_ret,hscope_exit,hscope_normal,hscope_ret,ithen_normal,ithen_exit,ithen_ret,iblk_normal,iblk_exit,iblk_ret];repeat refine AI ?_
 refine hK _ _ _ ?_;clear hK K;refine aC fun K hK=>?_;refine aC fun K hK=>aE (by kernel_rfl) ?_;simp (maxSteps:=4000000) only[↓sP,sA,tyS,simprocAttr,rpost_exit,rpost_normal,rpost_ret,hscope_exit,hscope_normal,hscope_ret,ithen_normal,ithen_exit,ithen_ret,iblk_normal,iblk_exit,iblk_ret];repeat refine AI ?_
 refine hK _ _ _ ?_;clear hK K;refine aN ?_;refine jI 3 0 4 1 rfl rfl rfl rfl ?_;refine bH (α:={i:Nat//i≤S.length}) (fun i=>(fin [(3,.own 20 i.1),(6,.c (.slc (S.map Sp.cv))),(7,.c (.int .i64 S.length)),(8,.c (.int .i64 i.1))],fob [(20,.row 4 1 ((cF (S.take i.1)).map bC))])) 100 (fun i=>S.length-i.1) ⟨0,by omega⟩ (aO (by omega) (by simp[aX,fin_at,finA_at,upd_at,HV.men,HV.menL,HV.norm,HV.toC,HV.toCL,cF]) (by simp[aY,fob_at,upd_at,none0_at,bO,HO.men,HV.men,HV.menL,HV.norm,HV.toC,HV.toCL,cF])) ?_;rintro⟨i,hi⟩;have hti:(cF (S.take i)).length=i:=by simp[cF];omega
 refine aC fun K hK=>aE (by kernel_rfl) ?_;simp (maxSteps:=4000000) only[↓sP,sA,tyS,simprocAttr,rpost_exit,rpost_normal,rpost_ret,hscope_exit,hscope_normal,hscope_ret,ithen_normal,ithen_exit,ithen_ret,iblk_normal,iblk_exit,iblk_ret];repeat refine AI ?_
 refine hK _ _ _ ?_;clear hK K;refine aC fun K hK=>?_;refine aK (b:=decide ((i:Int)<S.length)) rfl (fun hb=>?_) (fun hb=>?_)
 ·
  have hlt:i<S.length:=by simpa using hb
  have hsn:cF (S.take (i+1))=cF (S.take i)++[S[i].h]:=by rw[List.take_succ_eq_append_getElem hlt];unfold cF;rw[List.map_append];rfl
  clear hb;refine aM ?_;simp (maxSteps:=4000000) only[↓sP,sA,tyS,simprocAttr,rpost_exit,rpost_normal,rpost_ret,hscope_exit,hscope_normal,hscope_ret,ithen_normal,ithen_exit,ithen_ret,iblk_normal,iblk_exit,iblk_ret];repeat refine AI ?_
  refine hK _ _ _ ?_;clear hK K;refine aC fun K hK=>?_;refine aN ?_;refine aC fun K hK=>aE (by kernel_rfl) ?_;simp only[sR,simprocAttr];iterate 4
   (refine aF (g:=none) rfl rfl fun K' hK'=>?_;simp only[sH,↓sP,sA,tyS,simprocAttr,rpost_exit,rpost_normal,rpost_ret,hscope_exit,hscope_normal,hscope_ret,ithen_normal,ithen_exit,ithen_ret,iblk_normal,iblk_exit,iblk_ret,Int.natCast_nonneg,Int.ofNat_lt,hlt,bK hlt];(repeat refine AI ?_);refine hK' _ _ ?_;clear hK' K')
  simp only[sE,↓reduceIte,simprocAttr,rpost_exit,rpost_normal,rpost_ret,hscope_exit,hscope_normal,hscope_ret,ithen_normal,ithen_exit,ithen_ret,iblk_normal,iblk_exit,iblk_ret];repeat refine AI ?_
  refine hK _ _ _ ?_;clear hK K;refine aE (by kernel_rfl) ?_;simp only[sR,simprocAttr];iterate 6
   (refine aF (g:=none) rfl rfl fun K' hK'=>?_;simp only[sH,↓sP,sA,tyS,simprocAttr,rpost_exit,rpost_normal,rpost_ret,hscope_exit,hscope_normal,hscope_ret,ithen_normal,ithen_exit,ithen_ret,iblk_normal,iblk_exit,iblk_ret,hti];(repeat refine AI ?_);refine hK' _ _ ?_;clear hK' K')
  simp only[sE,↓reduceIte,simprocAttr,rpost_exit,rpost_normal,rpost_ret,hscope_exit,hscope_normal,hscope_ret,ithen_normal,ithen_exit,ithen_ret,iblk_normal,iblk_exit,iblk_ret];repeat refine AI ?_
  refine hK _ _ _ ?_;clear hK K;refine aE (by kernel_rfl) ?_;simp (maxSteps:=4000000) only[↓sP,sA,tyS,simprocAttr,rpost_exit,rpost_normal,rpost_ret,hscope_exit,hscope_normal,hscope_ret,ithen_normal,ithen_exit,ithen_ret,iblk_normal,iblk_exit,iblk_ret,IntWalk.i64_in _ (show-9223372036854775808≤(i:Int)+1∧(i:Int)+1≤9223372036854775807 by omega)];refine⟨⟨i+1,by omega⟩,(aO (by omega) (by simp[aX,fin_at,finA_at,upd_at,HV.men,HV.menL,HV.norm,HV.toC,HV.toCL,hsn,bC,hti]) (by simp[aY,fob_at,upd_at,none0_at,bO,HO.men,HV.men,HV.menL,HV.norm,HV.toC,HV.toCL,hsn,bC,hti])),?_⟩;show S.length-(i+1)<S.length-i;omega
 have hie:i=S.length:=by simp at hb;omega
 subst hie;refine aZ ?_;simp (maxSteps:=4000000) only[↓sP,sA,tyS,simprocAttr,rpost_exit,rpost_normal,rpost_ret,hscope_exit,hscope_normal,hscope_ret,ithen_normal,ithen_exit,ithen_ret,iblk_normal,iblk_exit,iblk_ret];clear hK K;repeat refine AI ?_
 refine hK _ _ _ ?_;clear hK K;refine aC fun K hK=>aE (by kernel_rfl) ?_;simp (maxSteps:=4000000) only[↓sP,sA,tyS,simprocAttr,rpost_exit,rpost_normal,rpost_ret,hscope_exit,hscope_normal,hscope_ret,ithen_normal,ithen_exit,ithen_ret,iblk_normal,iblk_exit,iblk_ret];repeat refine AI ?_
 refine hK _ _ _ ?_;clear hK K;refine aH ?_;simp (maxSteps:=4000000) only[bS,Tryz.results19,bP,bR,bN,↓sP,sA,tyS,simprocAttr,rpost_exit,rpost_normal,rpost_ret,hscope_exit,hscope_normal,hscope_ret,ithen_normal,ithen_exit,ithen_ret,iblk_normal,iblk_exit,iblk_ret];have htl:(cF S).length=S.length:=by simp[cF]
 exact aJ [20] (.slc ((cF S).map bC)) (by simp[HV.close,fob_at,upd_at,HV.norm,HV.toC,htl,List.take_length]) rfl
theorem bO5 (l:List Nat)(x:Nat)(hl:l.length<2^40):cE Tryz.prog 103 [.slc (l.map iC),.int .i64 x] (fun v=> ∀k,(∀j,j<k→l[j]? ≠some x)→l[k]? =some x→v= .int .i64 (k:Nat)):=by
 refine bI Tryz.func103 rfl (by kernel_rfl) (dJ _) (Nat.le_of_ble_eq_true rfl) ?_;refine aC fun K hK=>aE (by kernel_rfl) ?_;simp (maxSteps:=4000000) only[↓sP,sA,tyS,simprocAttr,rpost_exit,rpost_normal,rpost_ret,hscope_exit,hscope_normal,hscope_ret,ithen_normal,ithen_exit,ithen_ret,iblk_normal,iblk_exit,iblk_ret];repeat refine AI ?_
 refine hK _ _ _ ?_;clear hK K;refine aC fun K hK=>?_;refine aC fun K hK=>aE (by kernel_rfl) ?_;simp (maxSteps:=4000000) only[↓sP,sA,tyS,simprocAttr,rpost_exit,rpost_normal,rpost_ret,hscope_exit,hscope_normal,hscope_ret,ithen_normal,ithen_exit,ithen_ret,iblk_normal,iblk_exit,iblk_ret];repeat refine AI ?_
 refine hK _ _ _ ?_;clear hK K;refine aN ?_;refine bH (α:={i:Nat//i≤l.length∧ ∀j,j<i→l[j]? ≠some x}) (fun i=>(fin [(0,.c (.slc (l.map iC))),(1,.c (.int .i64 x)),(7,.c (.int .i64 l.length)),(8,.c (.int .i64 i.1))],fob [])) 100 (fun i=>l.length-i.1) ⟨0,by omega,fun j h=>by omega⟩ (aO (by omega) (by simp[aX,fin_at,finA_at,upd_at,HV.men,HV.menL,HV.norm,HV.toC,HV.toCL]) (by simp[aY,fob_at,upd_at,none0_at,bO,HO.men,HV.men,HV.menL,HV.norm,HV.toC,HV.toCL])) ?_;rintro⟨i,hi,hno⟩;refine aC fun K hK=>aE (by kernel_rfl) ?_;simp (maxSteps:=4000000) only[↓sP,sA,tyS,simprocAttr,rpost_exit,rpost_normal,rpost_ret,hscope_exit,hscope_normal,hscope_ret,ithen_normal,ithen_exit,ithen_ret,iblk_normal,iblk_exit,iblk_ret];repeat refine AI ?_
 refine hK _ _ _ ?_;clear hK K;refine aC fun K hK=>?_;refine aK (b:=decide ((i:Int)<l.length)) rfl (fun hb=>?_) (fun hb=>?_)
 ·
  have hlt:i<l.length:=by simpa using hb
  clear hb;refine aM ?_;simp (maxSteps:=4000000) only[↓sP,sA,tyS,simprocAttr,rpost_exit,rpost_normal,rpost_ret,hscope_exit,hscope_normal,hscope_ret,ithen_normal,ithen_exit,ithen_ret,iblk_normal,iblk_exit,iblk_ret];repeat refine AI ?_
  refine hK _ _ _ ?_;clear hK K;refine aC fun K hK=>?_;refine aN ?_;refine aC fun K hK=>aE (by kernel_rfl) ?_;simp (maxSteps:=4000000) only[↓sP,sA,tyS,simprocAttr,rpost_exit,rpost_normal,rpost_ret,hscope_exit,hscope_normal,hscope_ret,ithen_normal,ithen_exit,ithen_ret,iblk_normal,iblk_exit,iblk_ret];repeat refine AI ?_
  refine hK _ _ _ ?_;clear hK K;refine aC fun K hK=>aE (by kernel_rfl) ?_;simp only[sR,simprocAttr];iterate 6
   (refine aF (g:=none) rfl rfl fun K' hK'=>?_;simp only[sH,↓sP,sA,tyS,simprocAttr,rpost_exit,rpost_normal,rpost_ret,hscope_exit,hscope_normal,hscope_ret,ithen_normal,ithen_exit,ithen_ret,iblk_normal,iblk_exit,iblk_ret,Int.natCast_nonneg,Int.ofNat_lt,hlt,bK hlt,iC];(repeat refine AI ?_);refine hK' _ _ ?_;clear hK' K')
  simp only[sE,↓reduceIte,simprocAttr,rpost_exit,rpost_normal,rpost_ret,hscope_exit,hscope_normal,hscope_ret,ithen_normal,ithen_exit,ithen_ret,iblk_normal,iblk_exit,iblk_ret];repeat refine AI ?_
  refine hK _ _ _ ?_;clear hK K;refine aK (b:=((x:Int)==(l[i]:Int))) rfl (fun hb=>?_) (fun hb=>?_)
  ·
   refine aC fun K hK=>aE (by kernel_rfl) ?_;simp (maxSteps:=4000000) only[↓sP,sA,tyS,simprocAttr,rpost_exit,rpost_normal,rpost_ret,hscope_exit,hscope_normal,hscope_ret,ithen_normal,ithen_exit,ithen_ret,iblk_normal,iblk_exit,iblk_ret];repeat refine AI ?_
   refine hK _ _ _ ?_;clear hK K;refine aH ?_;simp (maxSteps:=4000000) only[bS,Tryz.results103,bP,bR,bN,↓sP,sA,tyS,simprocAttr,rpost_exit,rpost_normal,rpost_ret,hscope_exit,hscope_normal,hscope_ret,ithen_normal,ithen_exit,ithen_ret,iblk_normal,iblk_exit,iblk_ret];have hx:l[i]=x:=by
    have:(x:Int)=l[i]:=by simpa using hb
    omega
   exact aJ [] (.int .i64 (i:Nat)) rfl (fun k h1 h2=>by
    have e1: ¬i<k:=fun h=>h1 i h (by rw[List.getElem?_eq_getElem hlt,hx]);have e2: ¬k<i:=fun h=>hno k h h2;rw[show k=i by omega])
  refine aM ?_;simp (maxSteps:=4000000) only[↓sP,sA,tyS,simprocAttr,rpost_exit,rpost_normal,rpost_ret,hscope_exit,hscope_normal,hscope_ret,ithen_normal,ithen_exit,ithen_ret,iblk_normal,iblk_exit,iblk_ret];repeat refine AI ?_
  refine hK _ _ _ ?_;clear hK K;refine aE (by kernel_rfl) ?_;simp (maxSteps:=4000000) only[↓sP,sA,tyS,simprocAttr,rpost_exit,rpost_normal,rpost_ret,hscope_exit,hscope_normal,hscope_ret,ithen_normal,ithen_exit,ithen_ret,iblk_normal,iblk_exit,iblk_ret,IntWalk.i64_in _ (show-9223372036854775808≤(i:Int)+1∧(i:Int)+1≤9223372036854775807 by omega)];refine⟨⟨i+1,by omega,fun j h=>?_⟩,aO (by omega) (by simp[aX,fin_at,finA_at,upd_at,HV.men,HV.menL,HV.norm,HV.toC,HV.toCL]) (by simp[aY,fob_at,upd_at,none0_at,bO,HO.men,HV.men,HV.menL,HV.norm,HV.toC,HV.toCL]),?_⟩
  ·
   by_cases e:j=i
   ·
    subst e;have hx: ¬(x:Int)=l[j]:=by simpa using hb
    rw[List.getElem?_eq_getElem hlt];intro h;cases h;exact hx rfl
   exact hno j (by omega)
  show l.length-(i+1)<l.length-i;omega
 have hie:i=l.length:=by simp at hb;omega
 subst hie;refine aZ ?_;simp (maxSteps:=4000000) only[↓sP,sA,tyS,simprocAttr,rpost_exit,rpost_normal,rpost_ret,hscope_exit,hscope_normal,hscope_ret,ithen_normal,ithen_exit,ithen_ret,iblk_normal,iblk_exit,iblk_ret];clear hK K;repeat refine AI ?_
 refine hK _ _ _ ?_;clear hK K;refine aC fun K hK=>aE (by kernel_rfl) ?_;simp (maxSteps:=4000000) only[↓sP,sA,tyS,simprocAttr,rpost_exit,rpost_normal,rpost_ret,hscope_exit,hscope_normal,hscope_ret,ithen_normal,ithen_exit,ithen_ret,iblk_normal,iblk_exit,iblk_ret];repeat refine AI ?_
 refine hK _ _ _ ?_;clear hK K;refine aH ?_;simp (maxSteps:=4000000) only[bS,Tryz.results103,bP,bR,bN,↓sP,sA,tyS,simprocAttr,rpost_exit,rpost_normal,rpost_ret,hscope_exit,hscope_normal,hscope_ret,ithen_normal,ithen_exit,ithen_ret,iblk_normal,iblk_exit,iblk_ret];exact aJ [] (.int .i64 (-1)) rfl (fun k h1 h2=>by
  have:=(List.getElem?_eq_some_iff.1 h2).1;exact absurd h2 (hno k this))
theorem qN (id n sz m:Nat):(cI id n sz m).norm=cI id n sz m:=by unfold cI;split<;>rfl
theorem jW {N:Nat→Nat}(id n sz m:Nat):(cI id n sz m).ren N=cI (N id) n sz m:=by unfold cI;split<;>rfl
variable {ob:Ob}
theorem sU (m n:Nat){L:List CV}(h:ob 1=some (.row 41 4 L)):(cI 1 n 4 m).close ob []=cI 1 n 4 m:=by
 unfold cI;split<;>simp[HV.close]
abbrev pvb (l:List Nd)(S:List Sp)(X:HV):HV:= .agg [.c (.slc (l.map Nd.cv)),.c (.slc ((dN l).map iC)),.c (.slc (S.map Sp.cv)),X]
abbrev osP (l:List Nd)(S:List Sp)(W:List Ln)(m:Nat):List HO:=[.box 80 (pvb l S (cI 1 W.length 4 m)),.row 41 4 (W.map Ln.cv)]
def oH (W:List Ln)(m:Nat)(x:Ln):List Ln:=W.take m++[x]++W.drop (m+1)
variable {m:Nat}{W:List Ln}
theorem kO (h:m≤W.length)(x:Ln):(oH W m x).length=max W.length (m+1):=by simp[oH];omega
theorem aG3 (W:List Ln)(x:Ln):oH W W.length x=W++[x]:=by simp[oH]
theorem uH (h:m≤W.length)(x:Ln):(oH W m x).take (m+1)=W.take m++[x]:=by
 unfold oH;rw[List.take_append_of_le_length (by simp;omega),List.take_of_length_le (by simp;omega)]
theorem aT6 (W:List Ln)(m:Nat)(x:Ln):(oH W m x).map Ln.cv=List.take m (W.map Ln.cv)++[x.cv]++List.drop (m+1) (W.map Ln.cv):=by simp[oH,List.map_take,List.map_drop]
theorem cB3 (a b:HO):lst [a,b]=fob [(0,a),(1,b)]:=by
 funext i
 match i with
 |0=>rfl
 |1=>rfl
 |i+2=>simp[lst,fob,upd]
theorem zG {c0:CV}{l:List Nd}{S:List Sp}{u:HV}{R:HV→List HO→Prop}(hr:u= .c c0)(h0:ob 0=some (.box 80 (pvb l S (cI 1 W.length 4 m))))(h1:ob 1=some (.row 41 4 (W.map Ln.cv)))(hR:R (.c c0.denil) (osP l S W m)):
  iR 2 u ob (fun r ob'=> ∃os',ob'=lst os'∧(2≤os'.length∧os'.length≤2+4)∧R r os'):=by
 subst hr;refine gU [] [] (.c c0.denil) (osP l S W m) (by simp[HV.close,HV.norm,HV.toC,HV.ren]) (by simp[HV.men]) ⟨⟨by simp[HO.men,HV.men,HV.menL,pvb,bG],by simp,_,h0,?_⟩,⟨by simp[HO.men],by simp,_,h1,rfl⟩,trivial⟩ rfl List.nodup_nil (by simp) (by simp) hR;simp[pvb,HO.close,HV.close,HV.closeL,sU m W.length h1,CV.denil,denilL_Nd,cO,denilL_Sp,aO8,HV.norm,HV.toC,HV.toCL,HO.ren,HV.ren,HV.renL,aR,qN,jW,tau]
theorem aK5 (l:List Nd)(S:List Sp)(W:List Ln)(m:Nat)(x:Ln)(hm:m≤W.length)(hW:W.length<2^40):
  HGe Tryz.prog 38 [.ptr 0 0,.c x.cv] (osP l S W m) (fun r os'=>r= .c (.int .i64 m)∧os'=osP l S (oH W m x) (m+1)):=by
 refine bI (args:=[.ptr 0 0,.c x.cv]) Tryz.func38 rfl (by kernel_rfl) (eZ rfl (by simp[pvb,dS,HO.men,HV.men,HV.menL,bG]) (by simp[HV.menL,HV.men])) (Nat.le_of_ble_eq_true rfl) ?_;show Hw _ _ 2 _ _ _ (lst _) 2;rw[cB3];have hw1:IntKind.i64.wrap (((m+1:Nat):Int)-1)=(m:Int):=by rw[cC _ (by omega)];omega
 refine aC fun K hK=>aE (by kernel_rfl) ?_;simp (maxSteps:=4000000) only[↓sP,sA,tyS,simprocAttr];repeat refine AI ?_
 refine hK _ _ _ ?_;clear hK K;by_cases hmW:m=W.length
 ·
  subst hmW;refine aC fun K hK=>eE mixed [(0,[],[]),(1,[],[]),(2,[],[]),(3,[],[]),(4,[],[]),(5,[],[]),(6,[],[]),(7,[],[0]),(8,[],[]),(9,[],[]),(10,[],[])] [0,0,2,6,14,0,32,126,255,511,1023] (by kernel_rfl) (by kernel_rfl) (by kernel_rfl) (by kernel_rfl) rfl (by kernel_rfl) ?_;iterate 11
   (refine cQ (g:=none) rfl rfl fun K' hK'=>?_;simp only[sH,↓sP,sA,tyS,simprocAttr,pvb,cA,aV,aS,aR];(repeat refine AI ?_);refine hK' _ _ ?_;clear hK' K')
  simp only[sE,↓reduceIte,simprocAttr];repeat refine AI ?_
  refine hK _ _ _ ?_;clear hK K;refine aC fun K hK=>aE (by kernel_rfl) ?_;simp only[sR,simprocAttr];iterate 7
   (refine aF (g:=none) rfl rfl fun K' hK'=>?_;simp only[sH,↓sP,sA,tyS,simprocAttr,List.length_append,List.length_map,hw1];(repeat refine AI ?_);refine hK' _ _ ?_;clear hK' K')
  simp only[sE,↓reduceIte,simprocAttr];repeat refine AI ?_
  refine hK _ _ _ ?_;clear hK K;refine aH ?_;simp (maxSteps:=4000000) only[bS,Tryz.results38,bP,bR,bN,↓sP,sA,tyS,simprocAttr];exact zG (W:=oH W W.length x) (m:=W.length+1) rfl (by rw[aG3];simp[fob_at,upd_at,cA]) (by rw[aG3];simp[fob_at,upd_at]) ⟨rfl,rfl⟩
 have hWp:0<W.length:=by omega
 have hm2:m+1≤W.length:=by omega
 refine aC fun K hK=>eE mixed [(0,[],[]),(1,[],[]),(2,[],[]),(3,[],[]),(4,[],[]),(5,[],[]),(6,[],[]),(7,[],[0]),(8,[],[]),(9,[],[]),(10,[],[])] [0,0,2,6,14,0,32,126,255,511,1023] (by kernel_rfl) (by kernel_rfl) (by kernel_rfl) (by kernel_rfl) rfl (by kernel_rfl) ?_;iterate 7
  (refine cQ (g:=none) rfl rfl fun K' hK'=>?_;simp only[sH,↓sP,sA,tyS,simprocAttr,pvb,bW hmW,aV,aS,aR,List.length_map,hWp,hm,hm2];(repeat refine AI ?_);refine hK' _ _ ?_;clear hK' K')
 refine cL (g:=none) rfl rfl fun K' hK'=>?_;simp (maxSteps:=4000000) only[sN,↓hopH.eq_def,sH,↓sP,sA,tyS,simprocAttr,pvb,bW hmW,aV,aS,aR,List.length_map,hWp,hm,hm2];repeat refine AI ?_
 refine hK' _ _ ?_;clear hK' K';iterate 3
  (refine cQ (g:=none) rfl rfl fun K' hK'=>?_;simp only[sH,↓sP,sA,tyS,simprocAttr,pvb,bW hmW,aV,aS,aR,List.length_map,hWp,hm,hm2];(repeat refine AI ?_);refine hK' _ _ ?_;clear hK' K')
 simp only[sE,↓reduceIte,simprocAttr];repeat refine AI ?_
 refine hK _ _ _ ?_;clear hK K;by_cases hm1:m+1=W.length
 ·
  have hcan:cI 1 W.length 4 (m+1)= .own 1 (m+1):=by rw[←hm1];exact cA 1 (m+1) 4
  have hll:(List.take m (W.map Ln.cv)++[x.cv]++List.drop (m+1) (W.map Ln.cv)).length=m+1:=by simp;omega
  refine aC fun K hK=>aE (by kernel_rfl) ?_;simp only[sR,simprocAttr];iterate 7
   (refine aF (g:=none) rfl rfl fun K' hK'=>?_;simp only[sH,↓sP,sA,tyS,simprocAttr,hcan,hll,hw1];(repeat refine AI ?_);refine hK' _ _ ?_;clear hK' K')
  simp only[sE,↓reduceIte,simprocAttr];repeat refine AI ?_
  refine hK _ _ _ ?_;clear hK K;refine aH ?_;simp (maxSteps:=4000000) only[bS,Tryz.results38,bP,bR,bN,↓sP,sA,tyS,simprocAttr];exact zG (W:=oH W m x) (m:=m+1) rfl (by rw[kO hm,show max W.length (m+1)=W.length from by omega,hcan];rfl) (by rw[aT6];rfl) ⟨rfl,rfl⟩
 have hll:(List.take m (W.map Ln.cv)++[x.cv]++List.drop (m+1) (W.map Ln.cv)).length=W.length:=by simp;omega
 have hlt:(List.take (m+1) (List.take m (W.map Ln.cv)++[x.cv]++List.drop (m+1) (W.map Ln.cv))).length=m+1:=by rw[List.length_take,hll];omega
 refine aC fun K hK=>aE (by kernel_rfl) ?_;simp only[sR,simprocAttr];iterate 7
  (refine aF (g:=none) rfl rfl fun K' hK'=>?_;simp only[sH,↓sP,sA,tyS,simprocAttr,bW hm1,hll,hlt,hWp,hm2,Nat.zero_le,List.drop_zero,Nat.sub_zero,hw1];(repeat refine AI ?_);refine hK' _ _ ?_;clear hK' K')
 simp only[sE,↓reduceIte,simprocAttr];repeat refine AI ?_
 refine hK _ _ _ ?_;clear hK K;refine aH ?_;simp (maxSteps:=4000000) only[bS,Tryz.results38,bP,bR,bN,↓sP,sA,tyS,simprocAttr];exact zG (W:=oH W m x) (m:=m+1) rfl (by rw[kO hm,show max W.length (m+1)=W.length from by omega,bW hm1];rfl) (by rw[aT6];rfl) ⟨rfl,rfl⟩
end Go.Proofs.YthedbjfipmkpiaaGreatDoor
namespace Go.Hl
open Go Go.RowKit Go.Sort Go.Pl Go.Proofs
def eK (d:Dig):List Value:=d.1.map fun b=> .int .u8 b.toNat
theorem mD (d:Dig):(eK d).length=32:=by simp[eK,d.2]
instance :Inhabited Dig:=⟨zdg⟩
theorem zH {w:World}{O:Nat→Prop}: ∀{l:List UInt8} {xs:List Value},RepL w O (l.map fun b=>CV.int .u8 b.toNat) xs↔xs=l.map fun b=>Value.int .u8 b.toNat
 |[],xs=>by simp only[List.map_nil,RepL]
 |b::l,xs=>by
  simp only[List.map_cons,RepL,RepC,zH];constructor
  · rintro⟨c1,c2,rfl,rfl,rfl⟩;rfl
  · rintro rfl;exact⟨_,_,rfl,rfl,rfl⟩
theorem mE {w:World}{O:Nat→Prop}: ∀{l:List Dig} {xs:List Value},RepL w O (l.map dg) xs↔xs=l.flatMap eK
 |[],xs=>by simp only[List.map_nil,RepL,List.flatMap_nil]
 |d::l,xs=>by
  have e: ∀c,RepC w O (dg d) c↔c=eK d:=fun c=>by simp only[dg,dgl,RepC,zH,eK]
  simp only[List.map_cons,RepL,List.flatMap_cons,mE,e];constructor
  · rintro⟨c1,c2,rfl,rfl,rfl⟩;rfl
  · rintro rfl;exact⟨_,_,rfl,rfl,rfl⟩
theorem sV (l:List Dig):(l.flatMap eK).length=l.length*32:=by
 induction l with
 |nil=>rfl
 |cons d l ih=>rw[List.flatMap_cons,List.length_append,mD,ih,List.length_cons];omega
theorem aT7 : ∀(l:List Dig) (t:Nat) (h:t<l.length*32),(l.flatMap eK)[t]? =(eK (l.toArray[t/32]!))[t%32]?
 |[],t,h=>by simp at h
 |d::l,t,h=>by
  rw[List.flatMap_cons];by_cases ht:t<32
  · rw[List.getElem?_append_left (by rw[mD];exact ht),Nat.div_eq_of_lt ht,Nat.mod_eq_of_lt ht];simp
  · rw[List.getElem?_append_right (by rw[mD];omega),mD,aT7 l (t-32) (by simp only[List.length_cons]at h;omega)];obtain⟨s,rfl⟩: ∃s,t=s+32:=⟨t-32,by omega⟩;rw[Nat.add_sub_cancel,Nat.add_mod_right,Nat.add_div_right _ (by omega)];simp
theorem zI (l:List Dig):(flatK eK 32 l.toArray).toList=l.flatMap eK:=by
 apply List.ext_getElem?;intro t;by_cases ht:t<l.length*32
 ·
  rw[aT7 l t ht,Array.getElem?_toList,Array.getElem?_eq_getElem (by simpa using ht)];have h1:=get_flatK eK 32 l.toArray t (by simpa using ht);rw[getElem!_pos _ t (by simpa using ht)]at h1;rw[h1];have h2:t%32<(eK l.toArray[t/32]!).length:=by rw[mD];omega
  rw[List.getElem?_eq_getElem h2,getElem!_pos (eK l.toArray[t/32]!) (t%32) h2]
 · rw[List.getElem?_eq_none (by simp;omega),List.getElem?_eq_none (by rw[sV];omega)]
theorem zJ (F cur:Array Value)(h:F.size≤cur.size):(putCells id 0 F cur).toList.take F.size=F.toList:=by
 apply List.ext_getElem?;intro i;by_cases hi:i<F.size
 ·
  rw[List.getElem?_take,if_pos hi];have hc:i<cur.size:=by omega
  simp only[putCells,Array.getElem?_toList,Array.getElem?_mapIdx,Array.getElem?_eq_getElem hc,Option.map_some,Array.getElem?_eq_getElem hi];simp[hi]
 · rw[List.getElem?_take,if_neg hi,List.getElem?_eq_none (by simpa using hi)]
end Go.Hl
namespace Go.Hl
open Go Go.RowKit Go.Sort Go.Pl
theorem aK6 {P:Program}{f:FuncId}{e:TypeId}{l:List Dig}(hok:eL P f=true)(hbig:l.length*32≤140737488355328)
  (hc: ∀(b off c:Nat) (w:World),(∀j u,(l.flatMap eK)[j]? =some u→w.cell? ⟨b,off+j,none⟩=some u)→Calls P f #[.slice (some ⟨b,off,none⟩) l.length c] w fun x w'=> ∃v',x= .returned v'∧w'.ownsRow w.heap.size e 32 v' l.length (l.flatMap eK)∧v'≠ .slice none 0 0∧Below w.heap.size w w')
  (hc0: ∀(c:Nat) (w:World),Calls P f #[.slice none 0 c] w fun x w'=>x= .returned (.slice none 0 0)∧w'=w)
  (hcz: ∀(a:Addr) (c:Nat) (w:World),Calls P f #[.slice (some a) 0 c] w fun x w'=> ∃v',x= .returned v'∧w'.ownsRow w.heap.size e 32 v' 0 []∧v'≠ .slice none 0 0∧Below w.heap.size w w'):
  cE P f [.slc (l.map dg)] (fun v=>v= .slc (l.map dg)):=by
 refine⟨qY hok,fun w ρ X xs hS hA hX=>Does.of hok ?_⟩;have done: ∀(w':World) (v:Value),w'.ownsRow w.heap.size e 32 v l.length (l.flatMap eK)→Below w.heap.size w w'→ ∃r ob' ρ' x,Ending.returned v= .returned x∧(∃u,r=HV.c u∧u= .slc (l.map dg)∧ob'=dF)∧Gave w ρ X 0 r ob' w' ρ' x:=by
  intro w' v hrow hb;have hs2:Stay2 w (Own ρ) w' (Own ρ):=⟨fun g hg _=>hb.block g hg,fun _ h=> .inl h,hb.size,hb.os,hb.tape,hb.output⟩;have hst:=hs2.stay X;refine⟨_,_,ρ,v,rfl,⟨_,rfl,rfl,rfl⟩,⟨?_,⟨fun i o ho=>by simp[dF]at ho,hS.none,hS.apart,hS.xb⟩,by simp[HV.men],fun i o ho=>by simp[dF]at ho,hs2,Moves.refl _ _⟩⟩;have hag:Value.isAgg' v=false:=by rcases hrow.2 with⟨rfl,_⟩|⟨g,cap,cur,rfl,_⟩<;>rfl
  refine bQ ?_ rfl hag;simp only[RepC];rcases hrow.2 with⟨rfl,hz⟩|⟨g,cap,cur,rfl,hg0,hg,hcap,_⟩
  · have:l=[]:=List.eq_nil_of_length_eq_zero hz;exact⟨none,0,[],32,by simp[this],by simp[this,RepL],by simp[this],by simp[this],fun _=>rfl,fun ad had=>(by cases had)⟩
  ·
   refine⟨some ⟨g,0,none⟩,cap,l.flatMap eK,32,by simp,mE.2 rfl,fun u hu=>?_,by simp;exact hcap,fun hh=>(by cases hh),fun ad had=>?_⟩
   · obtain⟨k,_,rfl⟩:=List.mem_map.1 hu;exact dg_cells k
   ·
    cases had;refine⟨hrow.cells (g:=g) rfl,fun _=>?_⟩;rintro(hx|⟨i,L,h1,h2⟩)
    · have:g<w.heap.size:=hX g hx;omega
    · have:g<w.heap.size:=Owned.lt hS h1 h2;omega
 simp only[List.map_cons,List.map_nil,bF,RepHV]at hA;obtain⟨x,zs,rfl,hx,rfl⟩:=hA;have h1:=RepV.single hx rfl;simp only[RepC,List.cons.injEq,and_true]at h1;obtain⟨a,cap,ys,sz,rfl,h2,_,h4,h5,h6⟩:=h1;have hys:=mE.1 h2;subst hys;simp only[List.length_map];cases a with
 |none=>
  have hz:=h5 rfl;have hl0:l=[]:=by
   refine List.eq_nil_of_length_eq_zero ?_;simp only[List.length_map]at h4;omega
  subst hl0;refine(hc0 cap w).mono ?_;rintro ex w' ⟨rfl,rfl⟩;exact done w' _ ⟨rfl,.inl ⟨rfl,rfl⟩⟩ (Below.refl _ _)
 |some ad=>
  have hr:=(h6 ad rfl).1;by_cases hl0:l=[]
  · subst hl0;refine(hcz ad cap w).mono ?_;rintro ex w' ⟨v',rfl,hrow,_,hb⟩;exact done w' v' hrow hb
  ·
   have hpos:0<l.length:=List.length_pos_iff.2 hl0;have hspot:ad.spot=none:=by
    obtain⟨u,hu⟩: ∃u,(l.flatMap eK)[0]? =some u:=⟨(l.flatMap eK)[0]'(by rw[sV];omega),List.getElem?_eq_getElem _⟩;have:=hr 0 u hu;simp only[World.cell?]at this;split at this
    ·
     split at this
     · cases this
     · rename_i hh;simpa[Addr.add]using hh
    · cases this
   obtain⟨b,off,spot⟩:=ad;simp only at hspot;subst hspot;refine(hc b off cap w fun j u hj=>?_).mono ?_
   ·
    have:=hr j u hj;have e:(⟨b,off,none⟩:Addr).add j=⟨b,off+j,none⟩:=by
     by_cases h0:j=0
     · subst h0;rfl
     · simp[Addr.add,h0]
    rwa [e]at this
   · rintro ex w' ⟨v',rfl,hrow,_,hb⟩;exact done w' v' hrow hb
end Go.Hl
namespace Go.Proofs.YthedbjfipmkpiaaGreatDoor
open Go Go.Hl Go.Pl Go.Sort Go.RowKit Go.Lib
set_option maxRecDepth 100000
set_option maxHeartbeats 16000000 in
theorem aT8 (news:List Value)(n b off c:Nat)(w:World)(hl:news.length=n*32)(hbig:n*32≤140737488355328)(h1: ∀u∈news,u.oneCell'=true)(hc: ∀j u,news[j]? =some u→w.cell? ⟨b,off+j,none⟩=some u):
  Calls Tryz.prog 104 #[.slice (some ⟨b,off,none⟩) n c] w fun e w'=> ∃v',e= .returned v'∧w'.ownsRow w.heap.size 44 32 v' n news∧v'≠ .slice none 0 0∧Below w.heap.size w w':=by
 obtain⟨i0,hi,hz⟩:=Option.map_eq_some_iff.1 (show(Tryz.prog.info? 44).map (fun i=>(i.zero,i.size,i.bytes))=some (some (.agg (Array.replicate 32 (.int .u8 0))),32,32)from by kernel_rfl);simp only[Prod.mk.injEq]at hz;have q24: ∀(w:World) (a:Option Addr) (n c n' c':Nat),(binOp .eql 39 (.slice a n c) (.slice none n' c')).run Tryz.prog w= .ok (.bool a.isNone) w:=fun w a n c n' c'=>Lib.run_eql_slice_nil w _ _ a n c n' c' Tryz.underlying39;have A:Aside (∀j u,news[j]? =some u→w.cell? ⟨b,off+j,none⟩=some u):=hc;clear hc
 go_enter Tryz.func104,Tryz.ntmps104
 go_wp2_with (at_builtin;refine wpList_append_own _ rfl _ _ 39 rfl w.heap.size 44 i0 (.agg (Array.replicate 32 (.int .u8 0))) 32 32 Tryz.underlying39 hi hz.1 hz.2.1 hz.2.2 rfl (by decide) _ _ _ rfl (World.ownsRow_made w #[] 0 (Nat.le_refl _) (Nat.zero_le _) rfl) ⟨b,off,none⟩ n c news rfl hl ?qc2 h1 ?qc4 ?qc5 ?qc6 ?_)
 case qc2=>
  intro j u hj;rw[Addr.add_lit];exact Lib.cell?_alloc_some _ (A.out j u hj)
 case qc4=>unfold maxLen;omega
 case qc5=>omega
 case qc6=>simp
 intro v' w1 hown hgrow hnil
 go_wp2
 go_ret
 refine⟨v',rfl,by simpa using hown,?_,?_⟩
 · exact hnil
 exact((Below.refl _ w).alloc (Nat.le_refl _) _).grown hgrow (by simp) (by intro k hk;simp[Value.ownBlock]at hk;omega)
set_option maxHeartbeats 1000000 in
theorem bO6 (c:Nat)(w:World):Calls Tryz.prog 104 #[.slice none 0 c] w fun e w'=>e= .returned (.slice none 0 0)∧w'=w:=by
 have q24: ∀(w:World) (a:Option Addr) (n c n' c':Nat),(binOp .eql 39 (.slice a n c) (.slice none n' c')).run Tryz.prog w= .ok (.bool a.isNone) w:=fun w a n c n' c'=>Lib.run_eql_slice_nil w _ _ a n c n' c' Tryz.underlying39
 go_enter Tryz.func104,Tryz.ntmps104
 go_wp2
 go_ret
 exact⟨rfl,rfl⟩
set_option maxHeartbeats 16000000 in
theorem bA4 (a:Addr)(c:Nat)(w:World):Calls Tryz.prog 104 #[.slice (some a) 0 c] w fun e w'=> ∃v',e= .returned v'∧w'.ownsRow w.heap.size 44 32 v' 0 []∧v'≠ .slice none 0 0∧Below w.heap.size w w':=by
 obtain⟨i0,hi,hz⟩:=Option.map_eq_some_iff.1 (show(Tryz.prog.info? 44).map (fun i=>(i.zero,i.size,i.bytes))=some (some (.agg (Array.replicate 32 (.int .u8 0))),32,32)from by kernel_rfl);simp only[Prod.mk.injEq]at hz;have q24: ∀(w:World) (a:Option Addr) (n c n' c':Nat),(binOp .eql 39 (.slice a n c) (.slice none n' c')).run Tryz.prog w= .ok (.bool a.isNone) w:=fun w a n c n' c'=>Lib.run_eql_slice_nil w _ _ a n c n' c' Tryz.underlying39
 go_enter Tryz.func104,Tryz.ntmps104
 go_wp2_with (at_builtin;refine wpList_append_own _ rfl _ _ 39 rfl w.heap.size 44 i0 (.agg (Array.replicate 32 (.int .u8 0))) 32 32 Tryz.underlying39 hi hz.1 hz.2.1 hz.2.2 rfl (by decide) _ _ _ rfl (World.ownsRow_made w #[] 0 (Nat.le_refl _) (Nat.zero_le _) rfl) a 0 c [] rfl rfl (by intro j u hj;simp at hj) (by intro u hu;cases hu) (by unfold maxLen;omega) (by omega) (by simp) ?_)
 intro v' w1 hown hgrow hnil
 go_wp2
 go_ret
 refine⟨v',rfl,by simpa using hown,?_,?_⟩
 · first|exact hnil|(intro e;exact absurd (hnil.1 e).1 (by simp))
 exact((Below.refl _ w).alloc (Nat.le_refl _) _).grown hgrow (by simp) (by intro k hk;simp[Value.ownBlock]at hk;omega)
theorem bO7 (l:List Dig)(hl:l.length<2^42):cE Tryz.prog 104 [.slc (l.map dg)] (fun v=>v= .slc (l.map dg)):=
 aK6 (e:=44) (by kernel_rfl) (by omega) (fun b off c w hc=>aT8 (l.flatMap eK) l.length b off c w (sV l) (by omega) (fun u hu=>by
  obtain⟨d,_,hu⟩:=List.mem_flatMap.1 hu;obtain⟨x,_,rfl⟩:=List.mem_map.1 hu;rfl) hc) bO6 bA4
end Go.Proofs.YthedbjfipmkpiaaGreatDoor
namespace Go.Proofs.YthedbjfipmkpiaaGreatDoor
open Go Go.Hl Go.Pl
set_option maxRecDepth 10000
set_option maxHeartbeats 16000000
theorem cJ0 (n:Nat)(ob:Ob)(e:TypeId)(sz:Nat)(v:HV)(L:List CV)(t:TypeId):jD (sub [0,1] n) ob 0 [.box t v,.row e sz L]=upd (upd ob 0 (some ((HO.box t v).ren (sub [0,1] n)))) 1 (some (.row e sz L)):=rfl
theorem wF (n:Nat)(ob:Ob)(l:List Nd)(S:List Sp)(W:List Ln)(m:Nat):jD (sub [0,1] n) ob 0 (osP l S W m)=upd (upd ob 0 (some (.box 80 (pvb l S (cI 1 W.length 4 m))))) 1 (some (.row 41 4 (W.map Ln.cv))):=by
 rw[cJ0];simp[HO.ren,HV.ren,HV.renL,pvb,jW,sub]
theorem wG (n:Nat)(t:TypeId)(l:List Nd)(S:List Sp)(a m:Nat):(HO.box t (pvb l S (cI 1 a 4 m))).ren (sub [0,1] n)= .box t (pvb l S (cI 1 a 4 m)):=by
 simp[HO.ren,HV.ren,HV.renL,pvb,jW,sub]
theorem kP {ob:Ob}{a0 b0:CV}{l:List Nd}{S:List Sp}{W:List Ln}{m:Nat}{u:HV}{R:HV→List HO→Prop}(hr:u= .tup [.c a0,.c b0])(h0:ob 0=some (.box 80 (pvb l S (cI 1 W.length 4 m))))(h1:ob 1=some (.row 41 4 (W.map Ln.cv)))(hR:R (.tup [.c a0.denil,.c b0.denil]) (osP l S W m)):
  iR 2 u ob (fun r ob'=> ∃os',ob'=lst os'∧(2≤os'.length∧os'.length≤2+4)∧R r os'):=by
 subst hr;refine gU [] [] (.tup [.c a0.denil,.c b0.denil]) (osP l S W m) (by simp[HV.close,HV.closeL,HV.norm,HV.toC,HV.toCL,HV.ren,HV.renL]) (by simp[HV.men,HV.menL]) ⟨⟨by simp[HO.men,HV.men,HV.menL,pvb,bG],by simp,_,h0,?_⟩,⟨by simp[HO.men],by simp,_,h1,rfl⟩,trivial⟩ rfl List.nodup_nil (by simp) (by simp) hR;simp[pvb,HO.close,HV.close,HV.closeL,sU m W.length h1,CV.denil,denilL_Nd,cO,denilL_Sp,aO8,HV.norm,HV.toC,HV.toCL,HO.ren,HV.ren,HV.renL,aR,qN,jW,tau]
theorem bA5 (l:List Nd)(h:l.length<2^40):(dN l).length<2^40:=by
 unfold dN;split
 · rw[gE];have:=bC7 l;omega
 simp
theorem cL7 (n:Nat)(v:CV):HV.ren (sub [0,1] n) (.c v)= .c v:=rfl
theorem cB4 (l:List Nd)(htb:dU l=true)(S:List Sp)(hS:S.length<2^40)(hd: ∀x∈S,x.d.length<2^42)(W:List Ln)(m i:Nat)(hm:m≤W.length)(hW:W.length<2^39)(hi:i<l.length)(hk:l[i].k=1):
  HGe Tryz.prog 74 [.ptr 0 0,.c (.int .i64 i)] (osP l S W m) (fun r os'=>r= .tup [.c (.int .i64 (if(S.getD (lv (l.take i)) sp0).h then m else 0)),.c (.bool (S.getD (lv (l.take i)) sp0).h)]∧os'=if(S.getD (lv (l.take i)) sp0).h then osP l S (oH W m (jL l S i)) (m+1)else osP l S W m):=by
 refine bI (args:=[.ptr 0 0,.c (.int .i64 i)]) Tryz.func74 rfl (by kernel_rfl) (eZ rfl (by simp[pvb,dS,HO.men,HV.men,HV.menL,bG]) (by simp[HV.menL,HV.men])) (Nat.le_of_ble_eq_true rfl) ?_;show Hw _ _ 2 _ _ _ (lst _) 2;rw[cB3];have hlv:dN l=eG 0 l:=kN htb;have hat:=aS4 hi hk;have hll:=(eT htb).len;obtain⟨k,hkk⟩: ∃k,k=lv (l.take i):=⟨_,rfl⟩;rw[←hkk]at hat;have hneed:jL l S i=⟨1,i,(S.getD k sp0).d,[]⟩:=by rw[jL,←hkk]
 rw[←hkk,hneed];refine aC fun K hK=>aE (by kernel_rfl) ?_;simp (maxSteps:=4000000) only[↓sP,sA,tyS,simprocAttr];repeat refine AI ?_
 refine hK _ _ _ ?_;clear hK K;refine aC fun K hK=>aE (by kernel_rfl) ?_;simp only[sR,simprocAttr];iterate 5
  (refine aF (g:=none) rfl rfl fun K' hK'=>?_;simp only[sH,↓sP,sA,tyS,simprocAttr,pvb,aV,aS,aR,cO,denilL_dg];(repeat refine AI ?_);refine hK' _ _ ?_;clear hK' K')
 refine aF (g:=none) rfl rfl fun K' hK'=>?_;simp (maxSteps:=4000000) only[sH,↓sP,sA,tyS,simprocAttr,pvb,aV,aS,aR,cO,denilL_dg];refine cZ (args:=[_,_]) (bO5 (dN l) i (bA5 l (by omega))) ⟨rfl,rfl,rfl,rfl⟩ ?_;rintro u hu;obtain rfl:=hu k (fun j hj h=>by rw[hlv]at h;have:=bN7 hi hk h;omega) (by rw[hlv];exact hat);repeat refine AI ?_
 refine hK' _ _ ?_;clear hK' K';refine aF (g:=none) rfl rfl fun K' hK'=>?_;simp (maxSteps:=4000000) only[sH,↓sP,sA,tyS,simprocAttr,pvb,aV,aS,aR,cO,denilL_dg];repeat refine AI ?_
 refine hK' _ _ ?_;clear hK' K';simp only[sE,↓reduceIte,simprocAttr];repeat refine AI ?_
 refine hK _ _ _ ?_;clear hK K;refine aC fun K hK=>?_;by_cases hlt:k<S.length
 ·
  have hg:S.getD k sp0=S[k]:=by simp[List.getD_eq_getElem?_getD,hlt]
  have hge:decide ((k:Int)≥(S.length:Int))=false:=by simp;omega
  refine aC fun K hK=>aE (by kernel_rfl) ?_;simp only[sR,simprocAttr];iterate 8
   (refine aF (g:=none) rfl rfl fun K' hK'=>?_;simp only[sH,↓sP,sA,tyS,simprocAttr,pvb,aV,aS,aR,cO,denilL_dg,hge,Int.natCast_nonneg,Int.ofNat_lt,hlt,bK hlt];(repeat refine AI ?_);refine hK' _ _ ?_;clear hK' K')
  iterate 9
   (refine aF (g:=some (20,false)) rfl rfl fun K' hK'=>?_;simp only[sH,↓sP,sA,tyS,simprocAttr,pvb,aV,aS,aR,cO,denilL_dg,hge,Int.natCast_nonneg,Int.ofNat_lt,hlt,bK hlt];(repeat refine AI ?_);refine hK' _ _ ?_;clear hK' K')
  refine aF (g:=none) rfl rfl fun K' hK'=>?_;simp (maxSteps:=4000000) only[sH,↓sP,sA,tyS,simprocAttr,pvb,aV,aS,aR,cO,denilL_dg,hge,Int.natCast_nonneg,Int.ofNat_lt,hlt,bK hlt];repeat refine AI ?_
  refine hK' _ _ ?_;clear hK' K';simp only[sE,↓reduceIte,simprocAttr];repeat refine AI ?_
  refine hK _ _ _ ?_;clear hK K;refine aK (b:=!S[k].h) rfl (fun hb=>?_) (fun hb=>?_)
  ·
   have hh:S[k].h=false:=by simpa using hb
   refine aC fun K hK=>aE (by kernel_rfl) ?_;simp (maxSteps:=4000000) only[↓sP,sA,tyS,simprocAttr];repeat refine AI ?_
   refine hK _ _ _ ?_;clear hK K;refine aH ?_;simp (maxSteps:=4000000) only[bS,Tryz.results74,bP,bR,bN,↓sP,sA,tyS,simprocAttr];exact kP (W:=W) (m:=m) rfl rfl rfl ⟨by rw[hg,hh];rfl,by rw[hg,hh];rfl⟩
  have hh:S[k].h=true:=by simpa using hb
  refine aM ?_;simp (maxSteps:=4000000) only[↓sP,sA,tyS,simprocAttr];repeat refine AI ?_
  refine hK _ _ _ ?_;clear hK K;refine aC fun K hK=>aE (by kernel_rfl) ?_;simp only[sR,simprocAttr];iterate 10
   (refine aF (g:=none) rfl rfl fun K' hK'=>?_;simp only[sH,↓sP,sA,tyS,simprocAttr,pvb,aV,aS,aR,cO,denilL_dg,Int.natCast_nonneg,Int.ofNat_lt,hlt,bK hlt];(repeat refine AI ?_);refine hK' _ _ ?_;clear hK' K')
  refine aF (g:=none) rfl rfl fun K' hK'=>?_;simp (maxSteps:=4000000) only[sH,↓sP,sA,tyS,simprocAttr,pvb,aV,aS,aR,cO,denilL_dg,Int.natCast_nonneg,Int.ofNat_lt,hlt,bK hlt];refine cZ (args:=[_]) (bO7 S[k].d (hd _ (List.getElem_mem hlt))) ⟨rfl,rfl,rfl,rfl⟩ ?_;rintro u rfl;repeat refine AI ?_
  refine hK' _ _ ?_;clear hK' K';refine aF (g:=none) rfl rfl fun K' hK'=>?_;simp (maxSteps:=4000000) only[sH,↓sP,sA,tyS,simprocAttr,pvb,aV,aS,aR,cO,denilL_dg,Int.natCast_nonneg,Int.ofNat_lt,hlt,bK hlt];repeat refine AI ?_
  refine hK' _ _ ?_;clear hK' K';refine aF (g:=none) rfl rfl fun K' hK'=>?_;simp (maxSteps:=4000000) only[sH,↓sP,sA,tyS,simprocAttr,pvb,aV,aS,aR,cO,denilL_dg,Int.natCast_nonneg,Int.ofNat_lt,hlt,bK hlt];refine eX [0,1] (aK5 l S W m ⟨1,i,S[k].d,[]⟩ hm (by omega)) rfl ⟨(by rw[wG];rfl),rfl,trivial⟩ (by simp) (by simp) ⟨rfl,rfl,rfl,rfl⟩ (by simp[dS,HO.men,HV.men,HV.menL,bG]) (by simp[HV.menL,HV.men]) ?_;rintro r os' ⟨rfl,rfl⟩;rw[wF,cL7];repeat refine AI ?_
  refine hK' _ _ ?_;clear hK' K';iterate 2
   (refine aF (g:=none) rfl rfl fun K' hK'=>?_;simp only[sH,↓sP,sA,tyS,simprocAttr,pvb,aV,aS,aR,cO,denilL_dg,Int.natCast_nonneg,Int.ofNat_lt,hlt,bK hlt];(repeat refine AI ?_);refine hK' _ _ ?_;clear hK' K')
  simp only[sE,↓reduceIte,simprocAttr];repeat refine AI ?_
  refine hK _ _ _ ?_;clear hK K;refine aH ?_;simp (maxSteps:=4000000) only[bS,Tryz.results74,bP,bR,bN,↓sP,sA,tyS,simprocAttr];exact kP (W:=oH W m ⟨1,i,S[k].d,[]⟩) (m:=m+1) rfl rfl rfl ⟨by rw[hg,hh];rfl,by rw[hg,hh];rfl⟩
 have hg:S.getD k sp0=sp0:=by simp[List.getD_eq_getElem?_getD,hlt]
 have hge:decide ((k:Int)≥(S.length:Int))=true:=by simp;omega
 refine aC fun K hK=>aE (by kernel_rfl) ?_;simp only[sR,simprocAttr];iterate 8
  (refine aF (g:=none) rfl rfl fun K' hK'=>?_;simp only[sH,↓sP,sA,tyS,simprocAttr,pvb,aV,aS,aR,cO,denilL_dg,hge];(repeat refine AI ?_);refine hK' _ _ ?_;clear hK' K')
 iterate 9
  (refine aF (g:=some (20,false)) rfl rfl fun K' hK'=>?_;simp only[sH,↓sP,sA,tyS,simprocAttr,pvb,aV,aS,aR,cO,denilL_dg,hge];(repeat refine AI ?_);refine hK' _ _ ?_;clear hK' K')
 refine aF (g:=none) rfl rfl fun K' hK'=>?_;simp (maxSteps:=4000000) only[sH,↓sP,sA,tyS,simprocAttr,pvb,aV,aS,aR,cO,denilL_dg,hge];repeat refine AI ?_
 refine hK' _ _ ?_;clear hK' K';simp only[sE,↓reduceIte,simprocAttr];repeat refine AI ?_
 refine hK _ _ _ ?_;clear hK K;refine aK (b:=true) rfl (fun hb=>?_) (fun hb=>?_)
 ·
  refine aC fun K hK=>aE (by kernel_rfl) ?_;simp (maxSteps:=4000000) only[↓sP,sA,tyS,simprocAttr];repeat refine AI ?_
  refine hK _ _ _ ?_;clear hK K;refine aH ?_;simp (maxSteps:=4000000) only[bS,Tryz.results74,bP,bR,bN,↓sP,sA,tyS,simprocAttr];exact kP (W:=W) (m:=m) rfl rfl rfl ⟨by rw[hg];rfl,by rw[hg];rfl⟩
 cases hb
end Go.Proofs.YthedbjfipmkpiaaGreatDoor
