/- Part of a proof: walks of functions of the program, by contracts, and the rules they use. By an AI agent. -/
import Derived.Test.YthedbjfipmkpiaaGreatDoorHdV1
import Derived.Test.YthedbjfipmkpiaaGreatDoorHdSb
import Derived.Test.YthedbjfipmkpiaaGreatDoorHdV9
set_option linter.unusedSimpArgs false
set_option linter.unusedVariables false
set_option linter.defProp false
namespace Go.Proofs.YthedbjfipmkpiaaGreatDoor
open Go Go.Hl Go.Pl
set_option maxRecDepth 10000
set_option maxHeartbeats 8000000
theorem kI (a b:List aH):eQ (a++b)=(eQ a).bind fun x=>(eQ b).map (x++·):=by
 unfold eQ;rw[List.mapM_append];cases List.mapM dK a with
 |none=>rfl
 |some x=>cases List.mapM dK b<;>rfl
theorem rE (w:aH):eQ [w]=(dK w).map ([·]):=by
 unfold eQ;simp only[List.mapM_cons,List.mapM_nil];cases dK w<;>rfl
variable {i:Nat}{l:List aH}
theorem bI3 (h:i<l.length){o:List Int}(ho:eQ (l.take i)=some o){n:Int}(hn:dK l[i]=some n):eQ (l.take (i+1))=some (o++[n]):=by
 rw[List.take_succ_eq_append_getElem h,kI,ho,rE,hn];rfl
theorem aA8 (h:i<l.length)(hn:dK l[i]=none):eQ l=none:=by
 have e:l=l.take i++([l[i]]++l.drop (i+1)):=by
  rw[List.singleton_append,List.getElem_cons_drop,List.take_append_drop]
 rw[e,kI,kI,rE,hn];cases eQ (l.take i)<;>rfl
variable {b:Bool}
theorem cR0 (h:(!b)=false):b=true:=by cases b<;>simp_all
variable {ls:List (List aH)}
theorem cC (h:i<ls.length):nth (ls.map lsC) i= .slc ((wd' ls i).map .str):=by
 rw[bA h,wd',List.getD_eq_getElem?_getD,List.getElem?_eq_getElem h];rfl
theorem cF (h:i<l.length):nth (l.map .str) i= .str (wd l i):=by
 rw[bA h,wd,List.getD_eq_getElem?_getD,List.getElem?_eq_getElem h];rfl
theorem wZ (l:List aH)(hl:l.length<2^38):jN Tryz.prog 125 [.slc (l.map .str)] (fun u v=>u= .slc (((eQ l).getD []).map (CV.int .i64))∧v= .bool (eQ l).isSome):=by
 refine bD Tryz.func125 rfl (by kernel_rfl) (bH _) (Nat.le_of_ble_eq_true rfl) ?_;refine aE fun K hK=>aD (by kernel_rfl) ?_;simp (maxSteps:=4000000) only[↓sP,sA,tyS,simprocAttr];repeat refine AI ?_
 refine hK _ _ _ ?_;clear hK K;refine aE fun K hK=>aD (by kernel_rfl) ?_;simp (maxSteps:=4000000) only[↓sP,sA,tyS,simprocAttr];repeat refine AI ?_
 refine hK _ _ _ ?_;clear hK K;refine aE fun K hK=>?_;refine aE fun K hK=>aD (by kernel_rfl) ?_;simp (maxSteps:=4000000) only[↓sP,sA,tyS,simprocAttr];repeat refine AI ?_
 refine hK _ _ _ ?_;clear hK K;refine aP ?_;refine jJ 4 0 3 1 rfl rfl rfl rfl ?_;refine bR (α:={y:Nat×List Int//y.1≤l.length∧y.2.length=y.1∧eQ (l.take y.1)=some y.2}) (fun y=>(fin [(4,.own 24 y.1.2.length),(9,.c (.slc (l.map .str))),(10,.c (.int .i64 l.length)),(11,.c (.int .i64 y.1.1))],fob [(24,.row 3 1 (y.1.2.map (CV.int .i64)))])) 100 (fun y=>l.length-y.1.1) ⟨(0,[]),by omega,rfl,rfl⟩ (aI (by omega) (by simp[aY,fin_at,finA_at,upd_at,HV.men,HV.menL,HV.norm,HV.toC,HV.toCL]) (by simp[bB,fob_at,upd_at,none0_at,bN,HO.men,HV.men,HV.menL,HV.norm,HV.toC,HV.toCL])) ?_;rintro⟨⟨i,o⟩,hi,ho,hno⟩;simp only at hi ho hno⊢;refine aE fun K hK=>aD (by kernel_rfl) ?_;simp (maxSteps:=4000000) only[↓sP,sA,tyS,simprocAttr];repeat refine AI ?_
 refine hK _ _ _ ?_;clear hK K;refine aE fun K hK=>?_;refine aG (b:=decide ((i:Int)<l.length)) rfl (fun hb=>?_) (fun hb=>?_)
 ·
  have hlt:i<l.length:=by have:=of_decide_eq_true hb;omega
  have hm1:o.length+1≤maxLen:=by simp only[maxLen];omega
  have hm2:(o.length+1)*8≤140737488355328:=by omega
  clear hb;refine aK ?_;simp (maxSteps:=4000000) only[↓sP,sA,tyS,simprocAttr];repeat refine AI ?_
  refine hK _ _ _ ?_;clear hK K;refine aE fun K hK=>?_;refine aP ?_;refine aE fun K hK=>aD (by kernel_rfl) ?_;simp (maxSteps:=4000000) only[↓sP,sA,tyS,simprocAttr,Int.natCast_nonneg,Int.ofNat_lt,hlt,bA hlt];repeat refine AI ?_
  refine hK _ _ _ ?_;clear hK K;refine aE fun K hK=>aD (by kernel_rfl) ?_;simp only[sR,simprocAttr];refine aC (g:=none) rfl rfl fun K' hK'=>?_;simp (maxSteps:=4000000) only[sH,↓sP,sA,tyS,simprocAttr];repeat refine AI ?_
  refine hK' _ _ ?_;clear hK' K';refine aC (g:=none) rfl rfl fun K' hK'=>?_;simp (maxSteps:=4000000) only[sH,↓sP,sA,tyS,simprocAttr];refine cS (args:=[_]) (cB2 l[i]) ⟨rfl,rfl,rfl,rfl⟩ ?_;rintro u v ⟨rfl,rfl⟩;repeat refine AI ?_
  refine hK' _ _ ?_;clear hK' K';iterate 5
   (refine aC (g:=none) rfl rfl fun K' hK'=>?_;simp only[sH,↓sP,sA,tyS,simprocAttr];(repeat refine AI ?_);refine hK' _ _ ?_;clear hK' K')
  simp only[sE,↓reduceIte,simprocAttr];repeat refine AI ?_
  refine hK _ _ _ ?_;clear hK K;refine aE fun K hK=>?_;refine aE fun K hK=>aD (by kernel_rfl) ?_;simp (maxSteps:=4000000) only[↓sP,sA,tyS,simprocAttr];repeat refine AI ?_
  refine hK _ _ _ ?_;clear hK K;refine aG (b:=!(dK l[i]).isSome) rfl (fun hb=>?_) (fun hb=>?_)
  ·
   refine aE fun K hK=>aD (by kernel_rfl) ?_;simp (maxSteps:=4000000) only[↓sP,sA,tyS,simprocAttr];repeat refine AI ?_
   refine hK _ _ _ ?_;clear hK K;refine aJ ?_;simp (maxSteps:=4000000) only[aT,Tryz.results125,aR,aS,aQ,↓sP,sA,tyS,simprocAttr];have hn:dK l[i]=none:=by simpa using hb
   exact bL [] (.slc []) (.bool false) (by simp[HV.close,HV.closeL,CV.denil,CV.denilL,HV.norm,HV.toC,HV.toCL]) ⟨by rw[aA8 hlt hn];rfl,by rw[aA8 hlt hn];rfl⟩
  obtain⟨n,hn⟩:=Option.isSome_iff_exists.1 (cR0 hb);rw[hn];clear hb;refine aK ?_;simp (maxSteps:=4000000) only[↓sP,sA,tyS,simprocAttr];repeat refine AI ?_
  refine hK _ _ _ ?_;clear hK K;refine aD (by kernel_rfl) ?_;simp only[sR,simprocAttr];iterate 5
   (refine aC (g:=none) rfl rfl fun K' hK'=>?_;simp only[sH,↓sP,sA,tyS,simprocAttr,List.length_map,hm1,hm2,Option.getD_some];(repeat refine AI ?_);refine hK' _ _ ?_;clear hK' K')
  simp only[sE,↓reduceIte,simprocAttr];repeat refine AI ?_
  refine hK _ _ _ ?_;clear hK K;refine aD (by kernel_rfl) ?_;simp (maxSteps:=4000000) only[↓sP,sA,tyS,simprocAttr,IntWalk.i64_in _ (show-9223372036854775808≤(i:Int)+1∧(i:Int)+1≤9223372036854775807 by omega)];refine⟨⟨(i+1,o++[n]),by show i+1≤l.length;omega,by simp[ho],bI3 hlt hno hn⟩,(aI (by omega) (by simp[aY,fin_at,finA_at,upd_at,HV.men,HV.menL,HV.norm,HV.toC,HV.toCL,List.map_append,List.length_append]) (by simp[bB,fob_at,upd_at,none0_at,bN,HO.men,HV.men,HV.menL,HV.norm,HV.toC,HV.toCL,List.map_append,List.length_append])),?_⟩;show l.length-(i+1)<l.length-i;omega
 have hie:i=l.length:=by have:=of_decide_eq_false hb;omega
 subst hie;rw[List.take_length]at hno;refine bK ?_;simp (maxSteps:=4000000) only[↓sP,sA,tyS,simprocAttr];clear hK K;repeat refine AI ?_
 refine hK _ _ _ ?_;clear hK K;refine aE fun K hK=>aD (by kernel_rfl) ?_;simp (maxSteps:=4000000) only[↓sP,sA,tyS,simprocAttr];repeat refine AI ?_
 refine hK _ _ _ ?_;clear hK K;refine aJ ?_;simp (maxSteps:=4000000) only[aT,Tryz.results125,aR,aS,aQ,↓sP,sA,tyS,simprocAttr];exact bL [24] (.slc (o.map (CV.int .i64))) (.bool true) (by simp[HV.close,HV.closeL,fob_at,upd_at,CV.denil,HV.norm,HV.toC,HV.toCL]) ⟨by rw[hno];rfl,by rw[hno];rfl⟩
theorem rF (a b:aH):eQ [a,b]=(dK a).bind fun x=>(dK b).map fun y=>[x,y]:=by
 rw[show [a,b]=[a]++[b]from rfl,kI,rE,rE];cases dK a<;>cases dK b<;>rfl
theorem cN9 (x y:CV):nth [x,y] 0=x:=rfl
theorem cO0 (x y:CV):nth [x,y] 1=y:=rfl
theorem fU (h:(fZ (wd (wd' ls 0) 3)).isSome=false∨(fZ (wd (wd' ls 0) 5)).isSome=false∨(fZ (wd (wd' ls 1) 1)).isSome=false∨(eQ [wd (wd' ls 0) 4,wd (wd' ls 0) 6]).isSome=false):gN ls=none:=by
 unfold gN;split
 · rfl
 split
 · rename_i e1 e2 e3 e4 e5;rw[e1,e2,e3,rF,e4,e5]at h;simp at h
 rfl
theorem bQ (h:ls.length<2∨(wd' ls 0).length≠7∨wd (wd' ls 0) 0≠wDer∨(wd' ls 1).length≠4∨wd (wd' ls 1) 0≠wOrg):gN ls=none:=if_pos h
section
variable {q o:CV}{t r:Int}{p:Dig}
theorem fB (hq:q.cells=34)(ho:o.cells=34):HV.getAt 102 1 false (.c (.agg [q,.int .i64 t,dg p,.int .i64 r,o,.nils]))=some (.c .nils):=by
 simp[HV.getAt,CV.getAt,CV.getAtL,CV.cells,CV.cellsL,dg_cells,hq,ho]
theorem fC (hq:q.cells=34)(ho:o.cells=34)(y:HV):HV.setAt 102 1 y (.c (.agg [q,.int .i64 t,dg p,.int .i64 r,o,.nils]))=some (.agg [.c q,.c (.int .i64 t),.c (dg p),.c (.int .i64 r),.c o,y]):=by
 simp[HV.setAt,CV.setAt,CV.setAtL,CV.cells,CV.cellsL,dg_cells,hq,ho]
end
def bT7 (ls:List (List aH))(r:HV)(os':List HO):Prop:=
 ∃x:Dv,x.l=[]∧r= .tup [.agg [.c x.q.cv,.c (.int .i64 x.t),.c (dg x.p),.c (.int .i64 x.r),.c x.o.cv,.own 0 0],.c (.bool (gN ls).isSome)]∧os'=[.row 41 4 []]∧ ∀d,gN ls=some d→d=x
theorem bA0 {ob:Ob}{r:HV}{x:Dv}{q o:CV}(N:Nat)(hl:x.l=[])(hr:r= .tup [.agg [.c q,.c (.int .i64 x.t),.c (dg x.p),.c (.int .i64 x.r),.c o,.own N 0],.c (.bool b)])(h0:ob N=some (.row 41 4 []))(hq:q.denil=x.q.cv)(ho:o.denil=x.o.cv)(h2:(gN ls).isSome=b)(h1: ∀d,gN ls=some d→d=x):
  iH 0 r ob (fun r ob'=> ∃os',ob'=lst os'∧(0≤os'.length∧os'.length≤0+4)∧bT7 ls r os'):=by
 subst hr;refine gR [] [N] (.tup [.agg [.c x.q.cv,.c (.int .i64 x.t),.c (dg x.p),.c (.int .i64 x.r),.c x.o.cv,.own 0 0],.c (.bool b)]) [.row 41 4 []] ?_ (by simp[HV.men,HV.menL]) ⟨⟨by simp[HO.men],by simp,_,(by simpa[tau]using h0),rfl⟩,trivial⟩ rfl (by simp) (by simp) (by simp) ⟨x,hl,by rw[h2],rfl,h1⟩;simp[HV.close,HV.closeL,CV.denil,hq,ho,dg_denil,HV.norm,HV.toC,HV.toCL,HV.ren,HV.renL,tau]
theorem head_ok (ls:List (List aH))(hb: ∀l∈ls,∀w∈l,w.length<2^40):HGe Tryz.prog 95 [.c (.slc (ls.map lsC))] [] (bT7 ls):=by
 refine bD (args:=[.c (.slc (ls.map lsC))]) Tryz.func95 rfl (by kernel_rfl) (eX rfl (by simp[dU]) (by simp[HV.menL,HV.men])) (Nat.le_of_ble_eq_true rfl) ?_;show Hw _ _ 0 _ _ _ (lst _) 0;rw[bT2];have hwb: ∀i j,(wd (wd' ls i) j).length<2^40:=fun i j=>by
  unfold wd wd';rw[List.getD_eq_getElem?_getD,List.getD_eq_getElem?_getD];rcases Nat.lt_or_ge i ls.length with h|h
  ·
   rw[List.getElem?_eq_getElem h];rcases Nat.lt_or_ge j ls[i].length with h'|h'
   · simp only[Option.getD_some,List.getElem?_eq_getElem h'];exact hb _ (List.getElem_mem h) _ (List.getElem_mem h')
   simp only[Option.getD_some,List.getElem?_eq_none h'];simp
  simp[List.getElem?_eq_none h]
 have hno: ∀{ob:Ob} {r:HV} (N:Nat),gN ls=none→r= .tup [.agg [.c (.agg [.str [],.str [],zd]),.c (.int .i64 0),.c zd,.c (.int .i64 0),.c (.agg [zd,.str [],.str []]),.own N 0],.c (.bool false)]→ob N=some (.row 41 4 [])→iH 0 r ob (fun r ob'=> ∃os',ob'=lst os'∧(0≤os'.length∧os'.length≤0+4)∧bT7 ls r os'):=fun N h hr h0=>bA0 (x:=dv0) N rfl hr h0 rfl rfl (by rw[h];rfl) (fun d hd=>by rw[h]at hd;cases hd);clear hb;refine aE fun K hK=>aD (by kernel_rfl) ?_;simp (maxSteps:=4000000) only[↓sP,sA,tyS,simprocAttr];repeat refine AI ?_
 refine hK _ _ _ ?_;clear hK K;refine aE fun K hK=>?_;by_cases h1:2≤ls.length
 ·
  by_cases h2:(wd' ls 0).length=7
  ·
   by_cases h3:wd (wd' ls 0) 0=wDer
   ·
    by_cases h4:(wd' ls 1).length=4
    ·
     by_cases h5:wd (wd' ls 1) 0=wOrg
     ·
      refine aE fun K hK=>aD (by kernel_rfl) ?_;simp only[sR,simprocAttr];iterate 4
       (refine aC (g:=none) rfl rfl fun K' hK'=>?_;simp only[sH,↓sP,sA,tyS,simprocAttr,List.length_map,(decide_eq_false (by omega):decide ((ls.length:Int)<2)=false),cC (show 0<ls.length by omega),cC (show 1<ls.length by omega),Int.toNat_zero,h2,h4,cF (show 0<(wd' ls 0).length by omega),cF (show 0<(wd' ls 1).length by omega),h3,wDer,h5,wOrg];(repeat refine AI ?_);refine hK' _ _ ?_;clear hK' K')
      iterate 5
       (refine aC (g:=some (15,false)) rfl rfl fun K' hK'=>?_;simp only[sH,↓sP,sA,tyS,simprocAttr,List.length_map,(decide_eq_false (by omega):decide ((ls.length:Int)<2)=false),cC (show 0<ls.length by omega),cC (show 1<ls.length by omega),Int.toNat_zero,h2,h4,cF (show 0<(wd' ls 0).length by omega),cF (show 0<(wd' ls 1).length by omega),h3,wDer,h5,wOrg];(repeat refine AI ?_);refine hK' _ _ ?_;clear hK' K')
      iterate 2
       (refine aC (g:=none) rfl rfl fun K' hK'=>?_;simp only[sH,↓sP,sA,tyS,simprocAttr,List.length_map,(decide_eq_false (by omega):decide ((ls.length:Int)<2)=false),cC (show 0<ls.length by omega),cC (show 1<ls.length by omega),Int.toNat_zero,h2,h4,cF (show 0<(wd' ls 0).length by omega),cF (show 0<(wd' ls 1).length by omega),h3,wDer,h5,wOrg];(repeat refine AI ?_);refine hK' _ _ ?_;clear hK' K')
      iterate 6
       (refine aC (g:=some (22,false)) rfl rfl fun K' hK'=>?_;simp only[sH,↓sP,sA,tyS,simprocAttr,List.length_map,(decide_eq_false (by omega):decide ((ls.length:Int)<2)=false),cC (show 0<ls.length by omega),cC (show 1<ls.length by omega),Int.toNat_zero,h2,h4,cF (show 0<(wd' ls 0).length by omega),cF (show 0<(wd' ls 1).length by omega),h3,wDer,h5,wOrg];(repeat refine AI ?_);refine hK' _ _ ?_;clear hK' K')
      iterate 2
       (refine aC (g:=none) rfl rfl fun K' hK'=>?_;simp only[sH,↓sP,sA,tyS,simprocAttr,List.length_map,(decide_eq_false (by omega):decide ((ls.length:Int)<2)=false),cC (show 0<ls.length by omega),cC (show 1<ls.length by omega),Int.toNat_zero,h2,h4,cF (show 0<(wd' ls 0).length by omega),cF (show 0<(wd' ls 1).length by omega),h3,wDer,h5,wOrg];(repeat refine AI ?_);refine hK' _ _ ?_;clear hK' K')
      iterate 5
       (refine aC (g:=some (30,false)) rfl rfl fun K' hK'=>?_;simp only[sH,↓sP,sA,tyS,simprocAttr,List.length_map,(decide_eq_false (by omega):decide ((ls.length:Int)<2)=false),cC (show 0<ls.length by omega),cC (show 1<ls.length by omega),Int.toNat_zero,h2,h4,cF (show 0<(wd' ls 0).length by omega),cF (show 0<(wd' ls 1).length by omega),h3,wDer,h5,wOrg];(repeat refine AI ?_);refine hK' _ _ ?_;clear hK' K')
      iterate 2
       (refine aC (g:=none) rfl rfl fun K' hK'=>?_;simp only[sH,↓sP,sA,tyS,simprocAttr,List.length_map,(decide_eq_false (by omega):decide ((ls.length:Int)<2)=false),cC (show 0<ls.length by omega),cC (show 1<ls.length by omega),Int.toNat_zero,h2,h4,cF (show 0<(wd' ls 0).length by omega),cF (show 0<(wd' ls 1).length by omega),h3,wDer,h5,wOrg];(repeat refine AI ?_);refine hK' _ _ ?_;clear hK' K')
      iterate 6
       (refine aC (g:=some (37,false)) rfl rfl fun K' hK'=>?_;simp only[sH,↓sP,sA,tyS,simprocAttr,List.length_map,(decide_eq_false (by omega):decide ((ls.length:Int)<2)=false),cC (show 0<ls.length by omega),cC (show 1<ls.length by omega),Int.toNat_zero,h2,h4,cF (show 0<(wd' ls 0).length by omega),cF (show 0<(wd' ls 1).length by omega),h3,wDer,h5,wOrg];(repeat refine AI ?_);refine hK' _ _ ?_;clear hK' K')
      refine aC (g:=none) rfl rfl fun K' hK'=>?_;simp (maxSteps:=4000000) only[sH,↓sP,sA,tyS,simprocAttr,List.length_map,(decide_eq_false (by omega):decide ((ls.length:Int)<2)=false),cC (show 0<ls.length by omega),cC (show 1<ls.length by omega),Int.toNat_zero,h2,h4,cF (show 0<(wd' ls 0).length by omega),cF (show 0<(wd' ls 1).length by omega),h3,wDer,h5,wOrg];repeat refine AI ?_
      refine hK' _ _ ?_;clear hK' K';simp only[sE,↓reduceIte,simprocAttr];repeat refine AI ?_
      refine hK _ _ _ ?_;clear hK K;refine aG (b:=false) rfl (fun hb=>?_) (fun hb=>?_)
      · cases hb
      refine aK ?_;simp (maxSteps:=4000000) only[↓sP,sA,tyS,simprocAttr];repeat refine AI ?_
      refine hK _ _ _ ?_;clear hK K;refine aE fun K hK=>aD (by kernel_rfl) ?_;simp only[sR,simprocAttr];iterate 5
       (refine aC (g:=none) rfl rfl fun K' hK'=>?_;simp only[sH,↓sP,sA,tyS,simprocAttr,List.length_map,cC (show 0<ls.length by omega),Int.toNat_zero,h2,cF (show 3<(wd' ls 0).length by omega)];(repeat refine AI ?_);refine hK' _ _ ?_;clear hK' K')
      refine aC (g:=none) rfl rfl fun K' hK'=>?_;simp (maxSteps:=4000000) only[sH,↓sP,sA,tyS,simprocAttr,List.length_map,cC (show 0<ls.length by omega),Int.toNat_zero,h2,cF (show 3<(wd' ls 0).length by omega)];refine cS (args:=[_]) (nX (wd (wd' ls 0) 3) (hwb _ _)) ⟨rfl,rfl,rfl,rfl⟩ ?_;rintro u v ⟨rfl,rfl⟩;repeat refine AI ?_
      refine hK' _ _ ?_;clear hK' K';iterate 6
       (refine aC (g:=none) rfl rfl fun K' hK'=>?_;simp only[sH,↓sP,sA,tyS,simprocAttr,List.length_map,cC (show 0<ls.length by omega),Int.toNat_zero,h2,cF (show 3<(wd' ls 0).length by omega)];(repeat refine AI ?_);refine hK' _ _ ?_;clear hK' K')
      simp only[sE,↓reduceIte,simprocAttr];repeat refine AI ?_
      refine hK _ _ _ ?_;clear hK K;refine aE fun K hK=>aD (by kernel_rfl) ?_;simp only[sR,simprocAttr];iterate 5
       (refine aC (g:=none) rfl rfl fun K' hK'=>?_;simp only[sH,↓sP,sA,tyS,simprocAttr,List.length_map,cC (show 0<ls.length by omega),Int.toNat_zero,h2,cF (show 5<(wd' ls 0).length by omega)];(repeat refine AI ?_);refine hK' _ _ ?_;clear hK' K')
      refine aC (g:=none) rfl rfl fun K' hK'=>?_;simp (maxSteps:=4000000) only[sH,↓sP,sA,tyS,simprocAttr,List.length_map,cC (show 0<ls.length by omega),Int.toNat_zero,h2,cF (show 5<(wd' ls 0).length by omega)];refine cS (args:=[_]) (nX (wd (wd' ls 0) 5) (hwb _ _)) ⟨rfl,rfl,rfl,rfl⟩ ?_;rintro u v ⟨rfl,rfl⟩;repeat refine AI ?_
      refine hK' _ _ ?_;clear hK' K';iterate 6
       (refine aC (g:=none) rfl rfl fun K' hK'=>?_;simp only[sH,↓sP,sA,tyS,simprocAttr,List.length_map,cC (show 0<ls.length by omega),Int.toNat_zero,h2,cF (show 5<(wd' ls 0).length by omega)];(repeat refine AI ?_);refine hK' _ _ ?_;clear hK' K')
      simp only[sE,↓reduceIte,simprocAttr];repeat refine AI ?_
      refine hK _ _ _ ?_;clear hK K;refine aE fun K hK=>aD (by kernel_rfl) ?_;simp only[sR,simprocAttr];iterate 5
       (refine aC (g:=none) rfl rfl fun K' hK'=>?_;simp only[sH,↓sP,sA,tyS,simprocAttr,List.length_map,cC (show 1<ls.length by omega),Int.toNat_zero,h4,cF (show 1<(wd' ls 1).length by omega)];(repeat refine AI ?_);refine hK' _ _ ?_;clear hK' K')
      refine aC (g:=none) rfl rfl fun K' hK'=>?_;simp (maxSteps:=4000000) only[sH,↓sP,sA,tyS,simprocAttr,List.length_map,cC (show 1<ls.length by omega),Int.toNat_zero,h4,cF (show 1<(wd' ls 1).length by omega)];refine cS (args:=[_]) (nX (wd (wd' ls 1) 1) (hwb _ _)) ⟨rfl,rfl,rfl,rfl⟩ ?_;rintro u v ⟨rfl,rfl⟩;repeat refine AI ?_
      refine hK' _ _ ?_;clear hK' K';iterate 6
       (refine aC (g:=none) rfl rfl fun K' hK'=>?_;simp only[sH,↓sP,sA,tyS,simprocAttr,List.length_map,cC (show 1<ls.length by omega),Int.toNat_zero,h4,cF (show 1<(wd' ls 1).length by omega)];(repeat refine AI ?_);refine hK' _ _ ?_;clear hK' K')
      simp only[sE,↓reduceIte,simprocAttr];repeat refine AI ?_
      refine hK _ _ _ ?_;clear hK K;refine aE fun K hK=>dT mixed [(0,[],[]),(1,[],[]),(2,[],[]),(3,[],[]),(4,[],[]),(5,[],[]),(6,[],[]),(7,[],[]),(8,[],[]),(9,[],[]),(10,[],[]),(11,[],[]),(12,[],[]),(13,[],[]),(14,[],[]),(15,[],[]),(16,[],[])] [0,1,3,7,15,0,32,96,224,480,1023,2047,4095,8191,8191,16383,65535] (by kernel_rfl) (by kernel_rfl) (by kernel_rfl) (by kernel_rfl) rfl (by kernel_rfl) ?_;iterate 10
       (refine cA (g:=none) rfl rfl fun K' hK'=>?_;simp only[sH,↓sP,sA,tyS,simprocAttr,List.length_map,cC (show 0<ls.length by omega),Int.toNat_zero,h2,cF (show 4<(wd' ls 0).length by omega),cF (show 6<(wd' ls 0).length by omega)];(repeat refine AI ?_);refine hK' _ _ ?_;clear hK' K')
      refine kQ (g:=none) 324 rfl rfl fun K' hK'=>?_;simp (maxSteps:=4000000) only[jK,mC,sH,↓sP,sA,tyS,simprocAttr,List.length_map,cC (show 0<ls.length by omega),Int.toNat_zero,h2,cF (show 4<(wd' ls 0).length by omega),cF (show 6<(wd' ls 0).length by omega)];repeat refine AI ?_
      refine eK (by first|rfl|simp) ?_;try simp (maxSteps:=4000000) only[sH,↓sP,sA,tyS,simprocAttr,List.length_map,cC (show 0<ls.length by omega),Int.toNat_zero,h2,cF (show 4<(wd' ls 0).length by omega),cF (show 6<(wd' ls 0).length by omega)]
      repeat refine AI ?_
      refine hK' _ _ ?_;clear hK' K';refine cA (g:=none) rfl rfl fun K' hK'=>?_;simp (maxSteps:=4000000) only[sH,↓sP,sA,tyS,simprocAttr,List.length_map,cC (show 0<ls.length by omega),Int.toNat_zero,h2,cF (show 4<(wd' ls 0).length by omega),cF (show 6<(wd' ls 0).length by omega)];refine cS (args:=[_]) (wZ [wd (wd' ls 0) 4,wd (wd' ls 0) 6] (by simp)) ⟨rfl,rfl,rfl,rfl⟩ ?_;rintro u v ⟨rfl,rfl⟩;repeat refine AI ?_
      refine hK' _ _ ?_;clear hK' K';iterate 5
       (refine cA (g:=none) rfl rfl fun K' hK'=>?_;simp only[sH,↓sP,sA,tyS,simprocAttr,List.length_map,cC (show 0<ls.length by omega),Int.toNat_zero,h2,cF (show 4<(wd' ls 0).length by omega),cF (show 6<(wd' ls 0).length by omega)];(repeat refine AI ?_);refine hK' _ _ ?_;clear hK' K')
      simp only[sE,↓reduceIte,simprocAttr];repeat refine AI ?_
      refine hK _ _ _ ?_;clear hK K;refine aE fun K hK=>?_;refine aE fun K hK=>aD (by kernel_rfl) ?_;simp only[sR,simprocAttr];iterate 3
       (refine aC (g:=none) rfl rfl fun K' hK'=>?_;simp only[sH,↓sP,sA,tyS,simprocAttr];(repeat refine AI ?_);refine hK' _ _ ?_;clear hK' K')
      refine aL 88 rfl (fun h7_88=>?_) (fun h7_88=>?_)
      ·
       iterate 2
        (refine aC (g:=some (90,false)) rfl rfl fun K' hK'=>?_;simp only[sH,↓sP,sA,tyS,simprocAttr,h7_88];(repeat refine AI ?_);refine hK' _ _ ?_;clear hK' K')
       iterate 2
        (refine aC (g:=none) rfl rfl fun K' hK'=>?_;simp only[sH,↓sP,sA,tyS,simprocAttr,h7_88];(repeat refine AI ?_);refine hK' _ _ ?_;clear hK' K')
       refine aL 91 rfl (fun h7_91=>?_) (fun h7_91=>?_)
       ·
        iterate 2
         (refine aC (g:=some (94,false)) rfl rfl fun K' hK'=>?_;simp only[sH,↓sP,sA,tyS,simprocAttr,h7_88,h7_91];(repeat refine AI ?_);refine hK' _ _ ?_;clear hK' K')
        iterate 2
         (refine aC (g:=none) rfl rfl fun K' hK'=>?_;simp only[sH,↓sP,sA,tyS,simprocAttr,h7_88,h7_91];(repeat refine AI ?_);refine hK' _ _ ?_;clear hK' K')
        refine aL 95 rfl (fun h7_95=>?_) (fun h7_95=>?_)
        ·
         iterate 2
          (refine aC (g:=some (98,false)) rfl rfl fun K' hK'=>?_;simp only[sH,↓sP,sA,tyS,simprocAttr,h7_88,h7_91,h7_95];(repeat refine AI ?_);refine hK' _ _ ?_;clear hK' K')
         refine aC (g:=none) rfl rfl fun K' hK'=>?_;simp (maxSteps:=4000000) only[sH,↓sP,sA,tyS,simprocAttr,h7_88,h7_91,h7_95];repeat refine AI ?_
         refine hK' _ _ ?_;clear hK' K';refine aL 99 rfl (fun h7_99=>?_) (fun h7_99=>?_)
         ·
          simp only[h7_99];simp only[sE,↓reduceIte,simprocAttr];repeat refine AI ?_
          refine hK _ _ _ ?_;clear hK K;refine aG (b:=false) rfl (fun hb=>?_) (fun hb=>?_)
          · cases hb
          obtain⟨a,ha⟩:=Option.isSome_iff_exists.1 (show(fZ (wd (wd' ls 0) 3)).isSome=true by simp[h7_88,h7_91,h7_95,h7_99]);obtain⟨p,hp⟩:=Option.isSome_iff_exists.1 (show(fZ (wd (wd' ls 0) 5)).isSome=true by simp[h7_88,h7_91,h7_95,h7_99]);obtain⟨v,hv⟩:=Option.isSome_iff_exists.1 (show(fZ (wd (wd' ls 1) 1)).isSome=true by simp[h7_88,h7_91,h7_95,h7_99]);have hns:(eQ [wd (wd' ls 0) 4,wd (wd' ls 0) 6]).isSome=true:=by simp[h7_88,h7_91,h7_95,h7_99]
          obtain⟨t,ht⟩: ∃t,dK (wd (wd' ls 0) 4)=some t:=by
           rw[rF]at hns;cases h:dK (wd (wd' ls 0) 4)with
           |none=>rw[h]at hns;cases hns
           |some t=>exact⟨t,rfl⟩
          obtain⟨n,hn⟩: ∃n,dK (wd (wd' ls 0) 6)=some n:=by
           rw[rF,ht]at hns;cases h:dK (wd (wd' ls 0) 6)with
           |none=>rw[h]at hns;cases hns
           |some t=>exact⟨t,rfl⟩
          have hnv:eQ [wd (wd' ls 0) 4,wd (wd' ls 0) 6]=some [t,n]:=by rw[rF,ht,hn];rfl
          have hh:gN ls=some ⟨⟨wd (wd' ls 0) 1,wd (wd' ls 0) 2,a⟩,t,p,n,⟨v,wd (wd' ls 1) 2,wd (wd' ls 1) 3⟩,[]⟩:=by
           unfold gN;rw[if_neg (by simp[h2,h3,h4,h5];omega),ha,hp,hv,ht,hn]
          rw[ha,hp,hv,hnv];clear hb;refine aK ?_;simp (maxSteps:=4000000) only[↓sP,sA,tyS,simprocAttr];repeat refine AI ?_
          refine hK _ _ _ ?_;clear hK K;refine aE fun K hK=>dJ mixed [(0,[],[]),(1,[],[]),(2,[],[]),(3,[],[]),(4,[],[]),(5,[],[]),(6,[],[]),(7,[],[]),(8,[],[]),(9,[],[]),(10,[],[]),(11,[],[]),(12,[],[]),(13,[],[]),(14,[],[]),(15,[],[]),(16,[],[]),(17,[],[]),(18,[],[]),(19,[],[]),(20,[],[]),(21,[],[]),(22,[],[]),(23,[],[]),(24,[],[]),(25,[],[]),(26,[],[]),(27,[],[]),(28,[],[]),(29,[],[]),(30,[],[]),(31,[],[]),(32,[],[]),(33,[],[])] [0,1,3,7,15,0,32,96,224,480,0,2047,0,4096,12288,0,0,65536,196608,0,0,1048576,3145728,7340032,15728640,0,33554432,100663296,234881024,503316480,1073217536,2147483647,4294967295,8589934591] (by kernel_rfl) (by kernel_rfl) (by kernel_rfl) (by kernel_rfl) rfl (by kernel_rfl) ?_;iterate 34
           (refine bG (g:=none) rfl rfl fun K' hK'=>?_;simp only[sH,↓sP,sA,tyS,simprocAttr,List.length_map,cC (show 0<ls.length by omega),cC (show 1<ls.length by omega),Int.toNat_zero,h2,h4,cF (show 1<(wd' ls 0).length by omega),cF (show 2<(wd' ls 0).length by omega),cF (show 2<(wd' ls 1).length by omega),cF (show 3<(wd' ls 1).length by omega),Option.getD_some,cN9,cO0,cT,cU,h7_88,h7_91,h7_95,h7_99];(repeat refine AI ?_);refine hK' _ _ ?_;clear hK' K')
          simp only[sE,↓reduceIte,simprocAttr];repeat refine AI ?_
          refine hK _ _ _ ?_;clear hK K;refine dX 0 102 41 4 rfl (fB ?_ ?_) rfl (fC ?_ ?_ _) ?_
          · simp[Qs.cv,Og.cv,CV.cells,CV.cellsL,zd,dg_cells]
          · simp[Qs.cv,Og.cv,CV.cells,CV.cellsL,zd,dg_cells]
          · simp[Qs.cv,Og.cv,CV.cells,CV.cellsL,zd,dg_cells]
          · simp[Qs.cv,Og.cv,CV.cells,CV.cellsL,zd,dg_cells]
          refine aJ ?_;simp (maxSteps:=4000000) only[aT,Tryz.results95,aR,aS,aQ,↓sP,sA,tyS,simprocAttr];refine⟨rfl,?_⟩;refine bA0 (x:=⟨⟨wd (wd' ls 0) 1,wd (wd' ls 0) 2,a⟩,t,p,n,⟨v,wd (wd' ls 1) 2,wd (wd' ls 1) 3⟩,[]⟩) (b:=true) (q:=(⟨wd (wd' ls 0) 1,wd (wd' ls 0) 2,a⟩:Qs).cv) (o:=(⟨v,wd (wd' ls 1) 2,wd (wd' ls 1) 3⟩:Og).cv) 544 rfl ?_ rfl ?_ ?_ ?_ (fun d hd=>by rw[hh]at hd;exact(Option.some.inj hd).symm)
          · rfl
          · simp[Qs.cv,CV.denil,CV.denilL,dg_denil]
          · simp[Og.cv,CV.denil,CV.denilL,dg_denil]
          simp[hh]
         simp only[h7_99];simp only[sE,↓reduceIte,simprocAttr];repeat refine AI ?_
         refine hK _ _ _ ?_;clear hK K;refine aG (b:=true) rfl (fun hb=>?_) (fun hb=>?_)
         ·
          refine aE fun K hK=>aD (by kernel_rfl) ?_;simp (maxSteps:=4000000) only[↓sP,sA,tyS,simprocAttr,cT,cU];repeat refine AI ?_
          refine hK _ _ _ ?_;clear hK K;refine dX 0 102 41 4 rfl (fB ?_ ?_) rfl (fC ?_ ?_ _) ?_
          · simp[Qs.cv,Og.cv,CV.cells,CV.cellsL,zd,dg_cells]
          · simp[Qs.cv,Og.cv,CV.cells,CV.cellsL,zd,dg_cells]
          · simp[Qs.cv,Og.cv,CV.cells,CV.cellsL,zd,dg_cells]
          · simp[Qs.cv,Og.cv,CV.cells,CV.cellsL,zd,dg_cells]
          refine aJ ?_;simp (maxSteps:=4000000) only[aT,Tryz.results95,aR,aS,aQ,↓sP,sA,tyS,simprocAttr];refine⟨rfl,?_⟩;first|(refine hno 152 (bQ (.inl (by omega))) ?_ ?_<;>rfl)|(refine hno 152 (bQ (.inr (.inl h2))) ?_ ?_<;>rfl)|(refine hno 152 (bQ (.inr (.inr (.inl h3)))) ?_ ?_<;>rfl)|(refine hno 152 (bQ (.inr (.inr (.inr (.inl h4))))) ?_ ?_<;>rfl)|(refine hno 152 (bQ (.inr (.inr (.inr (.inr h5))))) ?_ ?_<;>rfl)|(refine hno 420 (fU (by simp[h7_88,h7_91,h7_95,h7_99])) ?_ ?_<;>rfl)
         cases hb
        iterate 2
         (refine aC (g:=some (98,false)) rfl rfl fun K' hK'=>?_;simp only[sH,↓sP,sA,tyS,simprocAttr,h7_88,h7_91,h7_95];(repeat refine AI ?_);refine hK' _ _ ?_;clear hK' K')
        refine aC (g:=none) rfl rfl fun K' hK'=>?_;simp (maxSteps:=4000000) only[sH,↓sP,sA,tyS,simprocAttr,h7_88,h7_91,h7_95];repeat refine AI ?_
        refine hK' _ _ ?_;clear hK' K';simp only[sE,↓reduceIte,simprocAttr];repeat refine AI ?_
        refine hK _ _ _ ?_;clear hK K;refine aG (b:=true) rfl (fun hb=>?_) (fun hb=>?_)
        ·
         refine aE fun K hK=>aD (by kernel_rfl) ?_;simp (maxSteps:=4000000) only[↓sP,sA,tyS,simprocAttr,cT,cU];repeat refine AI ?_
         refine hK _ _ _ ?_;clear hK K;refine dX 0 102 41 4 rfl (fB ?_ ?_) rfl (fC ?_ ?_ _) ?_
         · simp[Qs.cv,Og.cv,CV.cells,CV.cellsL,zd,dg_cells]
         · simp[Qs.cv,Og.cv,CV.cells,CV.cellsL,zd,dg_cells]
         · simp[Qs.cv,Og.cv,CV.cells,CV.cellsL,zd,dg_cells]
         · simp[Qs.cv,Og.cv,CV.cells,CV.cellsL,zd,dg_cells]
         refine aJ ?_;simp (maxSteps:=4000000) only[aT,Tryz.results95,aR,aS,aQ,↓sP,sA,tyS,simprocAttr];refine⟨rfl,?_⟩;first|(refine hno 152 (bQ (.inl (by omega))) ?_ ?_<;>rfl)|(refine hno 152 (bQ (.inr (.inl h2))) ?_ ?_<;>rfl)|(refine hno 152 (bQ (.inr (.inr (.inl h3)))) ?_ ?_<;>rfl)|(refine hno 152 (bQ (.inr (.inr (.inr (.inl h4))))) ?_ ?_<;>rfl)|(refine hno 152 (bQ (.inr (.inr (.inr (.inr h5))))) ?_ ?_<;>rfl)|(refine hno 420 (fU (by simp[h7_88,h7_91,h7_95])) ?_ ?_<;>rfl)
        cases hb
       iterate 2
        (refine aC (g:=some (94,false)) rfl rfl fun K' hK'=>?_;simp only[sH,↓sP,sA,tyS,simprocAttr,h7_88,h7_91];(repeat refine AI ?_);refine hK' _ _ ?_;clear hK' K')
       iterate 2
        (refine aC (g:=none) rfl rfl fun K' hK'=>?_;simp only[sH,↓sP,sA,tyS,simprocAttr,h7_88,h7_91];(repeat refine AI ?_);refine hK' _ _ ?_;clear hK' K')
       iterate 2
        (refine aC (g:=some (98,false)) rfl rfl fun K' hK'=>?_;simp only[sH,↓sP,sA,tyS,simprocAttr,h7_88,h7_91];(repeat refine AI ?_);refine hK' _ _ ?_;clear hK' K')
       refine aC (g:=none) rfl rfl fun K' hK'=>?_;simp (maxSteps:=4000000) only[sH,↓sP,sA,tyS,simprocAttr,h7_88,h7_91];repeat refine AI ?_
       refine hK' _ _ ?_;clear hK' K';simp only[sE,↓reduceIte,simprocAttr];repeat refine AI ?_
       refine hK _ _ _ ?_;clear hK K;refine aG (b:=true) rfl (fun hb=>?_) (fun hb=>?_)
       ·
        refine aE fun K hK=>aD (by kernel_rfl) ?_;simp (maxSteps:=4000000) only[↓sP,sA,tyS,simprocAttr,cT,cU];repeat refine AI ?_
        refine hK _ _ _ ?_;clear hK K;refine dX 0 102 41 4 rfl (fB ?_ ?_) rfl (fC ?_ ?_ _) ?_
        · simp[Qs.cv,Og.cv,CV.cells,CV.cellsL,zd,dg_cells]
        · simp[Qs.cv,Og.cv,CV.cells,CV.cellsL,zd,dg_cells]
        · simp[Qs.cv,Og.cv,CV.cells,CV.cellsL,zd,dg_cells]
        · simp[Qs.cv,Og.cv,CV.cells,CV.cellsL,zd,dg_cells]
        refine aJ ?_;simp (maxSteps:=4000000) only[aT,Tryz.results95,aR,aS,aQ,↓sP,sA,tyS,simprocAttr];refine⟨rfl,?_⟩;first|(refine hno 152 (bQ (.inl (by omega))) ?_ ?_<;>rfl)|(refine hno 152 (bQ (.inr (.inl h2))) ?_ ?_<;>rfl)|(refine hno 152 (bQ (.inr (.inr (.inl h3)))) ?_ ?_<;>rfl)|(refine hno 152 (bQ (.inr (.inr (.inr (.inl h4))))) ?_ ?_<;>rfl)|(refine hno 152 (bQ (.inr (.inr (.inr (.inr h5))))) ?_ ?_<;>rfl)|(refine hno 420 (fU (by simp[h7_88,h7_91])) ?_ ?_<;>rfl)
       cases hb
      iterate 2
       (refine aC (g:=some (90,false)) rfl rfl fun K' hK'=>?_;simp only[sH,↓sP,sA,tyS,simprocAttr,h7_88];(repeat refine AI ?_);refine hK' _ _ ?_;clear hK' K')
      iterate 2
       (refine aC (g:=none) rfl rfl fun K' hK'=>?_;simp only[sH,↓sP,sA,tyS,simprocAttr,h7_88];(repeat refine AI ?_);refine hK' _ _ ?_;clear hK' K')
      iterate 2
       (refine aC (g:=some (94,false)) rfl rfl fun K' hK'=>?_;simp only[sH,↓sP,sA,tyS,simprocAttr,h7_88];(repeat refine AI ?_);refine hK' _ _ ?_;clear hK' K')
      iterate 2
       (refine aC (g:=none) rfl rfl fun K' hK'=>?_;simp only[sH,↓sP,sA,tyS,simprocAttr,h7_88];(repeat refine AI ?_);refine hK' _ _ ?_;clear hK' K')
      iterate 2
       (refine aC (g:=some (98,false)) rfl rfl fun K' hK'=>?_;simp only[sH,↓sP,sA,tyS,simprocAttr,h7_88];(repeat refine AI ?_);refine hK' _ _ ?_;clear hK' K')
      refine aC (g:=none) rfl rfl fun K' hK'=>?_;simp (maxSteps:=4000000) only[sH,↓sP,sA,tyS,simprocAttr,h7_88];repeat refine AI ?_
      refine hK' _ _ ?_;clear hK' K';simp only[sE,↓reduceIte,simprocAttr];repeat refine AI ?_
      refine hK _ _ _ ?_;clear hK K;refine aG (b:=true) rfl (fun hb=>?_) (fun hb=>?_)
      ·
       refine aE fun K hK=>aD (by kernel_rfl) ?_;simp (maxSteps:=4000000) only[↓sP,sA,tyS,simprocAttr,cT,cU];repeat refine AI ?_
       refine hK _ _ _ ?_;clear hK K;refine dX 0 102 41 4 rfl (fB ?_ ?_) rfl (fC ?_ ?_ _) ?_
       · simp[Qs.cv,Og.cv,CV.cells,CV.cellsL,zd,dg_cells]
       · simp[Qs.cv,Og.cv,CV.cells,CV.cellsL,zd,dg_cells]
       · simp[Qs.cv,Og.cv,CV.cells,CV.cellsL,zd,dg_cells]
       · simp[Qs.cv,Og.cv,CV.cells,CV.cellsL,zd,dg_cells]
       refine aJ ?_;simp (maxSteps:=4000000) only[aT,Tryz.results95,aR,aS,aQ,↓sP,sA,tyS,simprocAttr];refine⟨rfl,?_⟩;first|(refine hno 152 (bQ (.inl (by omega))) ?_ ?_<;>rfl)|(refine hno 152 (bQ (.inr (.inl h2))) ?_ ?_<;>rfl)|(refine hno 152 (bQ (.inr (.inr (.inl h3)))) ?_ ?_<;>rfl)|(refine hno 152 (bQ (.inr (.inr (.inr (.inl h4))))) ?_ ?_<;>rfl)|(refine hno 152 (bQ (.inr (.inr (.inr (.inr h5))))) ?_ ?_<;>rfl)|(refine hno 420 (fU (by simp[h7_88])) ?_ ?_<;>rfl)
      cases hb
     refine aE fun K hK=>aD (by kernel_rfl) ?_;simp only[sR,simprocAttr];iterate 4
      (refine aC (g:=none) rfl rfl fun K' hK'=>?_;simp only[sH,↓sP,sA,tyS,simprocAttr,List.length_map,(decide_eq_false (by omega):decide ((ls.length:Int)<2)=false),cC (show 0<ls.length by omega),cC (show 1<ls.length by omega),Int.toNat_zero,h2,h4,cF (show 0<(wd' ls 0).length by omega),cF (show 0<(wd' ls 1).length by omega),h3,wDer,(by rw[Bool.not_eq_true',beq_eq_false_iff_ne];exact h5:(!(wd (wd' ls 1) 0==[111,114,105,103,105,110]))=true)];(repeat refine AI ?_);refine hK' _ _ ?_;clear hK' K')
     iterate 5
      (refine aC (g:=some (15,false)) rfl rfl fun K' hK'=>?_;simp only[sH,↓sP,sA,tyS,simprocAttr,List.length_map,(decide_eq_false (by omega):decide ((ls.length:Int)<2)=false),cC (show 0<ls.length by omega),cC (show 1<ls.length by omega),Int.toNat_zero,h2,h4,cF (show 0<(wd' ls 0).length by omega),cF (show 0<(wd' ls 1).length by omega),h3,wDer,(by rw[Bool.not_eq_true',beq_eq_false_iff_ne];exact h5:(!(wd (wd' ls 1) 0==[111,114,105,103,105,110]))=true)];(repeat refine AI ?_);refine hK' _ _ ?_;clear hK' K')
     iterate 2
      (refine aC (g:=none) rfl rfl fun K' hK'=>?_;simp only[sH,↓sP,sA,tyS,simprocAttr,List.length_map,(decide_eq_false (by omega):decide ((ls.length:Int)<2)=false),cC (show 0<ls.length by omega),cC (show 1<ls.length by omega),Int.toNat_zero,h2,h4,cF (show 0<(wd' ls 0).length by omega),cF (show 0<(wd' ls 1).length by omega),h3,wDer,(by rw[Bool.not_eq_true',beq_eq_false_iff_ne];exact h5:(!(wd (wd' ls 1) 0==[111,114,105,103,105,110]))=true)];(repeat refine AI ?_);refine hK' _ _ ?_;clear hK' K')
     iterate 6
      (refine aC (g:=some (22,false)) rfl rfl fun K' hK'=>?_;simp only[sH,↓sP,sA,tyS,simprocAttr,List.length_map,(decide_eq_false (by omega):decide ((ls.length:Int)<2)=false),cC (show 0<ls.length by omega),cC (show 1<ls.length by omega),Int.toNat_zero,h2,h4,cF (show 0<(wd' ls 0).length by omega),cF (show 0<(wd' ls 1).length by omega),h3,wDer,(by rw[Bool.not_eq_true',beq_eq_false_iff_ne];exact h5:(!(wd (wd' ls 1) 0==[111,114,105,103,105,110]))=true)];(repeat refine AI ?_);refine hK' _ _ ?_;clear hK' K')
     iterate 2
      (refine aC (g:=none) rfl rfl fun K' hK'=>?_;simp only[sH,↓sP,sA,tyS,simprocAttr,List.length_map,(decide_eq_false (by omega):decide ((ls.length:Int)<2)=false),cC (show 0<ls.length by omega),cC (show 1<ls.length by omega),Int.toNat_zero,h2,h4,cF (show 0<(wd' ls 0).length by omega),cF (show 0<(wd' ls 1).length by omega),h3,wDer,(by rw[Bool.not_eq_true',beq_eq_false_iff_ne];exact h5:(!(wd (wd' ls 1) 0==[111,114,105,103,105,110]))=true)];(repeat refine AI ?_);refine hK' _ _ ?_;clear hK' K')
     iterate 5
      (refine aC (g:=some (30,false)) rfl rfl fun K' hK'=>?_;simp only[sH,↓sP,sA,tyS,simprocAttr,List.length_map,(decide_eq_false (by omega):decide ((ls.length:Int)<2)=false),cC (show 0<ls.length by omega),cC (show 1<ls.length by omega),Int.toNat_zero,h2,h4,cF (show 0<(wd' ls 0).length by omega),cF (show 0<(wd' ls 1).length by omega),h3,wDer,(by rw[Bool.not_eq_true',beq_eq_false_iff_ne];exact h5:(!(wd (wd' ls 1) 0==[111,114,105,103,105,110]))=true)];(repeat refine AI ?_);refine hK' _ _ ?_;clear hK' K')
     iterate 2
      (refine aC (g:=none) rfl rfl fun K' hK'=>?_;simp only[sH,↓sP,sA,tyS,simprocAttr,List.length_map,(decide_eq_false (by omega):decide ((ls.length:Int)<2)=false),cC (show 0<ls.length by omega),cC (show 1<ls.length by omega),Int.toNat_zero,h2,h4,cF (show 0<(wd' ls 0).length by omega),cF (show 0<(wd' ls 1).length by omega),h3,wDer,(by rw[Bool.not_eq_true',beq_eq_false_iff_ne];exact h5:(!(wd (wd' ls 1) 0==[111,114,105,103,105,110]))=true)];(repeat refine AI ?_);refine hK' _ _ ?_;clear hK' K')
     iterate 6
      (refine aC (g:=some (37,false)) rfl rfl fun K' hK'=>?_;simp only[sH,↓sP,sA,tyS,simprocAttr,List.length_map,(decide_eq_false (by omega):decide ((ls.length:Int)<2)=false),cC (show 0<ls.length by omega),cC (show 1<ls.length by omega),Int.toNat_zero,h2,h4,cF (show 0<(wd' ls 0).length by omega),cF (show 0<(wd' ls 1).length by omega),h3,wDer,(by rw[Bool.not_eq_true',beq_eq_false_iff_ne];exact h5:(!(wd (wd' ls 1) 0==[111,114,105,103,105,110]))=true)];(repeat refine AI ?_);refine hK' _ _ ?_;clear hK' K')
     refine aC (g:=none) rfl rfl fun K' hK'=>?_;simp (maxSteps:=4000000) only[sH,↓sP,sA,tyS,simprocAttr,List.length_map,(decide_eq_false (by omega):decide ((ls.length:Int)<2)=false),cC (show 0<ls.length by omega),cC (show 1<ls.length by omega),Int.toNat_zero,h2,h4,cF (show 0<(wd' ls 0).length by omega),cF (show 0<(wd' ls 1).length by omega),h3,wDer,(by rw[Bool.not_eq_true',beq_eq_false_iff_ne];exact h5:(!(wd (wd' ls 1) 0==[111,114,105,103,105,110]))=true)];repeat refine AI ?_
     refine hK' _ _ ?_;clear hK' K';simp only[sE,↓reduceIte,simprocAttr];repeat refine AI ?_
     refine hK _ _ _ ?_;clear hK K;refine aG (b:=true) rfl (fun hb=>?_) (fun hb=>?_)
     ·
      refine aE fun K hK=>aD (by kernel_rfl) ?_;simp (maxSteps:=4000000) only[↓sP,sA,tyS,simprocAttr,cT,cU];repeat refine AI ?_
      refine hK _ _ _ ?_;clear hK K;refine dX 0 102 41 4 rfl (fB ?_ ?_) rfl (fC ?_ ?_ _) ?_
      · simp[Qs.cv,Og.cv,CV.cells,CV.cellsL,zd,dg_cells]
      · simp[Qs.cv,Og.cv,CV.cells,CV.cellsL,zd,dg_cells]
      · simp[Qs.cv,Og.cv,CV.cells,CV.cellsL,zd,dg_cells]
      · simp[Qs.cv,Og.cv,CV.cells,CV.cellsL,zd,dg_cells]
      refine aJ ?_;simp (maxSteps:=4000000) only[aT,Tryz.results95,aR,aS,aQ,↓sP,sA,tyS,simprocAttr];refine⟨rfl,?_⟩;first|(refine hno 152 (bQ (.inl (by omega))) ?_ ?_<;>rfl)|(refine hno 152 (bQ (.inr (.inl h2))) ?_ ?_<;>rfl)|(refine hno 152 (bQ (.inr (.inr (.inl h3)))) ?_ ?_<;>rfl)|(refine hno 152 (bQ (.inr (.inr (.inr (.inl h4))))) ?_ ?_<;>rfl)|(refine hno 152 (bQ (.inr (.inr (.inr (.inr h5))))) ?_ ?_<;>rfl)|(refine hno 420 (fU (by simp[true_and])) ?_ ?_<;>rfl)
     cases hb
    refine aE fun K hK=>aD (by kernel_rfl) ?_;simp only[sR,simprocAttr];iterate 4
     (refine aC (g:=none) rfl rfl fun K' hK'=>?_;simp only[sH,↓sP,sA,tyS,simprocAttr,List.length_map,(decide_eq_false (by omega):decide ((ls.length:Int)<2)=false),cC (show 0<ls.length by omega),cC (show 1<ls.length by omega),Int.toNat_zero,h2,cF (show 0<(wd' ls 0).length by omega),h3,wDer,(bne_iff_ne.2 (by omega):(((wd' ls 1).length:Int) !=4)=true)];(repeat refine AI ?_);refine hK' _ _ ?_;clear hK' K')
    iterate 5
     (refine aC (g:=some (15,false)) rfl rfl fun K' hK'=>?_;simp only[sH,↓sP,sA,tyS,simprocAttr,List.length_map,(decide_eq_false (by omega):decide ((ls.length:Int)<2)=false),cC (show 0<ls.length by omega),cC (show 1<ls.length by omega),Int.toNat_zero,h2,cF (show 0<(wd' ls 0).length by omega),h3,wDer,(bne_iff_ne.2 (by omega):(((wd' ls 1).length:Int) !=4)=true)];(repeat refine AI ?_);refine hK' _ _ ?_;clear hK' K')
    iterate 2
     (refine aC (g:=none) rfl rfl fun K' hK'=>?_;simp only[sH,↓sP,sA,tyS,simprocAttr,List.length_map,(decide_eq_false (by omega):decide ((ls.length:Int)<2)=false),cC (show 0<ls.length by omega),cC (show 1<ls.length by omega),Int.toNat_zero,h2,cF (show 0<(wd' ls 0).length by omega),h3,wDer,(bne_iff_ne.2 (by omega):(((wd' ls 1).length:Int) !=4)=true)];(repeat refine AI ?_);refine hK' _ _ ?_;clear hK' K')
    iterate 6
     (refine aC (g:=some (22,false)) rfl rfl fun K' hK'=>?_;simp only[sH,↓sP,sA,tyS,simprocAttr,List.length_map,(decide_eq_false (by omega):decide ((ls.length:Int)<2)=false),cC (show 0<ls.length by omega),cC (show 1<ls.length by omega),Int.toNat_zero,h2,cF (show 0<(wd' ls 0).length by omega),h3,wDer,(bne_iff_ne.2 (by omega):(((wd' ls 1).length:Int) !=4)=true)];(repeat refine AI ?_);refine hK' _ _ ?_;clear hK' K')
    iterate 2
     (refine aC (g:=none) rfl rfl fun K' hK'=>?_;simp only[sH,↓sP,sA,tyS,simprocAttr,List.length_map,(decide_eq_false (by omega):decide ((ls.length:Int)<2)=false),cC (show 0<ls.length by omega),cC (show 1<ls.length by omega),Int.toNat_zero,h2,cF (show 0<(wd' ls 0).length by omega),h3,wDer,(bne_iff_ne.2 (by omega):(((wd' ls 1).length:Int) !=4)=true)];(repeat refine AI ?_);refine hK' _ _ ?_;clear hK' K')
    iterate 5
     (refine aC (g:=some (30,false)) rfl rfl fun K' hK'=>?_;simp only[sH,↓sP,sA,tyS,simprocAttr,List.length_map,(decide_eq_false (by omega):decide ((ls.length:Int)<2)=false),cC (show 0<ls.length by omega),cC (show 1<ls.length by omega),Int.toNat_zero,h2,cF (show 0<(wd' ls 0).length by omega),h3,wDer,(bne_iff_ne.2 (by omega):(((wd' ls 1).length:Int) !=4)=true)];(repeat refine AI ?_);refine hK' _ _ ?_;clear hK' K')
    iterate 2
     (refine aC (g:=none) rfl rfl fun K' hK'=>?_;simp only[sH,↓sP,sA,tyS,simprocAttr,List.length_map,(decide_eq_false (by omega):decide ((ls.length:Int)<2)=false),cC (show 0<ls.length by omega),cC (show 1<ls.length by omega),Int.toNat_zero,h2,cF (show 0<(wd' ls 0).length by omega),h3,wDer,(bne_iff_ne.2 (by omega):(((wd' ls 1).length:Int) !=4)=true)];(repeat refine AI ?_);refine hK' _ _ ?_;clear hK' K')
    iterate 6
     (refine aC (g:=some (37,false)) rfl rfl fun K' hK'=>?_;simp only[sH,↓sP,sA,tyS,simprocAttr,List.length_map,(decide_eq_false (by omega):decide ((ls.length:Int)<2)=false),cC (show 0<ls.length by omega),cC (show 1<ls.length by omega),Int.toNat_zero,h2,cF (show 0<(wd' ls 0).length by omega),h3,wDer,(bne_iff_ne.2 (by omega):(((wd' ls 1).length:Int) !=4)=true)];(repeat refine AI ?_);refine hK' _ _ ?_;clear hK' K')
    refine aC (g:=none) rfl rfl fun K' hK'=>?_;simp (maxSteps:=4000000) only[sH,↓sP,sA,tyS,simprocAttr,List.length_map,(decide_eq_false (by omega):decide ((ls.length:Int)<2)=false),cC (show 0<ls.length by omega),cC (show 1<ls.length by omega),Int.toNat_zero,h2,cF (show 0<(wd' ls 0).length by omega),h3,wDer,(bne_iff_ne.2 (by omega):(((wd' ls 1).length:Int) !=4)=true)];repeat refine AI ?_
    refine hK' _ _ ?_;clear hK' K';simp only[sE,↓reduceIte,simprocAttr];repeat refine AI ?_
    refine hK _ _ _ ?_;clear hK K;refine aG (b:=true) rfl (fun hb=>?_) (fun hb=>?_)
    ·
     refine aE fun K hK=>aD (by kernel_rfl) ?_;simp (maxSteps:=4000000) only[↓sP,sA,tyS,simprocAttr,cT,cU];repeat refine AI ?_
     refine hK _ _ _ ?_;clear hK K;refine dX 0 102 41 4 rfl (fB ?_ ?_) rfl (fC ?_ ?_ _) ?_
     · simp[Qs.cv,Og.cv,CV.cells,CV.cellsL,zd,dg_cells]
     · simp[Qs.cv,Og.cv,CV.cells,CV.cellsL,zd,dg_cells]
     · simp[Qs.cv,Og.cv,CV.cells,CV.cellsL,zd,dg_cells]
     · simp[Qs.cv,Og.cv,CV.cells,CV.cellsL,zd,dg_cells]
     refine aJ ?_;simp (maxSteps:=4000000) only[aT,Tryz.results95,aR,aS,aQ,↓sP,sA,tyS,simprocAttr];refine⟨rfl,?_⟩;first|(refine hno 152 (bQ (.inl (by omega))) ?_ ?_<;>rfl)|(refine hno 152 (bQ (.inr (.inl h2))) ?_ ?_<;>rfl)|(refine hno 152 (bQ (.inr (.inr (.inl h3)))) ?_ ?_<;>rfl)|(refine hno 152 (bQ (.inr (.inr (.inr (.inl h4))))) ?_ ?_<;>rfl)|(refine hno 152 (bQ (.inr (.inr (.inr (.inr h5))))) ?_ ?_<;>rfl)|(refine hno 420 (fU (by simp[true_and])) ?_ ?_<;>rfl)
    cases hb
   refine aE fun K hK=>aD (by kernel_rfl) ?_;simp only[sR,simprocAttr];iterate 4
    (refine aC (g:=none) rfl rfl fun K' hK'=>?_;simp only[sH,↓sP,sA,tyS,simprocAttr,List.length_map,(decide_eq_false (by omega):decide ((ls.length:Int)<2)=false),cC (show 0<ls.length by omega),Int.toNat_zero,h2,cF (show 0<(wd' ls 0).length by omega),(by rw[Bool.not_eq_true',beq_eq_false_iff_ne];exact h3:(!(wd (wd' ls 0) 0==[100,101,114,105,118,97,116,105,111,110]))=true)];(repeat refine AI ?_);refine hK' _ _ ?_;clear hK' K')
   iterate 5
    (refine aC (g:=some (15,false)) rfl rfl fun K' hK'=>?_;simp only[sH,↓sP,sA,tyS,simprocAttr,List.length_map,(decide_eq_false (by omega):decide ((ls.length:Int)<2)=false),cC (show 0<ls.length by omega),Int.toNat_zero,h2,cF (show 0<(wd' ls 0).length by omega),(by rw[Bool.not_eq_true',beq_eq_false_iff_ne];exact h3:(!(wd (wd' ls 0) 0==[100,101,114,105,118,97,116,105,111,110]))=true)];(repeat refine AI ?_);refine hK' _ _ ?_;clear hK' K')
   iterate 2
    (refine aC (g:=none) rfl rfl fun K' hK'=>?_;simp only[sH,↓sP,sA,tyS,simprocAttr,List.length_map,(decide_eq_false (by omega):decide ((ls.length:Int)<2)=false),cC (show 0<ls.length by omega),Int.toNat_zero,h2,cF (show 0<(wd' ls 0).length by omega),(by rw[Bool.not_eq_true',beq_eq_false_iff_ne];exact h3:(!(wd (wd' ls 0) 0==[100,101,114,105,118,97,116,105,111,110]))=true)];(repeat refine AI ?_);refine hK' _ _ ?_;clear hK' K')
   iterate 6
    (refine aC (g:=some (22,false)) rfl rfl fun K' hK'=>?_;simp only[sH,↓sP,sA,tyS,simprocAttr,List.length_map,(decide_eq_false (by omega):decide ((ls.length:Int)<2)=false),cC (show 0<ls.length by omega),Int.toNat_zero,h2,cF (show 0<(wd' ls 0).length by omega),(by rw[Bool.not_eq_true',beq_eq_false_iff_ne];exact h3:(!(wd (wd' ls 0) 0==[100,101,114,105,118,97,116,105,111,110]))=true)];(repeat refine AI ?_);refine hK' _ _ ?_;clear hK' K')
   iterate 2
    (refine aC (g:=none) rfl rfl fun K' hK'=>?_;simp only[sH,↓sP,sA,tyS,simprocAttr,List.length_map,(decide_eq_false (by omega):decide ((ls.length:Int)<2)=false),cC (show 0<ls.length by omega),Int.toNat_zero,h2,cF (show 0<(wd' ls 0).length by omega),(by rw[Bool.not_eq_true',beq_eq_false_iff_ne];exact h3:(!(wd (wd' ls 0) 0==[100,101,114,105,118,97,116,105,111,110]))=true)];(repeat refine AI ?_);refine hK' _ _ ?_;clear hK' K')
   iterate 5
    (refine aC (g:=some (30,false)) rfl rfl fun K' hK'=>?_;simp only[sH,↓sP,sA,tyS,simprocAttr,List.length_map,(decide_eq_false (by omega):decide ((ls.length:Int)<2)=false),cC (show 0<ls.length by omega),Int.toNat_zero,h2,cF (show 0<(wd' ls 0).length by omega),(by rw[Bool.not_eq_true',beq_eq_false_iff_ne];exact h3:(!(wd (wd' ls 0) 0==[100,101,114,105,118,97,116,105,111,110]))=true)];(repeat refine AI ?_);refine hK' _ _ ?_;clear hK' K')
   iterate 2
    (refine aC (g:=none) rfl rfl fun K' hK'=>?_;simp only[sH,↓sP,sA,tyS,simprocAttr,List.length_map,(decide_eq_false (by omega):decide ((ls.length:Int)<2)=false),cC (show 0<ls.length by omega),Int.toNat_zero,h2,cF (show 0<(wd' ls 0).length by omega),(by rw[Bool.not_eq_true',beq_eq_false_iff_ne];exact h3:(!(wd (wd' ls 0) 0==[100,101,114,105,118,97,116,105,111,110]))=true)];(repeat refine AI ?_);refine hK' _ _ ?_;clear hK' K')
   iterate 6
    (refine aC (g:=some (37,false)) rfl rfl fun K' hK'=>?_;simp only[sH,↓sP,sA,tyS,simprocAttr,List.length_map,(decide_eq_false (by omega):decide ((ls.length:Int)<2)=false),cC (show 0<ls.length by omega),Int.toNat_zero,h2,cF (show 0<(wd' ls 0).length by omega),(by rw[Bool.not_eq_true',beq_eq_false_iff_ne];exact h3:(!(wd (wd' ls 0) 0==[100,101,114,105,118,97,116,105,111,110]))=true)];(repeat refine AI ?_);refine hK' _ _ ?_;clear hK' K')
   refine aC (g:=none) rfl rfl fun K' hK'=>?_;simp (maxSteps:=4000000) only[sH,↓sP,sA,tyS,simprocAttr,List.length_map,(decide_eq_false (by omega):decide ((ls.length:Int)<2)=false),cC (show 0<ls.length by omega),Int.toNat_zero,h2,cF (show 0<(wd' ls 0).length by omega),(by rw[Bool.not_eq_true',beq_eq_false_iff_ne];exact h3:(!(wd (wd' ls 0) 0==[100,101,114,105,118,97,116,105,111,110]))=true)];repeat refine AI ?_
   refine hK' _ _ ?_;clear hK' K';simp only[sE,↓reduceIte,simprocAttr];repeat refine AI ?_
   refine hK _ _ _ ?_;clear hK K;refine aG (b:=true) rfl (fun hb=>?_) (fun hb=>?_)
   ·
    refine aE fun K hK=>aD (by kernel_rfl) ?_;simp (maxSteps:=4000000) only[↓sP,sA,tyS,simprocAttr,cT,cU];repeat refine AI ?_
    refine hK _ _ _ ?_;clear hK K;refine dX 0 102 41 4 rfl (fB ?_ ?_) rfl (fC ?_ ?_ _) ?_
    · simp[Qs.cv,Og.cv,CV.cells,CV.cellsL,zd,dg_cells]
    · simp[Qs.cv,Og.cv,CV.cells,CV.cellsL,zd,dg_cells]
    · simp[Qs.cv,Og.cv,CV.cells,CV.cellsL,zd,dg_cells]
    · simp[Qs.cv,Og.cv,CV.cells,CV.cellsL,zd,dg_cells]
    refine aJ ?_;simp (maxSteps:=4000000) only[aT,Tryz.results95,aR,aS,aQ,↓sP,sA,tyS,simprocAttr];refine⟨rfl,?_⟩;first|(refine hno 152 (bQ (.inl (by omega))) ?_ ?_<;>rfl)|(refine hno 152 (bQ (.inr (.inl h2))) ?_ ?_<;>rfl)|(refine hno 152 (bQ (.inr (.inr (.inl h3)))) ?_ ?_<;>rfl)|(refine hno 152 (bQ (.inr (.inr (.inr (.inl h4))))) ?_ ?_<;>rfl)|(refine hno 152 (bQ (.inr (.inr (.inr (.inr h5))))) ?_ ?_<;>rfl)|(refine hno 420 (fU (by simp[true_and])) ?_ ?_<;>rfl)
   cases hb
  refine aE fun K hK=>aD (by kernel_rfl) ?_;simp only[sR,simprocAttr];iterate 4
   (refine aC (g:=none) rfl rfl fun K' hK'=>?_;simp only[sH,↓sP,sA,tyS,simprocAttr,List.length_map,(decide_eq_false (by omega):decide ((ls.length:Int)<2)=false),cC (show 0<ls.length by omega),Int.toNat_zero,(bne_iff_ne.2 (by omega):(((wd' ls 0).length:Int) !=7)=true)];(repeat refine AI ?_);refine hK' _ _ ?_;clear hK' K')
  iterate 5
   (refine aC (g:=some (15,false)) rfl rfl fun K' hK'=>?_;simp only[sH,↓sP,sA,tyS,simprocAttr,List.length_map,(decide_eq_false (by omega):decide ((ls.length:Int)<2)=false),cC (show 0<ls.length by omega),Int.toNat_zero,(bne_iff_ne.2 (by omega):(((wd' ls 0).length:Int) !=7)=true)];(repeat refine AI ?_);refine hK' _ _ ?_;clear hK' K')
  iterate 2
   (refine aC (g:=none) rfl rfl fun K' hK'=>?_;simp only[sH,↓sP,sA,tyS,simprocAttr,List.length_map,(decide_eq_false (by omega):decide ((ls.length:Int)<2)=false),cC (show 0<ls.length by omega),Int.toNat_zero,(bne_iff_ne.2 (by omega):(((wd' ls 0).length:Int) !=7)=true)];(repeat refine AI ?_);refine hK' _ _ ?_;clear hK' K')
  iterate 6
   (refine aC (g:=some (22,false)) rfl rfl fun K' hK'=>?_;simp only[sH,↓sP,sA,tyS,simprocAttr,List.length_map,(decide_eq_false (by omega):decide ((ls.length:Int)<2)=false),cC (show 0<ls.length by omega),Int.toNat_zero,(bne_iff_ne.2 (by omega):(((wd' ls 0).length:Int) !=7)=true)];(repeat refine AI ?_);refine hK' _ _ ?_;clear hK' K')
  iterate 2
   (refine aC (g:=none) rfl rfl fun K' hK'=>?_;simp only[sH,↓sP,sA,tyS,simprocAttr,List.length_map,(decide_eq_false (by omega):decide ((ls.length:Int)<2)=false),cC (show 0<ls.length by omega),Int.toNat_zero,(bne_iff_ne.2 (by omega):(((wd' ls 0).length:Int) !=7)=true)];(repeat refine AI ?_);refine hK' _ _ ?_;clear hK' K')
  iterate 5
   (refine aC (g:=some (30,false)) rfl rfl fun K' hK'=>?_;simp only[sH,↓sP,sA,tyS,simprocAttr,List.length_map,(decide_eq_false (by omega):decide ((ls.length:Int)<2)=false),cC (show 0<ls.length by omega),Int.toNat_zero,(bne_iff_ne.2 (by omega):(((wd' ls 0).length:Int) !=7)=true)];(repeat refine AI ?_);refine hK' _ _ ?_;clear hK' K')
  iterate 2
   (refine aC (g:=none) rfl rfl fun K' hK'=>?_;simp only[sH,↓sP,sA,tyS,simprocAttr,List.length_map,(decide_eq_false (by omega):decide ((ls.length:Int)<2)=false),cC (show 0<ls.length by omega),Int.toNat_zero,(bne_iff_ne.2 (by omega):(((wd' ls 0).length:Int) !=7)=true)];(repeat refine AI ?_);refine hK' _ _ ?_;clear hK' K')
  iterate 6
   (refine aC (g:=some (37,false)) rfl rfl fun K' hK'=>?_;simp only[sH,↓sP,sA,tyS,simprocAttr,List.length_map,(decide_eq_false (by omega):decide ((ls.length:Int)<2)=false),cC (show 0<ls.length by omega),Int.toNat_zero,(bne_iff_ne.2 (by omega):(((wd' ls 0).length:Int) !=7)=true)];(repeat refine AI ?_);refine hK' _ _ ?_;clear hK' K')
  refine aC (g:=none) rfl rfl fun K' hK'=>?_;simp (maxSteps:=4000000) only[sH,↓sP,sA,tyS,simprocAttr,List.length_map,(decide_eq_false (by omega):decide ((ls.length:Int)<2)=false),cC (show 0<ls.length by omega),Int.toNat_zero,(bne_iff_ne.2 (by omega):(((wd' ls 0).length:Int) !=7)=true)];repeat refine AI ?_
  refine hK' _ _ ?_;clear hK' K';simp only[sE,↓reduceIte,simprocAttr];repeat refine AI ?_
  refine hK _ _ _ ?_;clear hK K;refine aG (b:=true) rfl (fun hb=>?_) (fun hb=>?_)
  ·
   refine aE fun K hK=>aD (by kernel_rfl) ?_;simp (maxSteps:=4000000) only[↓sP,sA,tyS,simprocAttr,cT,cU];repeat refine AI ?_
   refine hK _ _ _ ?_;clear hK K;refine dX 0 102 41 4 rfl (fB ?_ ?_) rfl (fC ?_ ?_ _) ?_
   · simp[Qs.cv,Og.cv,CV.cells,CV.cellsL,zd,dg_cells]
   · simp[Qs.cv,Og.cv,CV.cells,CV.cellsL,zd,dg_cells]
   · simp[Qs.cv,Og.cv,CV.cells,CV.cellsL,zd,dg_cells]
   · simp[Qs.cv,Og.cv,CV.cells,CV.cellsL,zd,dg_cells]
   refine aJ ?_;simp (maxSteps:=4000000) only[aT,Tryz.results95,aR,aS,aQ,↓sP,sA,tyS,simprocAttr];refine⟨rfl,?_⟩;first|(refine hno 152 (bQ (.inl (by omega))) ?_ ?_<;>rfl)|(refine hno 152 (bQ (.inr (.inl h2))) ?_ ?_<;>rfl)|(refine hno 152 (bQ (.inr (.inr (.inl h3)))) ?_ ?_<;>rfl)|(refine hno 152 (bQ (.inr (.inr (.inr (.inl h4))))) ?_ ?_<;>rfl)|(refine hno 152 (bQ (.inr (.inr (.inr (.inr h5))))) ?_ ?_<;>rfl)|(refine hno 420 (fU (by simp[true_and])) ?_ ?_<;>rfl)
  cases hb
 refine aE fun K hK=>aD (by kernel_rfl) ?_;simp only[sR,simprocAttr];iterate 4
  (refine aC (g:=none) rfl rfl fun K' hK'=>?_;simp only[sH,↓sP,sA,tyS,simprocAttr,List.length_map,(decide_eq_true (by omega):decide ((ls.length:Int)<2)=true)];(repeat refine AI ?_);refine hK' _ _ ?_;clear hK' K')
 iterate 5
  (refine aC (g:=some (15,false)) rfl rfl fun K' hK'=>?_;simp only[sH,↓sP,sA,tyS,simprocAttr,List.length_map,(decide_eq_true (by omega):decide ((ls.length:Int)<2)=true)];(repeat refine AI ?_);refine hK' _ _ ?_;clear hK' K')
 iterate 2
  (refine aC (g:=none) rfl rfl fun K' hK'=>?_;simp only[sH,↓sP,sA,tyS,simprocAttr,List.length_map,(decide_eq_true (by omega):decide ((ls.length:Int)<2)=true)];(repeat refine AI ?_);refine hK' _ _ ?_;clear hK' K')
 iterate 6
  (refine aC (g:=some (22,false)) rfl rfl fun K' hK'=>?_;simp only[sH,↓sP,sA,tyS,simprocAttr,List.length_map,(decide_eq_true (by omega):decide ((ls.length:Int)<2)=true)];(repeat refine AI ?_);refine hK' _ _ ?_;clear hK' K')
 iterate 2
  (refine aC (g:=none) rfl rfl fun K' hK'=>?_;simp only[sH,↓sP,sA,tyS,simprocAttr,List.length_map,(decide_eq_true (by omega):decide ((ls.length:Int)<2)=true)];(repeat refine AI ?_);refine hK' _ _ ?_;clear hK' K')
 iterate 5
  (refine aC (g:=some (30,false)) rfl rfl fun K' hK'=>?_;simp only[sH,↓sP,sA,tyS,simprocAttr,List.length_map,(decide_eq_true (by omega):decide ((ls.length:Int)<2)=true)];(repeat refine AI ?_);refine hK' _ _ ?_;clear hK' K')
 iterate 2
  (refine aC (g:=none) rfl rfl fun K' hK'=>?_;simp only[sH,↓sP,sA,tyS,simprocAttr,List.length_map,(decide_eq_true (by omega):decide ((ls.length:Int)<2)=true)];(repeat refine AI ?_);refine hK' _ _ ?_;clear hK' K')
 iterate 6
  (refine aC (g:=some (37,false)) rfl rfl fun K' hK'=>?_;simp only[sH,↓sP,sA,tyS,simprocAttr,List.length_map,(decide_eq_true (by omega):decide ((ls.length:Int)<2)=true)];(repeat refine AI ?_);refine hK' _ _ ?_;clear hK' K')
 refine aC (g:=none) rfl rfl fun K' hK'=>?_;simp (maxSteps:=4000000) only[sH,↓sP,sA,tyS,simprocAttr,List.length_map,(decide_eq_true (by omega):decide ((ls.length:Int)<2)=true)];repeat refine AI ?_
 refine hK' _ _ ?_;clear hK' K';simp only[sE,↓reduceIte,simprocAttr];repeat refine AI ?_
 refine hK _ _ _ ?_;clear hK K;refine aG (b:=true) rfl (fun hb=>?_) (fun hb=>?_)
 ·
  refine aE fun K hK=>aD (by kernel_rfl) ?_;simp (maxSteps:=4000000) only[↓sP,sA,tyS,simprocAttr,cT,cU];repeat refine AI ?_
  refine hK _ _ _ ?_;clear hK K;refine dX 0 102 41 4 rfl (fB ?_ ?_) rfl (fC ?_ ?_ _) ?_
  · simp[Qs.cv,Og.cv,CV.cells,CV.cellsL,zd,dg_cells]
  · simp[Qs.cv,Og.cv,CV.cells,CV.cellsL,zd,dg_cells]
  · simp[Qs.cv,Og.cv,CV.cells,CV.cellsL,zd,dg_cells]
  · simp[Qs.cv,Og.cv,CV.cells,CV.cellsL,zd,dg_cells]
  refine aJ ?_;simp (maxSteps:=4000000) only[aT,Tryz.results95,aR,aS,aQ,↓sP,sA,tyS,simprocAttr];refine⟨rfl,?_⟩;first|(refine hno 152 (bQ (.inl (by omega))) ?_ ?_<;>rfl)|(refine hno 152 (bQ (.inr (.inl h2))) ?_ ?_<;>rfl)|(refine hno 152 (bQ (.inr (.inr (.inl h3)))) ?_ ?_<;>rfl)|(refine hno 152 (bQ (.inr (.inr (.inr (.inl h4))))) ?_ ?_<;>rfl)|(refine hno 152 (bQ (.inr (.inr (.inr (.inr h5))))) ?_ ?_<;>rfl)|(refine hno 420 (fU (by simp[true_and])) ?_ ?_<;>rfl)
 cases hb
end Go.Proofs.YthedbjfipmkpiaaGreatDoor
