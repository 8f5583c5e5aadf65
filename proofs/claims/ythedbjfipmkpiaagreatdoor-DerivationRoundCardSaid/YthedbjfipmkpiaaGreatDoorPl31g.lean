/- Part of a proof: walks of functions of the program, by contracts, and the rules they use. By an AI agent. -/
import Derived.Test.YthedbjfipmkpiaaGreatDoorPl11c
import Derived.Test.YthedbjfipmkpiaaGreatDoorHdUp
import Derived.Test.YthedbjfipmkpiaaGreatDoorHdSb
import Derived.Test.YthedbjfipmkpiaaGreatDoorHdV9
import Derived.Test.YthedbjfipmkpiaaGreatDoorPl18e
import Derived.Test.YthedbjfipmkpiaaGreatDoorHdU6
set_option linter.unusedSimpArgs false
set_option linter.unusedVariables false
set_option linter.defProp false
namespace Go.Proofs.YthedbjfipmkpiaaGreatDoor
open Go Go.Hl Go.Pl
set_option maxRecDepth 10000
set_option maxHeartbeats 16000000
theorem kY (a b:List aL):fG (a++b)=(fG a).bind fun x=>(fG b).map (x++·):=by
 unfold fG;rw[List.mapM_append];cases List.mapM dQ a with
 |none=>rfl
 |some x=>cases List.mapM dQ b<;>rfl
theorem sI (w:aL):fG [w]=(dQ w).map ([·]):=by
 unfold fG;simp only[List.mapM_cons,List.mapM_nil];cases dQ w<;>rfl
variable {n:Int}{i:Nat}{l:List aL}
theorem bN0 (h:i<l.length){o:List Int}(ho:fG (l.take i)=some o)(hn:dQ l[i]=some n):fG (l.take (i+1))=some (o++[n]):=by
 rw[List.take_succ_eq_append_getElem h,kY,ho,sI,hn];rfl
theorem aF0 (h:i<l.length)(hn:dQ l[i]=none):fG l=none:=by
 have e:l=l.take i++([l[i]]++l.drop (i+1)):=by
  rw[List.singleton_append,List.getElem_cons_drop,List.take_append_drop]
 rw[e,kY,kY,sI,hn];cases fG (l.take i)<;>rfl
variable {b:Bool}
theorem cX1 (h:(!b)=false):b=true:=by cases b<;>simp_all
variable {ls:List (List aL)}
theorem jT (h:i<ls.length):nth (ls.map lsC) i= .slc ((wd' ls i).map .str):=by
 rw[bK h,wd',List.getD_eq_getElem?_getD,List.getElem?_eq_getElem h];rfl
theorem gI (h:i<l.length):nth (l.map .str) i= .str (wd l i):=by
 rw[bK h,wd,List.getD_eq_getElem?_getD,List.getElem?_eq_getElem h];rfl
theorem yK (l:List aL)(hl:l.length<2^38):iJ Tryz.prog 125 [.slc (l.map .str)] (fun u v=>u= .slc (((fG l).getD []).map (CV.int .i64))∧v= .bool (fG l).isSome):=by
 refine FW Tryz.func125 ?_;refine R0 ?_;refine R0 ?_;refine aC fun K hK=>?_;refine R0 ?_;refine aN ?_;refine jI 4 0 3 1 rfl rfl rfl rfl ?_;refine bH (α:={y:Nat×List Int//y.1≤l.length∧y.2.length=y.1∧fG (l.take y.1)=some y.2}) (fun y=>(fin [(4,.own 24 y.1.2.length),(9,.c (.slc (l.map .str))),(10,.c (.int .i64 l.length)),(11,.c (.int .i64 y.1.1))],fob [(24,.row 3 1 (y.1.2.map (CV.int .i64)))])) 100 (fun y=>l.length-y.1.1) ⟨(0,[]),by omega,rfl,rfl⟩ (fF) ?_;rintro⟨⟨i,o⟩,hi,ho,hno⟩;simp only at hi ho hno⊢;refine R0 ?_;refine aC fun K hK=>?_;refine aK (b:=decide ((i:Int)<l.length)) rfl (fun hb=>?_) (fun hb=>?_)
 ·
  have hlt:i<l.length:=by have:=of_decide_eq_true hb;omega
  have hm1:o.length+1≤maxLen:=by simp only[maxLen];omega
  have hm2:(o.length+1)*8≤140737488355328:=by omega
  clear hb;refine aM ?_;refine T0 (hK _ _ _ ?_);clear hK K;refine aC fun K hK=>?_;refine aN ?_;have F:=aI @Int.natCast_nonneg (aI @Int.ofNat_lt (aI hlt (nM hlt)));refine RF ?_;refine aC fun K hK=>Rg ?_;refine S0 ?_;refine HS rfl rfl fun K' hK'=>T5 ?_;refine D1 (cG7 l[i]) ?_;rintro u v ⟨rfl,rfl⟩;refine AX (hK' _ _ ?_);clear hK' K';iterate 5 refine S0 ?_
  refine T2 (hK _ _ _ ?_);clear hK K;refine aC fun K hK=>?_;refine R0 ?_;refine aK (b:=!(dQ l[i]).isSome) rfl (fun hb=>?_) (fun hb=>?_)
  ·
   refine R0 ?_;refine aH (RT Tryz.results125 ?_);have hn:dQ l[i]=none:=by simpa using hb
   exact bD [] (.slc []) (.bool false) (by simp[HV.close,HV.closeL,CV.denil,CV.denilL,HV.norm,HV.toC,HV.toCL]) ⟨by rw[aF0 hlt hn];rfl,by rw[aF0 hlt hn];rfl⟩
  obtain⟨n,hn⟩:=Option.isSome_iff_exists.1 (cX1 hb);rw[hn];clear hb;refine aM ?_;refine T0 (hK _ _ _ ?_);clear hK K;refine Rg ?_;have F:=aI @List.length_map.{0,0} (aI hm1 (aI hm2 @Option.getD_some.{0}));iterate 5 refine SF ?_
  refine T2 (hK _ _ _ ?_);clear hK K;refine aE (by kernel_rfl) ?_;refine TQ (jE i) ?_;refine⟨⟨(i+1,o++[n]),by show i+1≤l.length;omega,by simp[ho],bN0 hlt hno hn⟩,(aO (by omega) (by simp[aX,fin_at,finA_at,upd_at,HV.men,HV.menL,HV.norm,HV.toC,HV.toCL,List.map_append,List.length_append]) (by simp[aY,fob_at,upd_at,none0_at,bO,HO.men,HV.men,HV.menL,HV.norm,HV.toC,HV.toCL,List.map_append,List.length_append])),?_⟩;show l.length-(i+1)<l.length-i;omega
 have hie:i=l.length:=by have:=of_decide_eq_false hb;omega
 subst hie;rw[List.take_length]at hno;refine aZ (T3 ?_);clear hK K;refine AX (hK _ _ _ ?_);clear hK K;refine R0 ?_;refine aH (RT Tryz.results125 ?_);exact bD [24] (.slc (o.map (CV.int .i64))) (.bool true) (by simp[HV.close,HV.closeL,fob_at,upd_at,CV.denil,HV.norm,HV.toC,HV.toCL]) ⟨by rw[hno];rfl,by rw[hno];rfl⟩
theorem sJ (a b:aL):fG [a,b]=(dQ a).bind fun x=>(dQ b).map fun y=>[x,y]:=by
 rw[show [a,b]=[a]++[b]from rfl,kY,sI,sI];cases dQ a<;>cases dQ b<;>rfl
theorem cT8 (x y:CV):nth [x,y] 0=x:=rfl
theorem cT9 (x y:CV):nth [x,y] 1=y:=rfl
theorem gJ (h:(gL (wd (wd' ls 0) 3)).isSome=false∨(gL (wd (wd' ls 0) 5)).isSome=false∨(gL (wd (wd' ls 1) 1)).isSome=false∨(fG [wd (wd' ls 0) 4,wd (wd' ls 0) 6]).isSome=false):iF ls=none:=by
 unfold iF;split
 · rfl
 split
 · rename_i e1 e2 e3 e4 e5;rw[e1,e2,e3,sJ,e4,e5]at h;simp at h
 rfl
theorem bL (h:ls.length<2∨(wd' ls 0).length≠7∨wd (wd' ls 0) 0≠wDer∨(wd' ls 1).length≠4∨wd (wd' ls 1) 0≠wOrg):iF ls=none:=if_pos h
section
variable {q o:CV}{t r:Int}{p:Dig}
theorem fQ (hq:q.cells=34)(ho:o.cells=34):HV.getAt 102 1 false (.c (.agg [q,.int .i64 t,dg p,.int .i64 r,o,.nils]))=some (.c .nils):=by
 simp[HV.getAt,CV.getAt,CV.getAtL,CV.cells,CV.cellsL,dg_cells,hq,ho]
theorem fR (hq:q.cells=34)(ho:o.cells=34)(y:HV):HV.setAt 102 1 y (.c (.agg [q,.int .i64 t,dg p,.int .i64 r,o,.nils]))=some (.agg [.c q,.c (.int .i64 t),.c (dg p),.c (.int .i64 r),.c o,y]):=by
 simp[HV.setAt,CV.setAt,CV.setAtL,CV.cells,CV.cellsL,dg_cells,hq,ho]
end
def bY4 (ls:List (List aL))(r:HV)(os':List HO):Prop:=
 ∃x:Dv,x.l=[]∧r= .tup [.agg [.c x.q.cv,.c (.int .i64 x.t),.c (dg x.p),.c (.int .i64 x.r),.c x.o.cv,.own 0 0],.c (.bool (iF ls).isSome)]∧os'=[.row 41 4 []]∧ ∀d,iF ls=some d→d=x
variable {r:HV}{ob:Ob}
theorem bE8 {x:Dv}{q o:CV}(N:Nat)(hl:x.l=[])(hr:r= .tup [.agg [.c q,.c (.int .i64 x.t),.c (dg x.p),.c (.int .i64 x.r),.c o,.own N 0],.c (.bool b)])(h0:ob N=some (.row 41 4 []))(hq:q.denil=x.q.cv)(ho:o.denil=x.o.cv)(h2:(iF ls).isSome=b)(h1: ∀d,iF ls=some d→d=x):
  iR 0 r ob (fun r ob'=> ∃os',ob'=lst os'∧(0≤os'.length∧os'.length≤0+4)∧bY4 ls r os'):=by
 subst hr;refine gU [] [N] (.tup [.agg [.c x.q.cv,.c (.int .i64 x.t),.c (dg x.p),.c (.int .i64 x.r),.c x.o.cv,.own 0 0],.c (.bool b)]) [.row 41 4 []] ?_ (by simp[HV.men,HV.menL]) ⟨⟨by simp[HO.men],by simp,_,(by simpa[tau]using h0),rfl⟩,trivial⟩ rfl (by simp) (by simp) (by simp) ⟨x,hl,by rw[h2],rfl,h1⟩;simp[HV.close,HV.closeL,CV.denil,hq,ho,dg_denil,HV.norm,HV.toC,HV.toCL,HV.ren,HV.renL,tau]
theorem head_ok (ls:List (List aL))(hb: ∀l∈ls,∀w∈l,w.length<2^40):HGe Tryz.prog 95 [.c (.slc (ls.map lsC))] [] (bY4 ls):=by
 refine bI (args:=[.c (.slc (ls.map lsC))]) Tryz.func95 rfl (by kernel_rfl) (eZ rfl (by simp[dS]) (by simp[HV.menL,HV.men])) (Nat.le_of_ble_eq_true rfl) ?_;show Hw _ _ 0 _ _ _ (lst _) 0;rw[bX9];have hwb: ∀i j,(wd (wd' ls i) j).length<2^40:=fun i j=>by
  unfold wd wd';rw[List.getD_eq_getElem?_getD,List.getD_eq_getElem?_getD];rcases Nat.lt_or_ge i ls.length with h|h
  ·
   rw[List.getElem?_eq_getElem h];rcases Nat.lt_or_ge j ls[i].length with h'|h'
   · simp only[Option.getD_some,List.getElem?_eq_getElem h'];exact hb _ (List.getElem_mem h) _ (List.getElem_mem h')
   simp only[Option.getD_some,List.getElem?_eq_none h'];simp
  simp[List.getElem?_eq_none h]
 have hno: ∀{ob:Ob} {r:HV} (N:Nat),iF ls=none→r= .tup [.agg [.c (.agg [.str [],.str [],zd]),.c (.int .i64 0),.c zd,.c (.int .i64 0),.c (.agg [zd,.str [],.str []]),.own N 0],.c (.bool false)]→ob N=some (.row 41 4 [])→iR 0 r ob (fun r ob'=> ∃os',ob'=lst os'∧(0≤os'.length∧os'.length≤0+4)∧bY4 ls r os'):=fun N h hr h0=>bE8 (x:=dv0) N rfl hr h0 rfl rfl (by rw[h];rfl) (fun d hd=>by rw[h]at hd;cases hd);clear hb;refine R0 ?_;refine aC fun K hK=>?_;by_cases h1:2≤ls.length
 ·
  by_cases h2:(wd' ls 0).length=7
  ·
   by_cases h3:wd (wd' ls 0) 0=wDer
   ·
    by_cases h4:(wd' ls 1).length=4
    ·
     by_cases h5:wd (wd' ls 1) 0=wOrg
     ·
      refine aC fun K hK=>Rg ?_;iterate 33 refine S0 ?_ (e:=fun _ h_=>by simp only[sH,↓sP,sA,tyS,simprocAttr,List.length_map,(decide_eq_false (by omega):decide ((ls.length:Int)<2)=false),jT (show 0<ls.length by omega),jT (show 1<ls.length by omega),Int.toNat_zero,h2,h4,gI (show 0<(wd' ls 0).length by omega),gI (show 0<(wd' ls 1).length by omega),h3,wDer,h5,wOrg];exact AX h_)
      refine T2 (hK _ _ _ ?_);clear hK K;refine CF rfl ?_;refine aM ?_;refine T0 (hK _ _ _ ?_);clear hK K;refine aC fun K hK=>Rg ?_;iterate 5 refine S0 ?_ (e:=fun _ h_=>by simp only[sH,↓sP,sA,tyS,simprocAttr,List.length_map,jT (show 0<ls.length by omega),Int.toNat_zero,h2,gI (show 3<(wd' ls 0).length by omega)];exact AX h_)
      refine HS rfl rfl fun K' hK'=>?_;simp only[sH,↓sP,sA,tyS,simprocAttr,List.length_map,jT (show 0<ls.length by omega),Int.toNat_zero,h2,gI (show 3<(wd' ls 0).length by omega)];refine D1 (oX (wd (wd' ls 0) 3) (hwb _ _)) ?_;rintro u v ⟨rfl,rfl⟩;refine AX (hK' _ _ ?_);clear hK' K';iterate 6 refine S0 ?_ (e:=fun _ h_=>by simp only[sH,↓sP,sA,tyS,simprocAttr,List.length_map,jT (show 0<ls.length by omega),Int.toNat_zero,h2,gI (show 3<(wd' ls 0).length by omega)];exact AX h_)
      refine T2 (hK _ _ _ ?_);clear hK K;refine aC fun K hK=>Rg ?_;iterate 5 refine S0 ?_ (e:=fun _ h_=>by simp only[sH,↓sP,sA,tyS,simprocAttr,List.length_map,jT (show 0<ls.length by omega),Int.toNat_zero,h2,gI (show 5<(wd' ls 0).length by omega)];exact AX h_)
      refine HS rfl rfl fun K' hK'=>?_;simp only[sH,↓sP,sA,tyS,simprocAttr,List.length_map,jT (show 0<ls.length by omega),Int.toNat_zero,h2,gI (show 5<(wd' ls 0).length by omega)];refine D1 (oX (wd (wd' ls 0) 5) (hwb _ _)) ?_;rintro u v ⟨rfl,rfl⟩;refine AX (hK' _ _ ?_);clear hK' K';iterate 6 refine S0 ?_ (e:=fun _ h_=>by simp only[sH,↓sP,sA,tyS,simprocAttr,List.length_map,jT (show 0<ls.length by omega),Int.toNat_zero,h2,gI (show 5<(wd' ls 0).length by omega)];exact AX h_)
      refine T2 (hK _ _ _ ?_);clear hK K;refine aC fun K hK=>Rg ?_;iterate 5 refine S0 ?_ (e:=fun _ h_=>by simp only[sH,↓sP,sA,tyS,simprocAttr,List.length_map,jT (show 1<ls.length by omega),Int.toNat_zero,h4,gI (show 1<(wd' ls 1).length by omega)];exact AX h_)
      refine HS rfl rfl fun K' hK'=>?_;simp only[sH,↓sP,sA,tyS,simprocAttr,List.length_map,jT (show 1<ls.length by omega),Int.toNat_zero,h4,gI (show 1<(wd' ls 1).length by omega)];refine D1 (oX (wd (wd' ls 1) 1) (hwb _ _)) ?_;rintro u v ⟨rfl,rfl⟩;refine AX (hK' _ _ ?_);clear hK' K';iterate 6 refine S0 ?_ (e:=fun _ h_=>by simp only[sH,↓sP,sA,tyS,simprocAttr,List.length_map,jT (show 1<ls.length by omega),Int.toNat_zero,h4,gI (show 1<(wd' ls 1).length by omega)];exact AX h_)
      refine T2 (hK _ _ _ ?_);clear hK K;refine aC fun K hK=>eE mixed [(0,[],[]),(1,[],[]),(2,[],[]),(3,[],[]),(4,[],[]),(5,[],[]),(6,[],[]),(7,[],[]),(8,[],[]),(9,[],[]),(10,[],[]),(11,[],[]),(12,[],[]),(13,[],[]),(14,[],[]),(15,[],[]),(16,[],[])] [0,1,3,7,15,0,32,96,224,480,1023,2047,4095,8191,8191,16383,65535] (by kernel_rfl) (by kernel_rfl) (by kernel_rfl) (by kernel_rfl) rfl (by kernel_rfl) ?_;iterate 10 refine WG0 ?_ (e:=fun _ h_=>by simp only[sH,↓sP,sA,tyS,simprocAttr,List.length_map,jT (show 0<ls.length by omega),Int.toNat_zero,h2,gI (show 4<(wd' ls 0).length by omega),gI (show 6<(wd' ls 0).length by omega)];exact AX h_)
      refine lH (g:=none) 324 rfl rfl fun K' hK'=>?_;simp only[gP,jP,sH,↓sP,sA,tyS,simprocAttr,List.length_map,jT (show 0<ls.length by omega),Int.toNat_zero,h2,gI (show 4<(wd' ls 0).length by omega),gI (show 6<(wd' ls 0).length by omega)];repeat refine AI ?_
      refine dA (by first|rfl|simp) ?_;try simp only[sH,↓sP,sA,tyS,simprocAttr,List.length_map,jT (show 0<ls.length by omega),Int.toNat_zero,h2,gI (show 4<(wd' ls 0).length by omega),gI (show 6<(wd' ls 0).length by omega)]
      refine AX (hK' _ _ ?_);clear hK' K';refine cQ (g:=none) rfl rfl fun K' hK'=>?_;simp only[sH,↓sP,sA,tyS,simprocAttr,List.length_map,jT (show 0<ls.length by omega),Int.toNat_zero,h2,gI (show 4<(wd' ls 0).length by omega),gI (show 6<(wd' ls 0).length by omega)];refine D1 (yK [wd (wd' ls 0) 4,wd (wd' ls 0) 6] (by simp)) ?_;rintro u v ⟨rfl,rfl⟩;refine AX (hK' _ _ ?_);clear hK' K';iterate 5 refine WG0 ?_ (e:=fun _ h_=>by simp only[sH,↓sP,sA,tyS,simprocAttr,List.length_map,jT (show 0<ls.length by omega),Int.toNat_zero,h2,gI (show 4<(wd' ls 0).length by omega),gI (show 6<(wd' ls 0).length by omega)];exact AX h_)
      refine T2 (hK _ _ _ ?_);clear hK K;refine aC fun K hK=>?_;refine aC fun K hK=>Rg ?_;iterate 3 refine S0 ?_
      refine aG 88 rfl (fun h7_88=>?_) (fun h7_88=>?_)
      ·
       have F:=h7_88;iterate 4 refine SF ?_
       refine aG 91 rfl (fun h7_91=>?_) (fun h7_91=>?_)
       ·
        have F:=aI h7_88 h7_91;iterate 4 refine SF ?_
        refine aG 95 rfl (fun h7_95=>?_) (fun h7_95=>?_)
        ·
         have F:=aI h7_88 (aI h7_91 h7_95);iterate 3 refine SF ?_
         refine aG 99 rfl (fun h7_99=>?_) (fun h7_99=>?_)
         ·
          simp only[h7_99];refine T2 (hK _ _ _ ?_);clear hK K;refine CF rfl ?_;obtain⟨a,ha⟩:=Option.isSome_iff_exists.1 (show(gL (wd (wd' ls 0) 3)).isSome=true by simp[h7_88,h7_91,h7_95,h7_99]);obtain⟨p,hp⟩:=Option.isSome_iff_exists.1 (show(gL (wd (wd' ls 0) 5)).isSome=true by simp[h7_88,h7_91,h7_95,h7_99]);obtain⟨v,hv⟩:=Option.isSome_iff_exists.1 (show(gL (wd (wd' ls 1) 1)).isSome=true by simp[h7_88,h7_91,h7_95,h7_99]);have hns:(fG [wd (wd' ls 0) 4,wd (wd' ls 0) 6]).isSome=true:=by simp[h7_88,h7_91,h7_95,h7_99]
          obtain⟨t,ht⟩: ∃t,dQ (wd (wd' ls 0) 4)=some t:=by
           rw[sJ]at hns;cases h:dQ (wd (wd' ls 0) 4)with
           |none=>rw[h]at hns;cases hns
           |some t=>exact⟨t,rfl⟩
          obtain⟨n,hn⟩: ∃n,dQ (wd (wd' ls 0) 6)=some n:=by
           rw[sJ,ht]at hns;cases h:dQ (wd (wd' ls 0) 6)with
           |none=>rw[h]at hns;cases hns
           |some t=>exact⟨t,rfl⟩
          have hnv:fG [wd (wd' ls 0) 4,wd (wd' ls 0) 6]=some [t,n]:=by rw[sJ,ht,hn];rfl
          have hh:iF ls=some ⟨⟨wd (wd' ls 0) 1,wd (wd' ls 0) 2,a⟩,t,p,n,⟨v,wd (wd' ls 1) 2,wd (wd' ls 1) 3⟩,[]⟩:=by
           unfold iF;rw[if_neg (by simp[h2,h3,h4,h5];omega),ha,hp,hv,ht,hn]
          rw[ha,hp,hv,hnv];refine aM ?_;refine T0 (hK _ _ _ ?_);clear hK K;refine aC fun K hK=>DW [(0,[],[]),(1,[],[]),(2,[],[]),(3,[],[]),(4,[],[]),(5,[],[]),(6,[],[]),(7,[],[]),(8,[],[]),(9,[],[]),(10,[],[]),(11,[],[]),(12,[],[]),(13,[],[]),(14,[],[]),(15,[],[]),(16,[],[]),(17,[],[]),(18,[],[]),(19,[],[]),(20,[],[]),(21,[],[]),(22,[],[]),(23,[],[]),(24,[],[]),(25,[],[]),(26,[],[]),(27,[],[]),(28,[],[]),(29,[],[]),(30,[],[]),(31,[],[]),(32,[],[]),(33,[],[])] [0,1,3,7,15,0,32,96,224,480,0,2047,0,4096,12288,0,0,65536,196608,0,0,1048576,3145728,7340032,15728640,0,33554432,100663296,234881024,503316480,1073217536,2147483647,4294967295,8589934591] ?_;iterate 34 refine W0 ?_ (e:=fun _ h_=>by simp only[sH,↓sP,sA,tyS,simprocAttr,List.length_map,jT (show 0<ls.length by omega),jT (show 1<ls.length by omega),Int.toNat_zero,h2,h4,gI (show 1<(wd' ls 0).length by omega),gI (show 2<(wd' ls 0).length by omega),gI (show 2<(wd' ls 1).length by omega),gI (show 3<(wd' ls 1).length by omega),Option.getD_some,cT8,cT9,dH,dI,h7_88,h7_91,h7_95,h7_99];exact AX h_)
          refine T2 (hK _ _ _ ?_);clear hK K;refine dX 0 102 41 4 rfl (fQ ?_ ?_) rfl (fR ?_ ?_ _) ?_
          · simp[Qs.cv,Og.cv,CV.cells,CV.cellsL,zd,dg_cells]
          · simp[Qs.cv,Og.cv,CV.cells,CV.cellsL,zd,dg_cells]
          · simp[Qs.cv,Og.cv,CV.cells,CV.cellsL,zd,dg_cells]
          · simp[Qs.cv,Og.cv,CV.cells,CV.cellsL,zd,dg_cells]
          refine aH (RT Tryz.results95 ?_);refine⟨rfl,?_⟩;refine bE8 (x:=⟨⟨wd (wd' ls 0) 1,wd (wd' ls 0) 2,a⟩,t,p,n,⟨v,wd (wd' ls 1) 2,wd (wd' ls 1) 3⟩,[]⟩) (b:=true) (q:=(⟨wd (wd' ls 0) 1,wd (wd' ls 0) 2,a⟩:Qs).cv) (o:=(⟨v,wd (wd' ls 1) 2,wd (wd' ls 1) 3⟩:Og).cv) 544 rfl ?_ rfl ?_ ?_ ?_ (fun d hd=>by rw[hh]at hd;exact(Option.some.inj hd).symm)
          · rfl
          · simp[Qs.cv,CV.denil,CV.denilL,dg_denil]
          · simp[Og.cv,CV.denil,CV.denilL,dg_denil]
          simp[hh]
         simp only[h7_99];refine T2 (hK _ _ _ ?_);clear hK K;refine CT rfl ?_;have F:=aI @dH @dI;refine RF ?_;refine dX 0 102 41 4 rfl (fQ ?_ ?_) rfl (fR ?_ ?_ _) ?_
         · simp[Qs.cv,Og.cv,CV.cells,CV.cellsL,zd,dg_cells]
         · simp[Qs.cv,Og.cv,CV.cells,CV.cellsL,zd,dg_cells]
         · simp[Qs.cv,Og.cv,CV.cells,CV.cellsL,zd,dg_cells]
         · simp[Qs.cv,Og.cv,CV.cells,CV.cellsL,zd,dg_cells]
         refine aH (RT Tryz.results95 ?_);refine⟨rfl,?_⟩;first|(refine hno 152 (bL (.inl (by omega))) ?_ ?_<;>rfl)|(refine hno 152 (bL (.inr (.inl h2))) ?_ ?_<;>rfl)|(refine hno 152 (bL (.inr (.inr (.inl h3)))) ?_ ?_<;>rfl)|(refine hno 152 (bL (.inr (.inr (.inr (.inl h4))))) ?_ ?_<;>rfl)|(refine hno 152 (bL (.inr (.inr (.inr (.inr h5))))) ?_ ?_<;>rfl)|(refine hno 420 (gJ (by simp[h7_88,h7_91,h7_95,h7_99])) ?_ ?_<;>rfl)
        have F:=aI h7_88 (aI h7_91 h7_95);iterate 3 refine SF ?_
        refine T2 (hK _ _ _ ?_);clear hK K;refine CT rfl ?_;have F:=aI @dH @dI;refine RF ?_;refine dX 0 102 41 4 rfl (fQ ?_ ?_) rfl (fR ?_ ?_ _) ?_
        · simp[Qs.cv,Og.cv,CV.cells,CV.cellsL,zd,dg_cells]
        · simp[Qs.cv,Og.cv,CV.cells,CV.cellsL,zd,dg_cells]
        · simp[Qs.cv,Og.cv,CV.cells,CV.cellsL,zd,dg_cells]
        · simp[Qs.cv,Og.cv,CV.cells,CV.cellsL,zd,dg_cells]
        refine aH (RT Tryz.results95 ?_);refine⟨rfl,?_⟩;first|(refine hno 152 (bL (.inl (by omega))) ?_ ?_<;>rfl)|(refine hno 152 (bL (.inr (.inl h2))) ?_ ?_<;>rfl)|(refine hno 152 (bL (.inr (.inr (.inl h3)))) ?_ ?_<;>rfl)|(refine hno 152 (bL (.inr (.inr (.inr (.inl h4))))) ?_ ?_<;>rfl)|(refine hno 152 (bL (.inr (.inr (.inr (.inr h5))))) ?_ ?_<;>rfl)|(refine hno 420 (gJ (by simp[h7_88,h7_91,h7_95])) ?_ ?_<;>rfl)
       have F:=aI h7_88 h7_91;iterate 7 refine SF ?_
       refine T2 (hK _ _ _ ?_);clear hK K;refine CT rfl ?_;have F:=aI @dH @dI;refine RF ?_;refine dX 0 102 41 4 rfl (fQ ?_ ?_) rfl (fR ?_ ?_ _) ?_
       · simp[Qs.cv,Og.cv,CV.cells,CV.cellsL,zd,dg_cells]
       · simp[Qs.cv,Og.cv,CV.cells,CV.cellsL,zd,dg_cells]
       · simp[Qs.cv,Og.cv,CV.cells,CV.cellsL,zd,dg_cells]
       · simp[Qs.cv,Og.cv,CV.cells,CV.cellsL,zd,dg_cells]
       refine aH (RT Tryz.results95 ?_);refine⟨rfl,?_⟩;first|(refine hno 152 (bL (.inl (by omega))) ?_ ?_<;>rfl)|(refine hno 152 (bL (.inr (.inl h2))) ?_ ?_<;>rfl)|(refine hno 152 (bL (.inr (.inr (.inl h3)))) ?_ ?_<;>rfl)|(refine hno 152 (bL (.inr (.inr (.inr (.inl h4))))) ?_ ?_<;>rfl)|(refine hno 152 (bL (.inr (.inr (.inr (.inr h5))))) ?_ ?_<;>rfl)|(refine hno 420 (gJ (by simp[h7_88,h7_91])) ?_ ?_<;>rfl)
      have F:=h7_88;iterate 11 refine SF ?_
      refine T2 (hK _ _ _ ?_);clear hK K;refine CT rfl ?_;have F:=aI @dH @dI;refine RF ?_;refine dX 0 102 41 4 rfl (fQ ?_ ?_) rfl (fR ?_ ?_ _) ?_
      · simp[Qs.cv,Og.cv,CV.cells,CV.cellsL,zd,dg_cells]
      · simp[Qs.cv,Og.cv,CV.cells,CV.cellsL,zd,dg_cells]
      · simp[Qs.cv,Og.cv,CV.cells,CV.cellsL,zd,dg_cells]
      · simp[Qs.cv,Og.cv,CV.cells,CV.cellsL,zd,dg_cells]
      refine aH (RT Tryz.results95 ?_);refine⟨rfl,?_⟩;first|(refine hno 152 (bL (.inl (by omega))) ?_ ?_<;>rfl)|(refine hno 152 (bL (.inr (.inl h2))) ?_ ?_<;>rfl)|(refine hno 152 (bL (.inr (.inr (.inl h3)))) ?_ ?_<;>rfl)|(refine hno 152 (bL (.inr (.inr (.inr (.inl h4))))) ?_ ?_<;>rfl)|(refine hno 152 (bL (.inr (.inr (.inr (.inr h5))))) ?_ ?_<;>rfl)|(refine hno 420 (gJ (by simp[h7_88])) ?_ ?_<;>rfl)
     refine aC fun K hK=>Rg ?_;iterate 33 refine S0 ?_ (e:=fun _ h_=>by simp only[sH,↓sP,sA,tyS,simprocAttr,List.length_map,(decide_eq_false (by omega):decide ((ls.length:Int)<2)=false),jT (show 0<ls.length by omega),jT (show 1<ls.length by omega),Int.toNat_zero,h2,h4,gI (show 0<(wd' ls 0).length by omega),gI (show 0<(wd' ls 1).length by omega),h3,wDer,(by rw[Bool.not_eq_true',beq_eq_false_iff_ne];exact h5:(!(wd (wd' ls 1) 0==[111,114,105,103,105,110]))=true)];exact AX h_)
     refine T2 (hK _ _ _ ?_);clear hK K;refine CT rfl ?_;have F:=aI @dH @dI;refine RF ?_;refine dX 0 102 41 4 rfl (fQ ?_ ?_) rfl (fR ?_ ?_ _) ?_
     · simp[Qs.cv,Og.cv,CV.cells,CV.cellsL,zd,dg_cells]
     · simp[Qs.cv,Og.cv,CV.cells,CV.cellsL,zd,dg_cells]
     · simp[Qs.cv,Og.cv,CV.cells,CV.cellsL,zd,dg_cells]
     · simp[Qs.cv,Og.cv,CV.cells,CV.cellsL,zd,dg_cells]
     refine aH (RT Tryz.results95 ?_);refine⟨rfl,?_⟩;first|(refine hno 152 (bL (.inl (by omega))) ?_ ?_<;>rfl)|(refine hno 152 (bL (.inr (.inl h2))) ?_ ?_<;>rfl)|(refine hno 152 (bL (.inr (.inr (.inl h3)))) ?_ ?_<;>rfl)|(refine hno 152 (bL (.inr (.inr (.inr (.inl h4))))) ?_ ?_<;>rfl)|(refine hno 152 (bL (.inr (.inr (.inr (.inr h5))))) ?_ ?_<;>rfl)|(refine hno 420 (gJ (by simp[true_and])) ?_ ?_<;>rfl)
    refine aC fun K hK=>Rg ?_;iterate 33 refine S0 ?_ (e:=fun _ h_=>by simp only[sH,↓sP,sA,tyS,simprocAttr,List.length_map,(decide_eq_false (by omega):decide ((ls.length:Int)<2)=false),jT (show 0<ls.length by omega),jT (show 1<ls.length by omega),Int.toNat_zero,h2,gI (show 0<(wd' ls 0).length by omega),h3,wDer,(bne_iff_ne.2 (by omega):(((wd' ls 1).length:Int) !=4)=true)];exact AX h_)
    refine T2 (hK _ _ _ ?_);clear hK K;refine CT rfl ?_;have F:=aI @dH @dI;refine RF ?_;refine dX 0 102 41 4 rfl (fQ ?_ ?_) rfl (fR ?_ ?_ _) ?_
    · simp[Qs.cv,Og.cv,CV.cells,CV.cellsL,zd,dg_cells]
    · simp[Qs.cv,Og.cv,CV.cells,CV.cellsL,zd,dg_cells]
    · simp[Qs.cv,Og.cv,CV.cells,CV.cellsL,zd,dg_cells]
    · simp[Qs.cv,Og.cv,CV.cells,CV.cellsL,zd,dg_cells]
    refine aH (RT Tryz.results95 ?_);refine⟨rfl,?_⟩;first|(refine hno 152 (bL (.inl (by omega))) ?_ ?_<;>rfl)|(refine hno 152 (bL (.inr (.inl h2))) ?_ ?_<;>rfl)|(refine hno 152 (bL (.inr (.inr (.inl h3)))) ?_ ?_<;>rfl)|(refine hno 152 (bL (.inr (.inr (.inr (.inl h4))))) ?_ ?_<;>rfl)|(refine hno 152 (bL (.inr (.inr (.inr (.inr h5))))) ?_ ?_<;>rfl)|(refine hno 420 (gJ (by simp[true_and])) ?_ ?_<;>rfl)
   refine aC fun K hK=>Rg ?_;iterate 33 refine S0 ?_ (e:=fun _ h_=>by simp only[sH,↓sP,sA,tyS,simprocAttr,List.length_map,(decide_eq_false (by omega):decide ((ls.length:Int)<2)=false),jT (show 0<ls.length by omega),Int.toNat_zero,h2,gI (show 0<(wd' ls 0).length by omega),(by rw[Bool.not_eq_true',beq_eq_false_iff_ne];exact h3:(!(wd (wd' ls 0) 0==[100,101,114,105,118,97,116,105,111,110]))=true)];exact AX h_)
   refine T2 (hK _ _ _ ?_);clear hK K;refine CT rfl ?_;have F:=aI @dH @dI;refine RF ?_;refine dX 0 102 41 4 rfl (fQ ?_ ?_) rfl (fR ?_ ?_ _) ?_
   · simp[Qs.cv,Og.cv,CV.cells,CV.cellsL,zd,dg_cells]
   · simp[Qs.cv,Og.cv,CV.cells,CV.cellsL,zd,dg_cells]
   · simp[Qs.cv,Og.cv,CV.cells,CV.cellsL,zd,dg_cells]
   · simp[Qs.cv,Og.cv,CV.cells,CV.cellsL,zd,dg_cells]
   refine aH (RT Tryz.results95 ?_);refine⟨rfl,?_⟩;first|(refine hno 152 (bL (.inl (by omega))) ?_ ?_<;>rfl)|(refine hno 152 (bL (.inr (.inl h2))) ?_ ?_<;>rfl)|(refine hno 152 (bL (.inr (.inr (.inl h3)))) ?_ ?_<;>rfl)|(refine hno 152 (bL (.inr (.inr (.inr (.inl h4))))) ?_ ?_<;>rfl)|(refine hno 152 (bL (.inr (.inr (.inr (.inr h5))))) ?_ ?_<;>rfl)|(refine hno 420 (gJ (by simp[true_and])) ?_ ?_<;>rfl)
  refine aC fun K hK=>Rg ?_;iterate 33 refine S0 ?_ (e:=fun _ h_=>by simp only[sH,↓sP,sA,tyS,simprocAttr,List.length_map,(decide_eq_false (by omega):decide ((ls.length:Int)<2)=false),jT (show 0<ls.length by omega),Int.toNat_zero,(bne_iff_ne.2 (by omega):(((wd' ls 0).length:Int) !=7)=true)];exact AX h_)
  refine T2 (hK _ _ _ ?_);clear hK K;refine CT rfl ?_;have F:=aI @dH @dI;refine RF ?_;refine dX 0 102 41 4 rfl (fQ ?_ ?_) rfl (fR ?_ ?_ _) ?_
  · simp[Qs.cv,Og.cv,CV.cells,CV.cellsL,zd,dg_cells]
  · simp[Qs.cv,Og.cv,CV.cells,CV.cellsL,zd,dg_cells]
  · simp[Qs.cv,Og.cv,CV.cells,CV.cellsL,zd,dg_cells]
  · simp[Qs.cv,Og.cv,CV.cells,CV.cellsL,zd,dg_cells]
  refine aH (RT Tryz.results95 ?_);refine⟨rfl,?_⟩;first|(refine hno 152 (bL (.inl (by omega))) ?_ ?_<;>rfl)|(refine hno 152 (bL (.inr (.inl h2))) ?_ ?_<;>rfl)|(refine hno 152 (bL (.inr (.inr (.inl h3)))) ?_ ?_<;>rfl)|(refine hno 152 (bL (.inr (.inr (.inr (.inl h4))))) ?_ ?_<;>rfl)|(refine hno 152 (bL (.inr (.inr (.inr (.inr h5))))) ?_ ?_<;>rfl)|(refine hno 420 (gJ (by simp[true_and])) ?_ ?_<;>rfl)
 refine aC fun K hK=>Rg ?_;have F:=aI @List.length_map.{0,0} (decide_eq_true (by omega):decide ((ls.length:Int)<2)=true);iterate 33 refine SF ?_
 refine T2 (hK _ _ _ ?_);clear hK K;refine CT rfl ?_;have F:=aI @dH @dI;refine RF ?_;refine dX 0 102 41 4 rfl (fQ ?_ ?_) rfl (fR ?_ ?_ _) ?_
 · simp[Qs.cv,Og.cv,CV.cells,CV.cellsL,zd,dg_cells]
 · simp[Qs.cv,Og.cv,CV.cells,CV.cellsL,zd,dg_cells]
 · simp[Qs.cv,Og.cv,CV.cells,CV.cellsL,zd,dg_cells]
 · simp[Qs.cv,Og.cv,CV.cells,CV.cellsL,zd,dg_cells]
 refine aH (RT Tryz.results95 ?_);refine⟨rfl,?_⟩;first|(refine hno 152 (bL (.inl (by omega))) ?_ ?_<;>rfl)|(refine hno 152 (bL (.inr (.inl h2))) ?_ ?_<;>rfl)|(refine hno 152 (bL (.inr (.inr (.inl h3)))) ?_ ?_<;>rfl)|(refine hno 152 (bL (.inr (.inr (.inr (.inl h4))))) ?_ ?_<;>rfl)|(refine hno 152 (bL (.inr (.inr (.inr (.inr h5))))) ?_ ?_<;>rfl)|(refine hno 420 (gJ (by simp[true_and])) ?_ ?_<;>rfl)
def aJ6 (s:Array Nat):Nat:=(List.range 5).countP fun j=>!s.contains j
variable {j:Nat}
theorem aR5 {s:Array Nat}(hj:j<5)(h:s.contains j=false):aJ6 (s.push j)<aJ6 s:=by
 have h':j∉s:=by simpa using h
 have hc: ∀i,(s.push j).contains i=(s.contains i||i==j):=fun i=>by
  rw[Bool.eq_iff_iff];simp[Array.mem_push]
 unfold aJ6;simp only[hc];obtain rfl|rfl|rfl|rfl|rfl:j=0∨j=1∨j=2∨j=3∨j=4:=by omega
 all_goals
  simp only[show List.range 5=[0,1,2,3,4]from rfl,List.countP_cons,List.countP_nil];simp[h'];try omega
variable {w:aL}
theorem bN1 (h: ∀j,j<5→(wlK.getD j (0,[])).2≠w):lX w=none:=by
 have h0:=h 0 (by omega);have h1:=h 1 (by omega);have h2:=h 2 (by omega);have h3:=h 3 (by omega);have h4:=h 4 (by omega);simp only[wlK,List.getD_eq_getElem?_getD,List.getElem?_cons_zero,List.getElem?_cons_succ,Option.getD_some]at h0 h1 h2 h3 h4;unfold lX;rw[if_neg (Ne.symm h0),if_neg (Ne.symm h1),if_neg (Ne.symm h2),if_neg (Ne.symm h3),if_neg (Ne.symm h4)]
theorem bN2 (hj:j<5)(h:(wlK.getD j (0,[])).2=w):lX w=some (wlK.getD j (0,[])).1:=by
 subst h;obtain rfl|rfl|rfl|rfl|rfl:j=0∨j=1∨j=2∨j=3∨j=4:=by omega
 all_goals decide
theorem oY :wlK.length=5:=rfl
theorem cH0 (h:j<wlK.length):wlK[j]=wlK.getD j (0,[]):=by rw[List.getD_eq_getElem?_getD,List.getElem?_eq_getElem h];rfl
def cU0 (s:Array Nat):Option Nat→Prop
 |none=> ∀j,j<5→s.contains j=true
 |some j=>j<5∧s.contains j=false
def yL (s:Array Nat):Option Nat→Array Nat
 |none=>s
 |some j=>s.push j
theorem cU1 (x:CV)(l:List CV):nth (x::l) 0=x:=rfl
def lnZ :CV:= .agg [.int .i64 0,.int .i64 0,.nils,.nils]
def bE9 (w:List aL)(r:HV)(os':List HO):Prop:=
 ∃(k n:Int) (f:List Int),r= .tup [.agg [.c (.int .i64 k),.c (.int .i64 n),.own 0 0,.c (.slc (f.map (CV.int .i64)))],.c (.bool (fM w).isSome)]∧os'=[.row 44 32 []]∧ ∀x,fM w=some x→x=⟨k,n,[],f⟩
theorem bF0 {w:List aL}{k:Int}{f:List Int}{fv:CV}(N:Nat)(hr:r= .tup [.agg [.c (.int .i64 k),.c (.int .i64 n),.own N 0,.c fv],.c (.bool b)])(h0:ob N=some (.row 44 32 []))(hfv:fv.denil= .slc (f.map (CV.int .i64)))(h2:(fM w).isSome=b)(h1: ∀x,fM w=some x→x=⟨k,n,[],f⟩):
  iR 0 r ob (fun r ob'=> ∃os',ob'=lst os'∧(0≤os'.length∧os'.length≤0+4)∧bE9 w r os'):=by
 subst hr;refine gU [] [N] (.tup [.agg [.c (.int .i64 k),.c (.int .i64 n),.own 0 0,.c (.slc (f.map (CV.int .i64)))],.c (.bool b)]) [.row 44 32 []] ?_ (by simp[HV.men,HV.menL]) ⟨⟨by simp[HO.men],by simp,_,(by simpa[tau]using h0),rfl⟩,trivial⟩ rfl (by simp) (by simp) (by simp) ⟨k,n,f,by rw[h2],rfl,h1⟩;simp[HV.close,HV.closeL,CV.denil,hfv,HV.norm,HV.toC,HV.toCL,HV.ren,HV.renL,tau]
theorem cH1 (w:List aL)(hl:w.length<2^38)(h0:0<w.length):HGe Tryz.prog 96 [.c (.slc (w.map .str))] [] (bE9 w):=by
 refine bI (args:=[.c (.slc (w.map .str))]) Tryz.func96 rfl (by kernel_rfl) (eZ rfl (by simp[dS]) (by simp[HV.menL,HV.men])) (Nat.le_of_ble_eq_true rfl) ?_;show Hw _ _ 0 _ _ _ (lst _) 0;rw[bX9];have hno: ∀{ob:Ob} {r:HV} (N:Nat),fM w=none→r= .tup [.agg [.c (.int .i64 0),.c (.int .i64 0),.own N 0,.c .nils],.c (.bool false)]→ob N=some (.row 44 32 [])→iR 0 r ob (fun r ob'=> ∃os',ob'=lst os'∧(0≤os'.length∧os'.length≤0+4)∧bE9 w r os'):=fun N h hr h0=>bF0 (f:=[]) N hr h0 rfl (by rw[h];rfl) (fun x hx=>by rw[h]at hx;cases hx);have htk:List.take (w.length-1) ((w.drop 1).map CV.str)=(w.drop 1).map .str:=List.take_of_length_le (by simp);have hdr:List.drop 1 (w.map CV.str)=(w.drop 1).map .str:=by rw[List.map_drop]
 refine R0 ?_;refine aC fun K hK=>Rg ?_;have F:=aI @List.length_map.{0,0} hdr;iterate 2 refine SF ?_
 refine HS rfl rfl fun K' hK'=>T6 ?_;rw[htk,denilL_str];refine D1 (yK (w.drop 1) (by simp;omega)) ?_;rintro u v ⟨rfl,rfl⟩;refine AX (hK' _ _ ?_);clear hK' K';iterate 5 refine SF ?_
 refine T2 (hK _ _ _ ?_);clear hK K;refine aC fun K hK=>?_;by_cases hs:(fG (w.drop 1)).isSome=true
 ·
  by_cases hne:(fG (w.drop 1)).getD []=[]
  ·
   obtain⟨ns,hns⟩:=Option.isSome_iff_exists.1 hs;rw[hns]at hne
   replace hne:ns=[]:=hne
   subst hne;rw[hns];refine aC fun K hK=>Rg ?_;have F:=aI @Option.getD_some.{0} (aI @Option.isSome_some.{0} @List.map_nil.{0,0});iterate 7 refine SF ?_
   refine T2 (hK _ _ _ ?_);clear hK K;refine CT rfl ?_;refine R0 ?_;refine dX 0 2 44 32 rfl rfl rfl rfl ?_;refine aH (RT Tryz.results96 ?_);refine⟨rfl,?_⟩;first|(refine hno 412 (by rw[hlr,hkn];rfl) ?_ ?_<;>rfl)|(refine hno 80 (by unfold fM;rw[hns]) ?_ ?_<;>rfl)|(refine hok 504 ?_ ?_ ?_ ?_;rotate_left 2;rfl;rfl;(cases f<;>simp[hk1]<;>omega))
  obtain⟨ns,hns⟩:=Option.isSome_iff_exists.1 hs;rw[hns]at hne
  replace hne:ns≠[]:=hne
  rw[hns];refine aC fun K hK=>Rg ?_;have F:=aI @Option.getD_some.{0} (aI @Option.isSome_some.{0} @List.length_map.{0,0});iterate 7 refine SF ?_
  refine T2 (hK _ _ _ ?_);clear hK K;refine aK (b:=((ns.length:Int)==0)) rfl (fun hb=>?_) (fun hb=>?_)
  ·
   have h1:ns.length=0:=by have:=eq_of_beq hb;omega
   exact absurd (List.eq_nil_of_length_eq_zero h1) hne
  obtain⟨n,f,rfl⟩: ∃n f,ns=n::f:=by
   match ns,hne with
   |n::f,_=>exact⟨n,f,rfl⟩
  clear hb;have hlr:fM w=(lX (wd w 0)).bind fun k=>if k=1∧f≠[]then none else some (⟨k,n,[],f⟩:Ln):=by unfold fM;rw[hns]
  have hut:Tryz.prog.underlying 130=some (.map 3 9):=Tryz.underlying130;refine aM ?_;refine T0 (hK _ _ _ ?_);clear hK K;refine aC fun K hK=>?_;refine aC fun K hK=>bD2 ?_;refine aP9 (g:=none) (by kernel_rfl) rfl rfl fun K' hK'=>T5 ?_;refine eX [] aR4 rfl trivial (by simp) (by simp) ⟨rfl,rfl,rfl,rfl⟩ (by simp[dS]) (by simp[HV.menL]) ?_;rintro r os' ⟨rfl,rfl⟩;rw[bY0,bE7];refine AX (hK' _ _ ?_);clear hK' K';refine bT7 (by kernel_rfl) rfl rfl rfl rfl hut rfl rfl ?_;refine xR rfl (hK _ _ _ ?_);clear hK K;refine aN ?_;refine bH (α:={s:Array Nat// ∀j,j<5→s.contains j=true→(wlK.getD j (0,[])).2≠wd w 0}) (fun s=>(fin [(0,.c (.slc (w.map .str))),(2,.ptr 0 0),(4,.c (.slc (CV.int .i64 n::f.map (CV.int .i64)))),(23,.ptr 72 0)],fob [(0,.box 41 (.c lnZ)),(68,.raw (gX wlK) 5),(72,.it 68 5 s.1 5)])) 200 (fun s=>aJ6 s.1) ⟨#[],fun j _ h=>by simp at h⟩ (aO (by omega) (by simp[aX,fin_at,finA_at,upd_at,HV.men,HV.menL,HV.norm,HV.toC,HV.toCL,lnZ]) (by simp[aY,fob_at,upd_at,none0_at,bO,HO.men,HV.men,HV.menL,HV.norm,HV.toC,HV.toCL,lnZ])) ?_;rintro⟨s,hs⟩;refine aC fun K hK=>?_;have key: ∀(o:Option Nat) fr ob nx,cU0 s o→Fits 0 fr ob (fin [(0,.c (.slc (w.map .str))),(2,.ptr 0 0),(4,.c (.slc (CV.int .i64 n::f.map (CV.int .i64)))),(23,.ptr 72 0),(25,.c (.bool o.isSome))]) (fob [(0,.box 41 (.c lnZ)),(68,.raw (gX wlK) 5),(72,.it 68 5 (yL s o) 5)]) 400→K fr ob nx:=by
   rintro o fr ob nx ho hf;refine hK _ _ _ (bJ hf ?_);clear hf hK K;refine aC fun K hK=>?_;refine aK (b:=o.isSome) rfl (fun hb=>?_) (fun hb=>?_)
   ·
    obtain⟨j,rfl⟩:=Option.isSome_iff_exists.1 hb;obtain⟨hj,hsj⟩:=ho;have hj':j<wlK.length:=hj;clear hb;refine aM ?_;refine T0 (hK _ _ _ ?_);clear hK K;refine aN ?_;refine aC fun K hK=>bD2 ?_;refine bT8 (l:=wlK) hj' (by kernel_rfl) rfl rfl rfl rfl rfl rfl rfl ?_;iterate 4
     (refine aP9 (g:=none) (by kernel_rfl) rfl rfl fun K' hK'=>?_;simp only[sH,↓sP,sA,tyS,simprocAttr];(repeat refine AI ?_);refine hK' _ _ ?_;clear hK' K')
    refine xR rfl (hK _ _ _ ?_);clear hK K;rw[cH0 hj'];obtain⟨kw,hkw⟩: ∃kw,kw=wlK.getD j (0,[]):=⟨_,rfl⟩;rw[←hkw];refine aC fun K hK=>Rg ?_;iterate 5 refine S0 ?_ (e:=fun _ h_=>by simp only[sH,↓sP,sA,tyS,simprocAttr,List.length_map,gI h0,Int.toNat_zero];exact AX h_)
    refine T2 (hK _ _ _ ?_);clear hK K;refine aK (b:=(kw.2==wd w 0)) rfl (fun hb=>?_) (fun hb=>?_)
    ·
     have hkd:lX (wd w 0)=some kw.1:=by rw[hkw];exact bN2 hj (by rw[←hkw];exact eq_of_beq hb)
     clear hb;have htf:List.take f.length (f.map (CV.int .i64))=f.map (CV.int .i64):=List.take_of_length_le (by simp);have hok: ∀{ob:Ob} {r:HV} (N:Nat) (b:Bool),b=decide (¬(kw.1=1∧f≠[]))→r= .tup [.agg [.c (.int .i64 kw.1),.c (.int .i64 n),.own N 0,.c (.slc (f.map (CV.int .i64)))],.c (.bool b)]→ob N=some (.row 44 32 [])→iR 0 r ob (fun r ob'=> ∃os',ob'=lst os'∧(0≤os'.length∧os'.length≤0+4)∧bE9 w r os'):=fun N b hb hr h0=>by
      refine bF0 (f:=f) N hr h0 (by simp[CV.denil,denilL_int]) ?_ ?_
      ·
       rw[hlr,hkd,hb];by_cases hc:kw.1=1∧f≠[]
       · rw[decide_eq_false (by simpa using hc)];simp[hc]
       rw[decide_eq_true hc];simp[hc]
      intro x hx;rw[hlr,hkd]at hx;simp only[Option.bind_some]at hx;split at hx
      · cases hx
      cases hx;rfl
     by_cases hk1:kw.1=1
     ·
      have hkf:(kw.1 !=1)=false:=by rw[hk1];rfl
      refine aC fun K hK=>DW [(0,[],[]),(1,[],[]),(2,[],[]),(3,[],[]),(4,[],[]),(5,[],[]),(6,[],[]),(7,[],[]),(8,[],[]),(9,[],[]),(10,[],[]),(11,[],[]),(12,[],[]),(13,[],[]),(14,[],[10,11,12,13]),(15,[],[])] [0,0,2,6,0,16,63,0,128,384,896,1920,3968,8064,1023,32767] ?_;iterate 16 refine W0 ?_ (e:=fun _ h_=>by simp only[sH,↓sP,sA,tyS,simprocAttr,cU1,Int.toNat_zero,Int.toNat_one,List.length_cons,List.length_map,List.drop_succ_cons,List.drop_zero,Nat.add_sub_cancel,htf,hkf];exact AX h_)
      refine T2 (hK _ _ _ ?_);clear hK K;refine dX 0 2 44 32 rfl rfl rfl rfl ?_;refine aH (RT Tryz.results96 ?_);refine⟨rfl,?_⟩;first|(refine hno 412 (by rw[hlr,hkn];rfl) ?_ ?_<;>rfl)|(refine hno 80 (by unfold fM;rw[hns]) ?_ ?_<;>rfl)|(refine hok 504 ?_ ?_ ?_ ?_;rotate_left 2;rfl;rfl;(cases f<;>simp[hk1]<;>omega))
     have hkf:(kw.1 !=1)=true:=bne_iff_ne.2 hk1;refine aC fun K hK=>DW [(0,[],[]),(1,[],[]),(2,[],[]),(3,[],[]),(4,[],[]),(5,[],[]),(6,[],[]),(7,[],[]),(8,[],[]),(9,[],[]),(10,[],[]),(11,[],[]),(12,[],[]),(13,[],[]),(14,[],[10,11,12,13]),(15,[],[])] [0,0,2,6,0,16,63,0,128,384,896,1920,3968,8064,1023,32767] ?_;iterate 16 refine W0 ?_ (e:=fun _ h_=>by simp only[sH,↓sP,sA,tyS,simprocAttr,cU1,Int.toNat_zero,Int.toNat_one,List.length_cons,List.length_map,List.drop_succ_cons,List.drop_zero,Nat.add_sub_cancel,htf,hkf];exact AX h_)
     refine T2 (hK _ _ _ ?_);clear hK K;refine dX 0 2 44 32 rfl rfl rfl rfl ?_;refine aH (RT Tryz.results96 ?_);refine⟨rfl,?_⟩;first|(refine hno 412 (by rw[hlr,hkn];rfl) ?_ ?_<;>rfl)|(refine hno 80 (by unfold fM;rw[hns]) ?_ ?_<;>rfl)|(refine hok 504 ?_ ?_ ?_ ?_;rotate_left 2;rfl;rfl;(cases f<;>simp[hk1]<;>omega))
    have hne:kw.2≠wd w 0:=by intro e;rw[e]at hb;simp at hb
    clear hb;refine aM (T3 ?_);refine⟨⟨s.push j,fun i hi hc=>?_⟩,(aO (by omega) (by simp[aX,fin_at,finA_at,upd_at,HV.men,HV.menL,HV.norm,HV.toC,HV.toCL,yL,oY]) (by simp[aY,fob_at,upd_at,none0_at,bO,HO.men,HV.men,HV.menL,HV.norm,HV.toC,HV.toCL,yL,oY])),aR5 hj hsj⟩;by_cases e:i=j
    · subst e;rw[←hkw];exact hne
    refine hs i hi ?_;simp[Array.mem_push,e]at hc;simpa using hc
   have ho':o=none:=by cases o with|none=>rfl|some j=>cases hb
   subst ho';have hkn:lX (wd w 0)=none:=bN1 fun j hj=>hs j hj (ho j hj);refine aZ (T3 ?_);clear hK K;refine AX (hK _ _ _ ?_);clear hK K;refine R0 ?_;refine dX 0 2 44 32 rfl rfl rfl rfl ?_;refine aH (RT Tryz.results96 ?_);refine⟨rfl,?_⟩;first|(refine hno 412 (by rw[hlr,hkn];rfl) ?_ ?_<;>rfl)|(refine hno 80 (by unfold fM;rw[hns]) ?_ ?_<;>rfl)|(refine hok 504 ?_ ?_ ?_ ?_;rotate_left 2;rfl;rfl;(cases f<;>simp[hk1]<;>omega))
  refine bD2 ?_;refine cE4 (l:=wlK) (by kernel_rfl) rfl rfl rfl rfl rfl rfl rfl (fun hdone=>?_) (fun j hj hsj=>?_)
  · refine aP9 (g:=none) (by kernel_rfl) rfl rfl fun K' hK'=>T5 ?_;refine AX (hK' _ _ ?_);refine xR rfl (key none _ _ _ (fun j hj=>hdone j hj) (aO (by omega) (by simp[aX,fin_at,finA_at,upd_at,HV.men,HV.menL,HV.norm,HV.toC,HV.toCL,yL,oY]) (by simp[aY,fob_at,upd_at,none0_at,bO,HO.men,HV.men,HV.menL,HV.norm,HV.toC,HV.toCL,yL,oY])))
  · refine aP9 (g:=none) (by kernel_rfl) rfl rfl fun K' hK'=>T5 ?_;refine AX (hK' _ _ ?_);refine xR rfl (key (some j) _ _ _ ⟨hj,hsj⟩ (aO (by omega) (by simp[aX,fin_at,finA_at,upd_at,HV.men,HV.menL,HV.norm,HV.toC,HV.toCL,yL,oY]) (by simp[aY,fob_at,upd_at,none0_at,bO,HO.men,HV.men,HV.menL,HV.norm,HV.toC,HV.toCL,yL,oY])))
 have hs':(fG (w.drop 1)).isSome=false:=by simpa using hs
 have hns:fG (w.drop 1)=none:=by simpa using hs'
 refine aC fun K hK=>Rg ?_;have F:=hs';iterate 7 refine SF ?_
 refine T2 (hK _ _ _ ?_);clear hK K;refine CT rfl ?_;refine R0 ?_;refine dX 0 2 44 32 rfl rfl rfl rfl ?_;refine aH (RT Tryz.results96 ?_);refine⟨rfl,?_⟩;first|(refine hno 412 (by rw[hlr,hkn];rfl) ?_ ?_<;>rfl)|(refine hno 80 (by unfold fM;rw[hns]) ?_ ?_<;>rfl)|(refine hok 504 ?_ ?_ ?_ ?_;rotate_left 2;rfl;rfl;(cases f<;>simp[hk1]<;>omega))
end Go.Proofs.YthedbjfipmkpiaaGreatDoor
namespace Go.Hl
open Go
def mvN (id d:Nat):Nat→Nat:=fun i=>if i=id then d else i
def mvF (id d:Nat)(fr:Fr):Fr:=fun t=>(fr t).ren (mvN id d)
def mvO (id d:Nat)(ob:Ob):Ob:=fun i=>if i=d then(ob id).map (HO.ren (mvN id d))else if i=id then none else(ob i).map (HO.ren (mvN id d))
section
variable {P:Program}{n k:Nat}{Q:eF}{fr:Fr}{ob:Ob}{nx:Nat}
theorem RepA.mv {c:Ctx}{a:Act}{w:World}{M:Nat→Prop}(hA:RepA c M fr ob a w)(hk':c.M0=(· <k))(id d nx2:Nat)(hk:k≤id)(hkd:k≤d)(hid:M id)(hM: ∀i,M i→i<nx2∧i≠d)(hd:d<nx2):RepA c (· <nx2) (mvF id d fr) (mvO id d ob) a w:=by
 obtain⟨ρ,hA⟩:=hA;have hne:id≠d:=(hM id hid).2
 let ρ2:Env:=fun i=>if i=d then ρ id else if i=id then none else ρ i
 have hm: ∀i,M i→ρ2 (mvN id d i)=ρ i:=fun i hi=>by
  have:=hM i hi;simp only[ρ2,mvN];grind
 have hinv: ∀i L,ρ2 i=some L→ ∃j,M j∧mvN id d j=i∧ρ j=some L:=fun i L hL=>by
  simp only[ρ2]at hL;split at hL
  · grind[mvN]
  ·
   split at hL
   · grind
   ·
    rename_i e1 e2;refine⟨i,?_,by simp[mvN,e2],hL⟩;by_cases h1:M i
    · exact h1
    · have:=(hA.nid_none (nid:=i) h1).2;grind
 have hown: ∀b,Own ρ2 b→Own ρ b:=fun b ⟨i,L,h1,h2⟩=>let⟨j,_,_,h3⟩:=hinv i L h1;⟨j,L,h3,h2⟩;have hst:Stay w (Owned ρ c.X) w (Owned ρ2 c.X):=Stay.same (fun b _ hb=>hb.imp _root_.id (hown b));have hmv:Moves M ρ (fun i=>ρ2 (mvN id d i)):=Moves.of_eq fun i hi=>hm i hi;have hobj: ∀i o,mvO id d ob i=some o→ ∃j o',M j∧mvN id d j=i∧ob j=some o'∧o=o'.ren (mvN id d):=fun i o ho=>by
  simp only[mvO]at ho;split at ho
  · grind[Option.map_eq_some_iff,mvN]
  ·
   split at ho
   · grind
   · rename_i e1 e2;obtain⟨o',h1,h2⟩:=Option.map_eq_some_iff.1 ho;exact⟨i,o',(hA.mo i o' h1).1,by simp[mvN,e2],h1,h2.symm⟩
 have hmen: ∀i,M i→mvN id d i<nx2:=fun i hi=>by
  have:=hM i hi;grind[mvN]
 refine⟨ρ2,⟨fun i o ho=>?_,fun i hi=>?_,fun i i' L L' b h1 h2 h3 h4=>?_,fun i L b h1 h2=>?_⟩,fun t ht=>?_,fun t=>?_,fun i o ho=>?_,fun i hi=>?_,?_,?_,hA.defers,hA.size,hA.xlt⟩
 · obtain⟨j,o',hj,rfl,h1,rfl⟩:=hobj i o ho;exact RepO.unsub hst hmv (hA.mo j o' h1).2 (hm j hj) (hA.s.objs j o' h1)
 ·
  simp only[mvO]at hi;simp only[ρ2];split at hi
  · rename_i e;rw[if_pos e];exact hA.s.none id (by simp_all)
  ·
   rename_i e;rw[if_neg e];split at hi
   · grind
   · rename_i e2;rw[if_neg e2];exact hA.s.none i (by simp_all)
 · obtain⟨j,_,rfl,e1⟩:=hinv i L h1;obtain⟨j',_,rfl,e2⟩:=hinv i' L' h2;rw[hA.s.apart j j' L L' b e1 e2 h3 h4]
 · obtain⟨j,_,rfl,e1⟩:=hinv i L h1;exact hA.s.xb j L b e1 h2
 ·
  have hj:fr t≠ .junk:=by intro e;apply ht;simp only[mvF,e,HV.ren]
  have hf:=hA.f t hj;exact⟨jZ.2 (RepH.stay hst hmv (hA.mf t) hf.1),by simp only[mvF,HV.ren_isAgg];exact hf.2⟩
 · exact men_ren.2 (HV.men_mono hmen (hA.mf t))
 · obtain⟨j,o',hj,rfl,h1,rfl⟩:=hobj i o ho;exact⟨hmen j hj,HO.men_ren.2 (HO.men_mono hmen (hA.mo j o' h1).2)⟩
 · exact(hM i (hA.m0 i hi)).1
 · exact hA.base.trans ⟨fun _ _ _=>rfl,fun b hb=> .inl (hown b hb),Nat.le_refl _,rfl,rfl,rfl⟩
 ·
  refine Moves.trans (M':=c.M0) (fun i hi=>hi) hA.moves fun i L hi hL=>⟨L,?_,.inl rfl⟩;rw[hk']at hi;have h1:i<k:=hi;simp only[ρ2]at hL
  rwa [if_neg (by omega),if_neg (by omega)]at hL
theorem bF1 {M:Nat→Prop}: ∀{l:List (Nat×HV)},(∀p∈l,p.2.men M)→ ∀t,(fin l t).men M
 |[],_,t=>by simp[fin,HV.men]
 |(t',v)::l,h,t=>by
  by_cases ht:t=t'
  · subst ht;simp only[fin,aT];exact h (t,v) (by simp)
  · simp only[fin,aW _ _ ht];exact bF1 (fun p hp=>h p (by simp[hp])) t
theorem bF2 {M N:Nat→Prop}: ∀{l:List (Nat×HO)},(∀p∈l,N p.1∧p.2.men M)→ ∀t o,fob l t=some o→N t∧o.men M
 |[],_,t,o,ho=>by simp[fob]at ho
 |(t',v)::l,h,t,o,ho=>by
  by_cases ht:t=t'
  · subst ht;simp only[fob,aT]at ho;cases ho;exact h (t,v) (by simp)
  · simp only[fob,aW _ _ ht]at ho;exact bF2 (fun p hp=>h p (by simp[hp])) t o ho
theorem cP0 {code:Code}(id d nx2:Nat)(l:List (Nat×HV))(h:List (Nat×HO))(h1:aX nx fr l)(h2:aY nx ob h)(hk0:k≤nx)(hk:k≤id)(hkd:k≤d)(hid:id<nx)(hne:id≠d)(hnx:nx≤nx2)(hd:d<nx2)
  (hl: ∀p∈l,p.2.men fun i=>i<nx∧i≠d) (hh: ∀p∈h,(p.1<nx∧p.1≠d)∧p.2.men fun i=>i<nx∧i≠d) (hw:Hw P n k code Q (mvF id d (fin l)) (mvO id d (fob h)) nx2):Hw P n k code Q fr ob nx:=by
 intro c a w hn hk' hz hA;refine hw c a w hn hk' hz ?_;obtain⟨ρ,hB⟩:=hA.fits hk' (aO hk0 h1 h2);refine RepA.mv (M:=fun i=>i<nx∧i≠d) ⟨ρ,hB.s,hB.f,bF1 hl,bF2 (N:=fun i=>i<nx∧i≠d) hh,fun i hi=>?_,hB.base,hB.moves,hB.defers,hB.size,hB.xlt⟩ hk' id d nx2 hk hkd ⟨hid,hne⟩ (fun i hi=>⟨by omega,hi.2⟩) hd;rw[hk']at hi;have:i<k:=hi;omega
end
end Go.Hl
namespace Go.Pl
open Go Go.Hl
def iO (ws:List (List aL)):Option (List Ln):=ws.foldlM eV []
theorem qG (ls:List (List aL)):gT ls=(iF ls).bind fun d=>(iO (ls.drop 2)).map fun l=>{d with l:=l}:=rfl
theorem aF1 :iO []=some []:=rfl
theorem oZ (a b:List (List aL)):iO (a++b)=(iO a).bind fun l=>b.foldlM eV l:=by
 unfold iO;rw[List.foldlM_append];rfl
variable {l:List Ln}{i:Nat}{ws:List (List aL)}
theorem kK (h:i<ws.length)(hl:iO (ws.take i)=some l):iO (ws.take (i+1))=eV l ws[i]:=by
 rw[List.take_succ_eq_append_getElem h,oZ,hl];show([ws[i]].foldlM eV l)=_;simp only[List.foldlM_cons,List.foldlM_nil];cases eV l ws[i]<;>rfl
theorem kL (h:i<ws.length)(hl:iO (ws.take i)=some l)(hn:eV l ws[i]=none):iO ws=none:=by
 have e:ws=ws.take (i+1)++ws.drop (i+1):=(List.take_append_drop _ _).symm;rw[e,oZ,kK h hl,hn];rfl
variable {n:Nat}{w:List aL}{ls:List Ln}
theorem bY5 (h:bM5 ls w=some l)(h1:ls.length≤n)(h2: ∀x∈ls,x.d.length≤n):l.length≤n∧ ∀x∈l,x.d.length≤n+1:=by
 unfold bM5 at h;cases hx:ls.getLast? with
 |none=>rw[hx]at h;cases h
 |some x=>
  rw[hx]at h;have hm:=List.mem_of_getLast? hx;have hp:0<ls.length:=List.length_pos_of_mem hm;dsimp only at h;split at h
  ·
   cases hd:gL (wd w 1)with
   |none=>rw[hd]at h;cases h
   |some d=>
    rw[hd]at h;obtain rfl:=Option.some.inj h;refine⟨by simp;omega,fun y hy=>?_⟩;rcases List.mem_append.1 hy with hy|hy
    · exact Nat.le_succ_of_le (h2 y (List.dropLast_subset _ hy))
    · rw[List.mem_singleton.1 hy];have:=h2 x hm;simp[vU];omega
  · cases h
variable {x:Ln}
theorem cH2 (h:fM w=some x):x.d=[]:=by
 unfold fM at h;split at h
 ·
  rename_i n f _;cases hk:lX (wd w 0)with
  |none=>rw[hk]at h;cases h
  |some k=>
   rw[hk]at h;simp only[Option.bind_some]at h;split at h
   · cases h
   · obtain rfl:=Option.some.inj h;rfl
 · cases h
theorem bN3 (h:eV ls w=some l)(h1:ls.length≤n)(h2: ∀x∈ls,x.d.length≤n):l.length≤n+1∧ ∀x∈l,x.d.length≤n+1:=by
 unfold eV at h;split at h
 · have:=bY5 h h1 h2;exact⟨by omega,this.2⟩
 ·
  cases hx:fM w with
  |none=>rw[hx]at h;cases h
  |some x=>
   rw[hx]at h;obtain rfl:=Option.some.inj h;refine⟨by simp;omega,fun y hy=>?_⟩;rcases List.mem_append.1 hy with hy|hy
   · exact Nat.le_succ_of_le (h2 y hy)
   · rw[List.mem_singleton.1 hy,cH2 hx];simp
theorem uB {ws:List (List aL)}: ∀{i:Nat} {l:List Ln},i≤ws.length→iO (ws.take i)=some l→l.length≤i∧ ∀x∈l,x.d.length≤i
 |0,l,_,h=>by
  rw[List.take_zero,aF1]at h;obtain rfl:=Option.some.inj h;simp
 |i+1,l,hi,h=>by
  cases hp:iO (ws.take i)with
  |none=>
   have e:ws.take (i+1)=ws.take i++[ws[i]]:=List.take_succ_eq_append_getElem (by omega);rw[e,oZ,hp]at h;cases h
  |some m=>
   have hm:=uB (i:=i) (by omega) hp;rw[kK (by omega) hp]at h;exact bN3 h hm.1 hm.2
theorem yM (hw:wd w 0≠wDoc):eV l w=(fM w).map fun x=>l++[x]:=if_neg hw
theorem aR6 (hw:wd w 0=wDoc):eV [] w=none:=by unfold eV;rw[if_pos hw];rfl
theorem aF2 (hw:wd w 0=wDoc):eV (l++[x]) w=if x.k=1∧w.length=2 then(gL (wd w 1)).map fun d=>l++[vU x d]else none:=by
 unfold eV bM5;rw[if_pos hw];simp
theorem oE (hw:wd w 0=wDoc)(h:x.k≠1∨w.length≠2∨(gL (wd w 1)).isSome=false):eV (l++[x]) w=none:=by
 rw[aF2 hw];split
 ·
  rename_i hc;rcases h with h|h|h
  · exact absurd hc.1 h
  · exact absurd hc.2 h
  ·
   cases hd:gL (wd w 1)with
   |none=>rfl
   |some d=>rw[hd]at h;cases h
 · rfl
theorem aR7 {d:Dig}(hw:wd w 0=wDoc)(h1:x.k=1)(h2:w.length=2)(hd:gL (wd w 1)=some d):eV (l++[x]) w=some (l++[vU x d]):=by
 rw[aF2 hw,if_pos ⟨h1,h2⟩,hd];rfl
end Go.Pl
