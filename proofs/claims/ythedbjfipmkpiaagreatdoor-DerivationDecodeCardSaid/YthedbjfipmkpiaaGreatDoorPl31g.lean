/- Part of a proof: walks of functions of the program, by contracts, and the rules they use. By an AI agent. -/
import Derived.Test.YthedbjfipmkpiaaGreatDoorPl02g
import Derived.Test.YthedbjfipmkpiaaGreatDoorHlFl
import Derived.Test.YthedbjfipmkpiaaGreatDoorHdSb
import Derived.Test.YthedbjfipmkpiaaGreatDoorHdFm
import Derived.Test.YthedbjfipmkpiaaGreatDoorPl18e
set_option linter.unusedSimpArgs false
set_option linter.unusedVariables false
set_option linter.defProp false
namespace Go.Proofs.YthedbjfipmkpiaaGreatDoor
open Go Go.Hl Go.Pl
set_option maxRecDepth 10000
set_option maxHeartbeats 16000000
theorem cJ5 (s p:aG):cJ Tryz.prog 170 [.str s,.str p] (fun v=>v= .bool (prefB s p)):=by
 refine FW Tryz.func170 ?_;refine R0 ?_;refine aB fun K hK=>Rg ?_;have F:=aI @Int.natCast_nonneg (aI @Int.ofNat_le (aI @List.drop_zero.{0} @Nat.sub_zero));iterate 6 refine SF ?_
 refine aL 9 rfl (fun h1_9=>?_) (fun h1_9=>?_)
 ·
  have F:=aI @Int.natCast_nonneg (aI @Int.ofNat_le (aI @List.drop_zero.{0} (aI @Nat.sub_zero h1_9)));iterate 3 refine SF ?_
  refine aE (g:=some (10,true)) rfl rfl fun K' hK'=>T6 ?_;refine⟨by simp at h1_9;omega,?_⟩;refine AX (hK' _ _ ?_);clear hK' K';iterate 4 refine SF ?_
  refine T2 (hK _ _ _ ?_);clear hK K;refine aF (RT Tryz.results170 ?_);have hle:p.length≤s.length:=by simp at h1_9;omega
  exact aJ [] (.bool (s.take p.length==p)) rfl (by unfold prefB;rw[show decide (p.length≤s.length)=true from by simpa using hle];rfl)
 have F:=aI @Int.natCast_nonneg (aI @Int.ofNat_le (aI @List.drop_zero.{0} (aI @Nat.sub_zero h1_9)));iterate 8 refine SF ?_
 refine T2 (hK _ _ _ ?_);clear hK K;refine aF (RT Tryz.results170 ?_);have hle: ¬p.length≤s.length:=by simp at h1_9;omega
 exact aJ [] (.bool false) rfl (by unfold prefB;rw[show decide (p.length≤s.length)=false from by simpa using hle];rfl)
theorem cJ6 (s p:aG):eU Tryz.prog 152 [.str s,.str p] (fun u v=>u= .str (if prefB s p then s.drop p.length else s)∧v= .bool (prefB s p)):=by
 refine FW Tryz.func152 ?_;refine R0 ?_;refine aB fun K hK=>?_;refine aB fun K hK=>Rg ?_;iterate 2 refine S0 ?_
 refine HS rfl rfl fun K' hK'=>T5 ?_;refine C2 (cJ5 s p) ?_;rintro u rfl;refine AX (hK' _ _ ?_);clear hK' K';refine S0 ?_;refine T2 (hK _ _ _ ?_);clear hK K;refine aH (b:=!(prefB s p)) rfl (fun hb=>?_) (fun hb=>?_)
 ·
  refine R0 ?_;refine aF (RT Tryz.results152 ?_);have hp:prefB s p=false:=by simpa using hb
  exact aR [] (.str s) (.bool false) rfl ⟨by rw[hp];rfl,by rw[hp]⟩
 refine aK ?_;refine T0 (hK _ _ _ ?_);clear hK K;have hp:prefB s p=true:=by simpa using hb
 have hle:p.length≤s.length:=by
  unfold prefB at hp;simp only[Bool.and_eq_true,decide_eq_true_eq]at hp;exact hp.1
 have htd:List.take (s.length-p.length) (List.drop p.length s)=List.drop p.length s:=List.take_of_length_le (by simp);refine aB fun K hK=>Rg ?_;have F:=aI @Int.natCast_nonneg (aI @Int.ofNat_le (aI hle htd));iterate 6 refine SF ?_
 refine T2 (hK _ _ _ ?_);clear hK K;refine aF (RT Tryz.results152 ?_);exact aR [] (.str (s.drop p.length)) (.bool true) rfl ⟨by rw[hp];rfl,by rw[hp]⟩
theorem cA0 (s p:aG):eU Tryz.prog 126 [.str s,.str p] (fun u v=>u= .str (if prefB s p then s.drop p.length else s)∧v= .bool (prefB s p)):=by
 refine FW Tryz.func126 ?_;refine R0 ?_;refine aB fun K hK=>Rg ?_;iterate 2 refine S0 ?_
 refine HS rfl rfl fun K' hK'=>T5 ?_;refine D2 (cJ6 s p) ?_;rintro u v ⟨rfl,rfl⟩;refine AX (hK' _ _ ?_);clear hK' K';iterate 4 refine S0 ?_
 refine T2 (hK _ _ _ ?_);clear hK K;refine aF (RT Tryz.results126 ?_);exact aR [] _ _ rfl ⟨rfl,rfl⟩
theorem cA1 (s:aG)(n:Nat)(T:TypeId)(l0:List UInt8)(h0:l0.length=n)(hn1:1<n)(hn2:n<1000)(hs:s.length<2^40):
  cN5 Tryz.prog 127 [.str s] n T l0 (fun u l'=>u= .bool (cW s n).isSome∧l'.length=n∧ ∀w,cW s n=some w→l'=w):=by
 refine cI Tryz.func127 rfl (by kernel_rfl) (zE [_] _ _ _) (Nat.le_of_ble_eq_true rfl) ?_;refine R0 ?_;refine aB fun K hK=>?_;have hw2:IntKind.i64.wrap (2*(n:Int))=((2*n:Nat):Int):=by rw[IntWalk.i64_in _ (by omega)];omega
 have hln:(List.take n (l0.map u8)).length=n:=by simp[h0]
 refine aB fun K hK=>Rg ?_;have F:=aI h0 (aI @bX9 (aI @List.length_map.{0,0} (aI @Nat.zero_le (aI @Nat.le_refl (aI @List.drop_zero.{0} (aI @Nat.sub_zero (aI hln hw2)))))));iterate 6 refine SF ?_
 refine T2 (hK _ _ _ ?_);clear hK K;refine aH (b:=(s.length:Int) !=((2*n:Nat):Int)) rfl (fun hb=>?_) (fun hb=>?_)
 · refine R0 ?_;refine aF (RT Tryz.results127 ?_);have hv:cW s n=none:=qX (by simp at hb;omega);exact pL (.bool false) rfl rfl ⟨by rw[hv];rfl,h0,fun w hw=>by rw[hv]at hw;cases hw⟩
 refine aK ?_;refine T0 (hK _ _ _ ?_);clear hK K;refine aB fun K hK=>?_;have hlen:s.length=2*n:=by simp at hb;omega
 clear hb;have F:=aI h0 (aI @bX9 (aI @List.length_map.{0,0} (aI @Nat.zero_le (aI @Nat.le_refl (aI @List.drop_zero.{0} (aI @Nat.sub_zero hln))))));refine RF ?_;refine aN ?_;refine bF (α:={y:Nat×List UInt8//UhSt s n y.1 y.2}) (fun y=>(fin [(0,.c (.str s)),(1,.osl 0 n 0 1 n),(15,.c (.int .i64 n)),(16,.c (.int .i64 y.1.1))],fob [(0,.box T (.c (.agg (y.1.2.map u8))))])) 100 (fun y=>n-y.1.1) ⟨(0,l0),UhSt.init s h0⟩ (fF) ?_;rintro⟨⟨i,l⟩,hst⟩;simp only at hst;have hi:=hst.2.1;have hll:=hst.1;refine R0 ?_;refine aB fun K hK=>?_;refine aH (b:=decide ((i:Int)<(n:Int))) rfl (fun hb=>?_) (fun hb=>?_)
 ·
  have hlt:i<n:=by simp at hb;omega
  clear hb;have hv2:IntKind.i64.wrap (2*(i:Int))=((2*i:Nat):Int):=by rw[IntWalk.i64_in _ (by omega)];omega
  have hv3:IntKind.i64.wrap (((2*i:Nat):Int)+1)=((2*i+1:Nat):Int):=by rw[IntWalk.i64_in _ (by omega)];rfl
  have hgx:s.getD (2*i) 0=hX s i:=rfl;have hgy:s.getD (2*i+1) 0=hY s i:=rfl;have hl1:2*i<s.length:=by omega
  have hl2:2*i+1<s.length:=by omega
  refine aK ?_;refine T0 (hK _ _ _ ?_);clear hK K;refine aB fun K hK=>?_;refine aN ?_;refine R0 ?_;refine aB fun K hK=>DW [(0,[],[]),(1,[],[]),(2,[],[]),(3,[],[]),(5,[],[]),(6,[],[]),(7,[],[]),(8,[],[]),(9,[],[]),(4,[],[5,6,7,8,9]),(10,[],[]),(11,[],[]),(12,[],[])] [0,0,2,7,15,0,0,64,192,480,1023,2047,4095] ?_;have F:=aI @Int.natCast_nonneg (aI @Int.ofNat_lt (aI hv2 (aI hv3 (aI hgx (aI hgy (aI hl1 hl2))))));iterate 9 refine WF ?_
  refine bL (g:=none) rfl rfl fun K' hK'=>T6 ?_;refine C2 (tK bF1 (hX s i)) ?_;rintro u rfl;refine AX (hK' _ _ ?_);clear hK' K';refine bL (g:=none) rfl rfl fun K' hK'=>T6 ?_;refine C2 (tK bF1 (hY s i)) ?_;rintro u rfl;refine AX (hK' _ _ ?_);clear hK' K';iterate 2 refine WF ?_
  refine T2 (hK _ _ _ ?_);clear hK K;refine aB fun K hK=>?_;by_cases hx:valL (hX s i)<16
  ·
   by_cases hy:valL (hY s i)<16
   ·
    rw[oR,oR,if_pos hx,if_pos hy];have hx0:decide (((valL (hX s i):Nat):Int)<0)=false:=by simp
    have hy0:decide (((valL (hY s i):Nat):Int)<0)=false:=by simp
    have e1:IntKind.i64.wrap (16*((valL (hX s i):Nat):Int))=((16*valL (hX s i):Nat):Int):=by rw[IntWalk.i64_in _ (by omega)];omega
    have e2:IntKind.i64.wrap (((16*valL (hX s i):Nat):Int)+((valL (hY s i):Nat):Int))=((16*valL (hX s i)+valL (hY s i):Nat):Int):=by rw[IntWalk.i64_in _ (by omega)];omega
    have e3:IntKind.u8.wrap ((16*valL (hX s i)+valL (hY s i):Nat):Int)=((hB s i).toNat:Int):=by rw[IntWalk.u8_in _ (by omega),bX8 hx hy]
    have hil:i<l.length:=by omega
    have hl1':l.length≠1:=by omega
    refine aB fun K hK=>Rg ?_;have F:=aI hx0 hy0;iterate 6 refine SF ?_
    refine T2 (hK _ _ _ ?_);clear hK K;refine CF rfl ?_;refine aK ?_;refine T0 (hK _ _ _ ?_);clear hK K;refine Rg ?_;iterate 9 refine S0 ?_ (e:=fun _ h_=>by simp only[sH,↓sP,sA,tyS,simprocAttr,e1,e2,e3,Int.natCast_nonneg,Int.ofNat_lt,Nat.le_refl,Nat.sub_zero,Nat.zero_add,Nat.mul_one,hlt,vA,bM6,hil,hl1',and_false,aJ3];exact AX h_)
    refine T2 (hK _ _ _ ?_);clear hK K;refine aD (by kernel_rfl) ?_;refine TQ (fA i) ?_;refine⟨⟨(i+1,l.set i (hB s i)),hst.next hlt (by simp[hOk,hx,hy])⟩,fF,?_⟩;show n-(i+1)<n-i;omega
   rw[oR,oR,if_pos hx,if_neg hy];have hx0:decide (((valL (hX s i):Nat):Int)<0)=false:=by simp
   refine aB fun K hK=>Rg ?_;have F:=hx0;iterate 6 refine SF ?_
   refine T2 (hK _ _ _ ?_);clear hK K;refine CT rfl ?_;refine R0 ?_;refine aF (RT Tryz.results127 ?_);have hv:=hst.bad hlt (by simp[hOk,hx,hy]);exact pL (.bool false) rfl rfl ⟨by rw[hv];rfl,hll,fun w hw=>by rw[hv]at hw;cases hw⟩
  rw[oR,if_neg hx];refine aB fun K hK=>Rg ?_;iterate 6 refine S0 ?_
  refine T2 (hK _ _ _ ?_);clear hK K;refine CT rfl ?_;refine R0 ?_;refine aF (RT Tryz.results127 ?_);have hv:=hst.bad hlt (by simp[hOk,hx]);exact pL (.bool false) rfl rfl ⟨by rw[hv];rfl,hll,fun w hw=>by rw[hv]at hw;cases hw⟩
 refine bA (T3 ?_);clear hK K;refine AX (hK _ _ _ ?_);clear hK K;refine R0 ?_;refine aF (RT Tryz.results127 ?_);have hin:i=n:=by simp at hb;omega
 subst hin;have hv:=hst.fin hlen;exact pL (.bool true) rfl rfl ⟨by rw[hv];rfl,hll,fun w hw=>by rw[hv]at hw;cases hw;rfl⟩
theorem pM (s:aG)(hs:s.length<2^40):eU Tryz.prog 97 [.str s] (fun u v=>u=dg ((eK s).getD zdg)∧v= .bool (eK s).isSome):=by
 refine FW Tryz.func97 ?_;refine R0 ?_;refine R0 ?_;refine aB fun K hK=>Rg ?_;refine S0 ?_;refine HS rfl rfl fun K' hK'=>T5 ?_;refine D2 (cA0 s shaW) ?_;rintro u v ⟨rfl,rfl⟩;refine AX (hK' _ _ ?_);clear hK' K';iterate 5 refine S0 ?_
 refine T2 (hK _ _ _ ?_);clear hK K;refine aB fun K hK=>?_;by_cases hp:prefB s shaW=true
 ·
  rw[hp,if_pos rfl,show shaW.length=7 from rfl];refine aB fun K hK=>Rg ?_;iterate 5 refine S0 ?_
  refine aE (g:=some (14,false)) rfl rfl fun K' hK'=>T5 ?_;refine bN7 (args:=[_]) (cA1 (s.drop 7) 32 44 (List.replicate 32 0) (by simp) (by omega) (by omega) (by rw[List.length_drop];omega)) rfl (by simp) ⟨rfl,rfl,rfl,rfl⟩ ?_;rintro u l' ⟨rfl,hll,hw⟩;refine AX (hK' _ _ ?_);clear hK' K';iterate 2 refine S0 ?_
  refine T2 (hK _ _ _ ?_);clear hK K;refine aH (b:=!(cW (s.drop 7) 32).isSome) rfl (fun hb=>?_) (fun hb=>?_)
  · have F:=aI @aF3 (aI @dg_setAt (aI @bH (aI @bI (aI @dJ (aI @eP @oC)))));refine RF ?_;refine aF (RT Tryz.results97 ?_);have hn:eK s=none:=mH (fun _=>by simpa using hb);exact aR [] zd (.bool false) rfl ⟨by rw[hn];rfl,by rw[hn];rfl⟩
  refine aK ?_;refine T0 (hK _ _ _ ?_);clear hK K;obtain⟨l,hl⟩:=Option.isSome_iff_exists.1 (show(cW (s.drop 7) 32).isSome=true by simpa using hb);have:=hw l hl;subst this;have hv:=vB hp hl hll;have F:=aI @vA (aI hll @dg_setAt);refine RF ?_;refine aF (RT Tryz.results97 ?_);simp only[vA,hll,if_true,Option.map_some];refine aR [] (dg (⟨l',hll⟩:Dig)) (.bool true) ?_ ?_
  · simp[HV.close,HV.closeL,HV.norm,HV.toC,HV.toCL,CV.denil,denilL_u8];rfl
  exact⟨by rw[hv];rfl,by rw[hv];rfl⟩
 have hp':prefB s shaW=false:=by simpa using hp
 rw[hp',if_neg (by simp)];refine aB fun K hK=>Rg ?_;iterate 8 refine S0 ?_
 refine T2 (hK _ _ _ ?_);clear hK K;refine CT rfl ?_;have F:=aI @aF3 (aI @dg_setAt (aI @bH (aI @bI (aI @dJ (aI @eP @oC)))));refine RF ?_;refine aF (RT Tryz.results97 ?_);have hn:eK s=none:=mH (fun h=>absurd h hp);exact aR [] zd (.bool false) rfl ⟨by rw[hn];rfl,by rw[hn];rfl⟩
theorem lH (a b:List aG):eS (a++b)=(eS a).bind fun x=>(eS b).map (x++·):=by
 unfold eS;rw[List.mapM_append];cases List.mapM cP a with
 |none=>rfl
 |some x=>cases List.mapM cP b<;>rfl
theorem tM (w:aG):eS [w]=(cP w).map ([·]):=by
 unfold eS;simp only[List.mapM_cons,List.mapM_nil];cases cP w<;>rfl
variable {n:Int}{i:Nat}{l:List aG}
theorem bN8 (h:i<l.length){o:List Int}(ho:eS (l.take i)=some o)(hn:cP l[i]=some n):eS (l.take (i+1))=some (o++[n]):=by
 rw[List.take_succ_eq_append_getElem h,lH,ho,tM,hn];rfl
theorem aF9 (h:i<l.length)(hn:cP l[i]=none):eS l=none:=by
 have e:l=l.take i++([l[i]]++l.drop (i+1)):=by
  rw[List.singleton_append,List.getElem_cons_drop,List.take_append_drop]
 rw[e,lH,lH,tM,hn];cases eS (l.take i)<;>rfl
variable {b:Bool}
theorem cY7 (h:(!b)=false):b=true:=by cases b<;>simp_all
variable {ls:List (List aG)}
theorem eL (h:i<ls.length):nth (ls.map lsC) i= .slc ((wd' ls i).map .str):=by
 rw[bP h,wd',List.getD_eq_getElem?_getD,List.getElem?_eq_getElem h];rfl
theorem cV (h:i<l.length):nth (l.map .str) i= .str (wd l i):=by
 rw[bP h,wd,List.getD_eq_getElem?_getD,List.getElem?_eq_getElem h];rfl
theorem zF (l:List aG)(hl:l.length<2^38):eU Tryz.prog 125 [.slc (l.map .str)] (fun u v=>u= .slc (((eS l).getD []).map (CV.int .i64))∧v= .bool (eS l).isSome):=by
 refine FW Tryz.func125 ?_;refine R0 ?_;refine R0 ?_;refine aB fun K hK=>?_;refine R0 ?_;refine aN ?_;refine gQ 4 0 3 1 rfl rfl rfl rfl ?_;refine bF (α:={y:Nat×List Int//y.1≤l.length∧y.2.length=y.1∧eS (l.take y.1)=some y.2}) (fun y=>(fin [(4,.own 24 y.1.2.length),(9,.c (.slc (l.map .str))),(10,.c (.int .i64 l.length)),(11,.c (.int .i64 y.1.1))],fob [(24,.row 3 1 (y.1.2.map (CV.int .i64)))])) 100 (fun y=>l.length-y.1.1) ⟨(0,[]),by omega,rfl,rfl⟩ (fF) ?_;rintro⟨⟨i,o⟩,hi,ho,hno⟩;simp only at hi ho hno⊢;refine R0 ?_;refine aB fun K hK=>?_;refine aH (b:=decide ((i:Int)<l.length)) rfl (fun hb=>?_) (fun hb=>?_)
 ·
  have hlt:i<l.length:=by have:=of_decide_eq_true hb;omega
  have hm1:o.length+1≤maxLen:=by simp only[maxLen];omega
  have hm2:(o.length+1)*8≤140737488355328:=by omega
  clear hb;refine aK ?_;refine T0 (hK _ _ _ ?_);clear hK K;refine aB fun K hK=>?_;refine aN ?_;have F:=aI @Int.natCast_nonneg (aI @Int.ofNat_lt (aI hlt (nM hlt)));refine RF ?_;refine aB fun K hK=>Rg ?_;refine S0 ?_;refine HS rfl rfl fun K' hK'=>T5 ?_;refine D1 (cJ4 l[i]) ?_;rintro u v ⟨rfl,rfl⟩;refine AX (hK' _ _ ?_);clear hK' K';iterate 5 refine S0 ?_
  refine T2 (hK _ _ _ ?_);clear hK K;refine aB fun K hK=>?_;refine R0 ?_;refine aH (b:=!(cP l[i]).isSome) rfl (fun hb=>?_) (fun hb=>?_)
  ·
   refine R0 ?_;refine aF (RT Tryz.results125 ?_);have hn:cP l[i]=none:=by simpa using hb
   exact aR [] (.slc []) (.bool false) (by simp[HV.close,HV.closeL,CV.denil,CV.denilL,HV.norm,HV.toC,HV.toCL]) ⟨by rw[aF9 hlt hn];rfl,by rw[aF9 hlt hn];rfl⟩
  obtain⟨n,hn⟩:=Option.isSome_iff_exists.1 (cY7 hb);rw[hn];clear hb;refine aK ?_;refine T0 (hK _ _ _ ?_);clear hK K;refine Rg ?_;have F:=aI @List.length_map.{0,0} (aI hm1 (aI hm2 @Option.getD_some.{0}));iterate 5 refine SF ?_
  refine T2 (hK _ _ _ ?_);clear hK K;refine aD (by kernel_rfl) ?_;refine TQ (fA i) ?_;refine⟨⟨(i+1,o++[n]),by show i+1≤l.length;omega,by simp[ho],bN8 hlt hno hn⟩,(aM (by omega) (by simp[aW,fin_at,finA_at,upd_at,HV.men,HV.menL,HV.norm,HV.toC,HV.toCL,List.map_append,List.length_append]) (by simp[aX,fob_at,upd_at,none0_at,bT,HO.men,HV.men,HV.menL,HV.norm,HV.toC,HV.toCL,List.map_append,List.length_append])),?_⟩;show l.length-(i+1)<l.length-i;omega
 have hie:i=l.length:=by have:=of_decide_eq_false hb;omega
 subst hie;rw[List.take_length]at hno;refine bA (T3 ?_);clear hK K;refine AX (hK _ _ _ ?_);clear hK K;refine R0 ?_;refine aF (RT Tryz.results125 ?_);exact aR [24] (.slc (o.map (CV.int .i64))) (.bool true) (by simp[HV.close,HV.closeL,fob_at,upd_at,CV.denil,HV.norm,HV.toC,HV.toCL]) ⟨by rw[hno];rfl,by rw[hno];rfl⟩
theorem tN (a b:aG):eS [a,b]=(cP a).bind fun x=>(cP b).map fun y=>[x,y]:=by
 rw[show [a,b]=[a]++[b]from rfl,lH,tM,tM];cases cP a<;>cases cP b<;>rfl
theorem cV7 (x y:CV):nth [x,y] 0=x:=rfl
theorem cV8 (x y:CV):nth [x,y] 1=y:=rfl
theorem gL (h:(eK (wd (wd' ls 0) 3)).isSome=false∨(eK (wd (wd' ls 0) 5)).isSome=false∨(eK (wd (wd' ls 1) 1)).isSome=false∨(eS [wd (wd' ls 0) 4,wd (wd' ls 0) 6]).isSome=false):gO ls=none:=by
 unfold gO;split
 · rfl
 split
 · rename_i e1 e2 e3 e4 e5;rw[e1,e2,e3,tN,e4,e5]at h;simp at h
 rfl
theorem bQ (h:ls.length<2∨(wd' ls 0).length≠7∨wd (wd' ls 0) 0≠wDer∨(wd' ls 1).length≠4∨wd (wd' ls 1) 0≠wOrg):gO ls=none:=if_pos h
section
variable {q o:CV}{t r:Int}{p:Dig}
theorem fC (hq:q.cells=34)(ho:o.cells=34):HV.getAt 102 1 false (.c (.agg [q,.int .i64 t,dg p,.int .i64 r,o,.nils]))=some (.c .nils):=by
 simp[HV.getAt,CV.getAt,CV.getAtL,CV.cells,CV.cellsL,dg_cells,hq,ho]
theorem fD (hq:q.cells=34)(ho:o.cells=34)(y:HV):HV.setAt 102 1 y (.c (.agg [q,.int .i64 t,dg p,.int .i64 r,o,.nils]))=some (.agg [.c q,.c (.int .i64 t),.c (dg p),.c (.int .i64 r),.c o,y]):=by
 simp[HV.setAt,CV.setAt,CV.setAtL,CV.cells,CV.cellsL,dg_cells,hq,ho]
end
def cA2 (ls:List (List aG))(r:HV)(os':List HO):Prop:=
 ∃x:Dv,x.l=[]∧r= .tup [.agg [.c x.q.cv,.c (.int .i64 x.t),.c (dg x.p),.c (.int .i64 x.r),.c x.o.cv,.own 0 0],.c (.bool (gO ls).isSome)]∧os'=[.row 41 4 []]∧ ∀d,gO ls=some d→d=x
variable {r:HV}{ob:Ob}
theorem bF9 {x:Dv}{q o:CV}(N:Nat)(hl:x.l=[])(hr:r= .tup [.agg [.c q,.c (.int .i64 x.t),.c (dg x.p),.c (.int .i64 x.r),.c o,.own N 0],.c (.bool b)])(h0:ob N=some (.row 41 4 []))(hq:q.denil=x.q.cv)(ho:o.denil=x.o.cv)(h2:(gO ls).isSome=b)(h1: ∀d,gO ls=some d→d=x):
  iJ 0 r ob (fun r ob'=> ∃os',ob'=lst os'∧(0≤os'.length∧os'.length≤0+4)∧cA2 ls r os'):=by
 subst hr;refine iD [] [N] (.tup [.agg [.c x.q.cv,.c (.int .i64 x.t),.c (dg x.p),.c (.int .i64 x.r),.c x.o.cv,.own 0 0],.c (.bool b)]) [.row 41 4 []] ?_ (by simp[HV.men,HV.menL]) ⟨⟨by simp[HO.men],by simp,_,(by simpa[tau]using h0),rfl⟩,trivial⟩ rfl (by simp) (by simp) (by simp) ⟨x,hl,by rw[h2],rfl,h1⟩;simp[HV.close,HV.closeL,CV.denil,hq,ho,dg_denil,HV.norm,HV.toC,HV.toCL,HV.ren,HV.renL,tau]
theorem head_ok (ls:List (List aG))(hb: ∀l∈ls,∀w∈l,w.length<2^40):HGe Tryz.prog 95 [.c (.slc (ls.map lsC))] [] (cA2 ls):=by
 refine cI (args:=[.c (.slc (ls.map lsC))]) Tryz.func95 rfl (by kernel_rfl) (fP rfl (by simp[eH]) (by simp[HV.menL,HV.men])) (Nat.le_of_ble_eq_true rfl) ?_;show Hw _ _ 0 _ _ _ (lst _) 0;rw[bZ6];have hwb: ∀i j,(wd (wd' ls i) j).length<2^40:=fun i j=>by
  unfold wd wd';rw[List.getD_eq_getElem?_getD,List.getD_eq_getElem?_getD];rcases Nat.lt_or_ge i ls.length with h|h
  ·
   rw[List.getElem?_eq_getElem h];rcases Nat.lt_or_ge j ls[i].length with h'|h'
   · simp only[Option.getD_some,List.getElem?_eq_getElem h'];exact hb _ (List.getElem_mem h) _ (List.getElem_mem h')
   simp only[Option.getD_some,List.getElem?_eq_none h'];simp
  simp[List.getElem?_eq_none h]
 have hno: ∀{ob:Ob} {r:HV} (N:Nat),gO ls=none→r= .tup [.agg [.c (.agg [.str [],.str [],zd]),.c (.int .i64 0),.c zd,.c (.int .i64 0),.c (.agg [zd,.str [],.str []]),.own N 0],.c (.bool false)]→ob N=some (.row 41 4 [])→iJ 0 r ob (fun r ob'=> ∃os',ob'=lst os'∧(0≤os'.length∧os'.length≤0+4)∧cA2 ls r os'):=fun N h hr h0=>bF9 (x:=dv0) N rfl hr h0 rfl rfl (by rw[h];rfl) (fun d hd=>by rw[h]at hd;cases hd);clear hb;refine R0 ?_;refine aB fun K hK=>?_;by_cases h1:2≤ls.length
 ·
  by_cases h2:(wd' ls 0).length=7
  ·
   by_cases h3:wd (wd' ls 0) 0=wDer
   ·
    by_cases h4:(wd' ls 1).length=4
    ·
     by_cases h5:wd (wd' ls 1) 0=wOrg
     ·
      refine aB fun K hK=>Rg ?_;iterate 33 refine S0 ?_ (e:=fun _ h_=>by simp only[sH,↓sP,sA,tyS,simprocAttr,List.length_map,(decide_eq_false (by omega):decide ((ls.length:Int)<2)=false),eL (show 0<ls.length by omega),eL (show 1<ls.length by omega),Int.toNat_zero,h2,h4,cV (show 0<(wd' ls 0).length by omega),cV (show 0<(wd' ls 1).length by omega),h3,wDer,h5,wOrg];exact AX h_)
      refine T2 (hK _ _ _ ?_);clear hK K;refine CF rfl ?_;refine aK ?_;refine T0 (hK _ _ _ ?_);clear hK K;refine aB fun K hK=>Rg ?_;iterate 5 refine S0 ?_ (e:=fun _ h_=>by simp only[sH,↓sP,sA,tyS,simprocAttr,List.length_map,eL (show 0<ls.length by omega),Int.toNat_zero,h2,cV (show 3<(wd' ls 0).length by omega)];exact AX h_)
      refine HS rfl rfl fun K' hK'=>?_;simp only[sH,↓sP,sA,tyS,simprocAttr,List.length_map,eL (show 0<ls.length by omega),Int.toNat_zero,h2,cV (show 3<(wd' ls 0).length by omega)];refine D1 (pM (wd (wd' ls 0) 3) (hwb _ _)) ?_;rintro u v ⟨rfl,rfl⟩;refine AX (hK' _ _ ?_);clear hK' K';iterate 6 refine S0 ?_ (e:=fun _ h_=>by simp only[sH,↓sP,sA,tyS,simprocAttr,List.length_map,eL (show 0<ls.length by omega),Int.toNat_zero,h2,cV (show 3<(wd' ls 0).length by omega)];exact AX h_)
      refine T2 (hK _ _ _ ?_);clear hK K;refine aB fun K hK=>Rg ?_;iterate 5 refine S0 ?_ (e:=fun _ h_=>by simp only[sH,↓sP,sA,tyS,simprocAttr,List.length_map,eL (show 0<ls.length by omega),Int.toNat_zero,h2,cV (show 5<(wd' ls 0).length by omega)];exact AX h_)
      refine HS rfl rfl fun K' hK'=>?_;simp only[sH,↓sP,sA,tyS,simprocAttr,List.length_map,eL (show 0<ls.length by omega),Int.toNat_zero,h2,cV (show 5<(wd' ls 0).length by omega)];refine D1 (pM (wd (wd' ls 0) 5) (hwb _ _)) ?_;rintro u v ⟨rfl,rfl⟩;refine AX (hK' _ _ ?_);clear hK' K';iterate 6 refine S0 ?_ (e:=fun _ h_=>by simp only[sH,↓sP,sA,tyS,simprocAttr,List.length_map,eL (show 0<ls.length by omega),Int.toNat_zero,h2,cV (show 5<(wd' ls 0).length by omega)];exact AX h_)
      refine T2 (hK _ _ _ ?_);clear hK K;refine aB fun K hK=>Rg ?_;iterate 5 refine S0 ?_ (e:=fun _ h_=>by simp only[sH,↓sP,sA,tyS,simprocAttr,List.length_map,eL (show 1<ls.length by omega),Int.toNat_zero,h4,cV (show 1<(wd' ls 1).length by omega)];exact AX h_)
      refine HS rfl rfl fun K' hK'=>?_;simp only[sH,↓sP,sA,tyS,simprocAttr,List.length_map,eL (show 1<ls.length by omega),Int.toNat_zero,h4,cV (show 1<(wd' ls 1).length by omega)];refine D1 (pM (wd (wd' ls 1) 1) (hwb _ _)) ?_;rintro u v ⟨rfl,rfl⟩;refine AX (hK' _ _ ?_);clear hK' K';iterate 6 refine S0 ?_ (e:=fun _ h_=>by simp only[sH,↓sP,sA,tyS,simprocAttr,List.length_map,eL (show 1<ls.length by omega),Int.toNat_zero,h4,cV (show 1<(wd' ls 1).length by omega)];exact AX h_)
      refine T2 (hK _ _ _ ?_);clear hK K;refine aB fun K hK=>dM mixed [(0,[],[]),(1,[],[]),(2,[],[]),(3,[],[]),(4,[],[]),(5,[],[]),(6,[],[]),(7,[],[]),(8,[],[]),(9,[],[]),(10,[],[]),(11,[],[]),(12,[],[]),(13,[],[]),(14,[],[]),(15,[],[]),(16,[],[])] [0,1,3,7,15,0,32,96,224,480,1023,2047,4095,8191,8191,16383,65535] (by kernel_rfl) (by kernel_rfl) (by kernel_rfl) (by kernel_rfl) rfl (by kernel_rfl) ?_;iterate 10 refine WG0 ?_ (e:=fun _ h_=>by simp only[sH,↓sP,sA,tyS,simprocAttr,List.length_map,eL (show 0<ls.length by omega),Int.toNat_zero,h2,cV (show 4<(wd' ls 0).length by omega),cV (show 6<(wd' ls 0).length by omega)];exact AX h_)
      refine gV (g:=none) 324 rfl rfl fun K' hK'=>?_;simp only[iT,kW,sH,↓sP,sA,tyS,simprocAttr,List.length_map,eL (show 0<ls.length by omega),Int.toNat_zero,h2,cV (show 4<(wd' ls 0).length by omega),cV (show 6<(wd' ls 0).length by omega)];repeat refine AI ?_
      refine dO (by first|rfl|simp) ?_;try simp only[sH,↓sP,sA,tyS,simprocAttr,List.length_map,eL (show 0<ls.length by omega),Int.toNat_zero,h2,cV (show 4<(wd' ls 0).length by omega),cV (show 6<(wd' ls 0).length by omega)]
      refine AX (hK' _ _ ?_);clear hK' K';refine cF (g:=none) rfl rfl fun K' hK'=>?_;simp only[sH,↓sP,sA,tyS,simprocAttr,List.length_map,eL (show 0<ls.length by omega),Int.toNat_zero,h2,cV (show 4<(wd' ls 0).length by omega),cV (show 6<(wd' ls 0).length by omega)];refine D1 (zF [wd (wd' ls 0) 4,wd (wd' ls 0) 6] (by simp)) ?_;rintro u v ⟨rfl,rfl⟩;refine AX (hK' _ _ ?_);clear hK' K';iterate 5 refine WG0 ?_ (e:=fun _ h_=>by simp only[sH,↓sP,sA,tyS,simprocAttr,List.length_map,eL (show 0<ls.length by omega),Int.toNat_zero,h2,cV (show 4<(wd' ls 0).length by omega),cV (show 6<(wd' ls 0).length by omega)];exact AX h_)
      refine T2 (hK _ _ _ ?_);clear hK K;refine aB fun K hK=>?_;refine aB fun K hK=>Rg ?_;iterate 3 refine S0 ?_
      refine aL 88 rfl (fun h7_88=>?_) (fun h7_88=>?_)
      ·
       have F:=h7_88;iterate 4 refine SF ?_
       refine aL 91 rfl (fun h7_91=>?_) (fun h7_91=>?_)
       ·
        have F:=aI h7_88 h7_91;iterate 4 refine SF ?_
        refine aL 95 rfl (fun h7_95=>?_) (fun h7_95=>?_)
        ·
         have F:=aI h7_88 (aI h7_91 h7_95);iterate 3 refine SF ?_
         refine aL 99 rfl (fun h7_99=>?_) (fun h7_99=>?_)
         ·
          simp only[h7_99];refine T2 (hK _ _ _ ?_);clear hK K;refine CF rfl ?_;obtain⟨a,ha⟩:=Option.isSome_iff_exists.1 (show(eK (wd (wd' ls 0) 3)).isSome=true by simp[h7_88,h7_91,h7_95,h7_99]);obtain⟨p,hp⟩:=Option.isSome_iff_exists.1 (show(eK (wd (wd' ls 0) 5)).isSome=true by simp[h7_88,h7_91,h7_95,h7_99]);obtain⟨v,hv⟩:=Option.isSome_iff_exists.1 (show(eK (wd (wd' ls 1) 1)).isSome=true by simp[h7_88,h7_91,h7_95,h7_99]);have hns:(eS [wd (wd' ls 0) 4,wd (wd' ls 0) 6]).isSome=true:=by simp[h7_88,h7_91,h7_95,h7_99]
          obtain⟨t,ht⟩: ∃t,cP (wd (wd' ls 0) 4)=some t:=by
           rw[tN]at hns;cases h:cP (wd (wd' ls 0) 4)with
           |none=>rw[h]at hns;cases hns
           |some t=>exact⟨t,rfl⟩
          obtain⟨n,hn⟩: ∃n,cP (wd (wd' ls 0) 6)=some n:=by
           rw[tN,ht]at hns;cases h:cP (wd (wd' ls 0) 6)with
           |none=>rw[h]at hns;cases hns
           |some t=>exact⟨t,rfl⟩
          have hnv:eS [wd (wd' ls 0) 4,wd (wd' ls 0) 6]=some [t,n]:=by rw[tN,ht,hn];rfl
          have hh:gO ls=some ⟨⟨wd (wd' ls 0) 1,wd (wd' ls 0) 2,a⟩,t,p,n,⟨v,wd (wd' ls 1) 2,wd (wd' ls 1) 3⟩,[]⟩:=by
           unfold gO;rw[if_neg (by simp[h2,h3,h4,h5];omega),ha,hp,hv,ht,hn]
          rw[ha,hp,hv,hnv];refine aK ?_;refine T0 (hK _ _ _ ?_);clear hK K;refine aB fun K hK=>DW [(0,[],[]),(1,[],[]),(2,[],[]),(3,[],[]),(4,[],[]),(5,[],[]),(6,[],[]),(7,[],[]),(8,[],[]),(9,[],[]),(10,[],[]),(11,[],[]),(12,[],[]),(13,[],[]),(14,[],[]),(15,[],[]),(16,[],[]),(17,[],[]),(18,[],[]),(19,[],[]),(20,[],[]),(21,[],[]),(22,[],[]),(23,[],[]),(24,[],[]),(25,[],[]),(26,[],[]),(27,[],[]),(28,[],[]),(29,[],[]),(30,[],[]),(31,[],[]),(32,[],[]),(33,[],[])] [0,1,3,7,15,0,32,96,224,480,0,2047,0,4096,12288,0,0,65536,196608,0,0,1048576,3145728,7340032,15728640,0,33554432,100663296,234881024,503316480,1073217536,2147483647,4294967295,8589934591] ?_;iterate 34 refine W0 ?_ (e:=fun _ h_=>by simp only[sH,↓sP,sA,tyS,simprocAttr,List.length_map,eL (show 0<ls.length by omega),eL (show 1<ls.length by omega),Int.toNat_zero,h2,h4,cV (show 1<(wd' ls 0).length by omega),cV (show 2<(wd' ls 0).length by omega),cV (show 2<(wd' ls 1).length by omega),cV (show 3<(wd' ls 1).length by omega),Option.getD_some,cV7,cV8,bH,bI,h7_88,h7_91,h7_95,h7_99];exact AX h_)
          refine T2 (hK _ _ _ ?_);clear hK K;refine dQ 0 102 41 4 rfl (fC ?_ ?_) rfl (fD ?_ ?_ _) ?_
          · simp[Qs.cv,Og.cv,CV.cells,CV.cellsL,zd,dg_cells]
          · simp[Qs.cv,Og.cv,CV.cells,CV.cellsL,zd,dg_cells]
          · simp[Qs.cv,Og.cv,CV.cells,CV.cellsL,zd,dg_cells]
          · simp[Qs.cv,Og.cv,CV.cells,CV.cellsL,zd,dg_cells]
          refine aF (RT Tryz.results95 ?_);refine⟨rfl,?_⟩;refine bF9 (x:=⟨⟨wd (wd' ls 0) 1,wd (wd' ls 0) 2,a⟩,t,p,n,⟨v,wd (wd' ls 1) 2,wd (wd' ls 1) 3⟩,[]⟩) (b:=true) (q:=(⟨wd (wd' ls 0) 1,wd (wd' ls 0) 2,a⟩:Qs).cv) (o:=(⟨v,wd (wd' ls 1) 2,wd (wd' ls 1) 3⟩:Og).cv) 544 rfl ?_ rfl ?_ ?_ ?_ (fun d hd=>by rw[hh]at hd;exact(Option.some.inj hd).symm)
          · rfl
          · simp[Qs.cv,CV.denil,CV.denilL,dg_denil]
          · simp[Og.cv,CV.denil,CV.denilL,dg_denil]
          simp[hh]
         simp only[h7_99];refine T2 (hK _ _ _ ?_);clear hK K;refine CT rfl ?_;have F:=aI @bH @bI;refine RF ?_;refine dQ 0 102 41 4 rfl (fC ?_ ?_) rfl (fD ?_ ?_ _) ?_
         · simp[Qs.cv,Og.cv,CV.cells,CV.cellsL,zd,dg_cells]
         · simp[Qs.cv,Og.cv,CV.cells,CV.cellsL,zd,dg_cells]
         · simp[Qs.cv,Og.cv,CV.cells,CV.cellsL,zd,dg_cells]
         · simp[Qs.cv,Og.cv,CV.cells,CV.cellsL,zd,dg_cells]
         refine aF (RT Tryz.results95 ?_);refine⟨rfl,?_⟩;first|(refine hno 152 (bQ (.inl (by omega))) ?_ ?_<;>rfl)|(refine hno 152 (bQ (.inr (.inl h2))) ?_ ?_<;>rfl)|(refine hno 152 (bQ (.inr (.inr (.inl h3)))) ?_ ?_<;>rfl)|(refine hno 152 (bQ (.inr (.inr (.inr (.inl h4))))) ?_ ?_<;>rfl)|(refine hno 152 (bQ (.inr (.inr (.inr (.inr h5))))) ?_ ?_<;>rfl)|(refine hno 420 (gL (by simp[h7_88,h7_91,h7_95,h7_99])) ?_ ?_<;>rfl)
        have F:=aI h7_88 (aI h7_91 h7_95);iterate 3 refine SF ?_
        refine T2 (hK _ _ _ ?_);clear hK K;refine CT rfl ?_;have F:=aI @bH @bI;refine RF ?_;refine dQ 0 102 41 4 rfl (fC ?_ ?_) rfl (fD ?_ ?_ _) ?_
        · simp[Qs.cv,Og.cv,CV.cells,CV.cellsL,zd,dg_cells]
        · simp[Qs.cv,Og.cv,CV.cells,CV.cellsL,zd,dg_cells]
        · simp[Qs.cv,Og.cv,CV.cells,CV.cellsL,zd,dg_cells]
        · simp[Qs.cv,Og.cv,CV.cells,CV.cellsL,zd,dg_cells]
        refine aF (RT Tryz.results95 ?_);refine⟨rfl,?_⟩;first|(refine hno 152 (bQ (.inl (by omega))) ?_ ?_<;>rfl)|(refine hno 152 (bQ (.inr (.inl h2))) ?_ ?_<;>rfl)|(refine hno 152 (bQ (.inr (.inr (.inl h3)))) ?_ ?_<;>rfl)|(refine hno 152 (bQ (.inr (.inr (.inr (.inl h4))))) ?_ ?_<;>rfl)|(refine hno 152 (bQ (.inr (.inr (.inr (.inr h5))))) ?_ ?_<;>rfl)|(refine hno 420 (gL (by simp[h7_88,h7_91,h7_95])) ?_ ?_<;>rfl)
       have F:=aI h7_88 h7_91;iterate 7 refine SF ?_
       refine T2 (hK _ _ _ ?_);clear hK K;refine CT rfl ?_;have F:=aI @bH @bI;refine RF ?_;refine dQ 0 102 41 4 rfl (fC ?_ ?_) rfl (fD ?_ ?_ _) ?_
       · simp[Qs.cv,Og.cv,CV.cells,CV.cellsL,zd,dg_cells]
       · simp[Qs.cv,Og.cv,CV.cells,CV.cellsL,zd,dg_cells]
       · simp[Qs.cv,Og.cv,CV.cells,CV.cellsL,zd,dg_cells]
       · simp[Qs.cv,Og.cv,CV.cells,CV.cellsL,zd,dg_cells]
       refine aF (RT Tryz.results95 ?_);refine⟨rfl,?_⟩;first|(refine hno 152 (bQ (.inl (by omega))) ?_ ?_<;>rfl)|(refine hno 152 (bQ (.inr (.inl h2))) ?_ ?_<;>rfl)|(refine hno 152 (bQ (.inr (.inr (.inl h3)))) ?_ ?_<;>rfl)|(refine hno 152 (bQ (.inr (.inr (.inr (.inl h4))))) ?_ ?_<;>rfl)|(refine hno 152 (bQ (.inr (.inr (.inr (.inr h5))))) ?_ ?_<;>rfl)|(refine hno 420 (gL (by simp[h7_88,h7_91])) ?_ ?_<;>rfl)
      have F:=h7_88;iterate 11 refine SF ?_
      refine T2 (hK _ _ _ ?_);clear hK K;refine CT rfl ?_;have F:=aI @bH @bI;refine RF ?_;refine dQ 0 102 41 4 rfl (fC ?_ ?_) rfl (fD ?_ ?_ _) ?_
      · simp[Qs.cv,Og.cv,CV.cells,CV.cellsL,zd,dg_cells]
      · simp[Qs.cv,Og.cv,CV.cells,CV.cellsL,zd,dg_cells]
      · simp[Qs.cv,Og.cv,CV.cells,CV.cellsL,zd,dg_cells]
      · simp[Qs.cv,Og.cv,CV.cells,CV.cellsL,zd,dg_cells]
      refine aF (RT Tryz.results95 ?_);refine⟨rfl,?_⟩;first|(refine hno 152 (bQ (.inl (by omega))) ?_ ?_<;>rfl)|(refine hno 152 (bQ (.inr (.inl h2))) ?_ ?_<;>rfl)|(refine hno 152 (bQ (.inr (.inr (.inl h3)))) ?_ ?_<;>rfl)|(refine hno 152 (bQ (.inr (.inr (.inr (.inl h4))))) ?_ ?_<;>rfl)|(refine hno 152 (bQ (.inr (.inr (.inr (.inr h5))))) ?_ ?_<;>rfl)|(refine hno 420 (gL (by simp[h7_88])) ?_ ?_<;>rfl)
     refine aB fun K hK=>Rg ?_;iterate 33 refine S0 ?_ (e:=fun _ h_=>by simp only[sH,↓sP,sA,tyS,simprocAttr,List.length_map,(decide_eq_false (by omega):decide ((ls.length:Int)<2)=false),eL (show 0<ls.length by omega),eL (show 1<ls.length by omega),Int.toNat_zero,h2,h4,cV (show 0<(wd' ls 0).length by omega),cV (show 0<(wd' ls 1).length by omega),h3,wDer,(by rw[Bool.not_eq_true',beq_eq_false_iff_ne];exact h5:(!(wd (wd' ls 1) 0==[111,114,105,103,105,110]))=true)];exact AX h_)
     refine T2 (hK _ _ _ ?_);clear hK K;refine CT rfl ?_;have F:=aI @bH @bI;refine RF ?_;refine dQ 0 102 41 4 rfl (fC ?_ ?_) rfl (fD ?_ ?_ _) ?_
     · simp[Qs.cv,Og.cv,CV.cells,CV.cellsL,zd,dg_cells]
     · simp[Qs.cv,Og.cv,CV.cells,CV.cellsL,zd,dg_cells]
     · simp[Qs.cv,Og.cv,CV.cells,CV.cellsL,zd,dg_cells]
     · simp[Qs.cv,Og.cv,CV.cells,CV.cellsL,zd,dg_cells]
     refine aF (RT Tryz.results95 ?_);refine⟨rfl,?_⟩;first|(refine hno 152 (bQ (.inl (by omega))) ?_ ?_<;>rfl)|(refine hno 152 (bQ (.inr (.inl h2))) ?_ ?_<;>rfl)|(refine hno 152 (bQ (.inr (.inr (.inl h3)))) ?_ ?_<;>rfl)|(refine hno 152 (bQ (.inr (.inr (.inr (.inl h4))))) ?_ ?_<;>rfl)|(refine hno 152 (bQ (.inr (.inr (.inr (.inr h5))))) ?_ ?_<;>rfl)|(refine hno 420 (gL (by simp[true_and])) ?_ ?_<;>rfl)
    refine aB fun K hK=>Rg ?_;iterate 33 refine S0 ?_ (e:=fun _ h_=>by simp only[sH,↓sP,sA,tyS,simprocAttr,List.length_map,(decide_eq_false (by omega):decide ((ls.length:Int)<2)=false),eL (show 0<ls.length by omega),eL (show 1<ls.length by omega),Int.toNat_zero,h2,cV (show 0<(wd' ls 0).length by omega),h3,wDer,(bne_iff_ne.2 (by omega):(((wd' ls 1).length:Int) !=4)=true)];exact AX h_)
    refine T2 (hK _ _ _ ?_);clear hK K;refine CT rfl ?_;have F:=aI @bH @bI;refine RF ?_;refine dQ 0 102 41 4 rfl (fC ?_ ?_) rfl (fD ?_ ?_ _) ?_
    · simp[Qs.cv,Og.cv,CV.cells,CV.cellsL,zd,dg_cells]
    · simp[Qs.cv,Og.cv,CV.cells,CV.cellsL,zd,dg_cells]
    · simp[Qs.cv,Og.cv,CV.cells,CV.cellsL,zd,dg_cells]
    · simp[Qs.cv,Og.cv,CV.cells,CV.cellsL,zd,dg_cells]
    refine aF (RT Tryz.results95 ?_);refine⟨rfl,?_⟩;first|(refine hno 152 (bQ (.inl (by omega))) ?_ ?_<;>rfl)|(refine hno 152 (bQ (.inr (.inl h2))) ?_ ?_<;>rfl)|(refine hno 152 (bQ (.inr (.inr (.inl h3)))) ?_ ?_<;>rfl)|(refine hno 152 (bQ (.inr (.inr (.inr (.inl h4))))) ?_ ?_<;>rfl)|(refine hno 152 (bQ (.inr (.inr (.inr (.inr h5))))) ?_ ?_<;>rfl)|(refine hno 420 (gL (by simp[true_and])) ?_ ?_<;>rfl)
   refine aB fun K hK=>Rg ?_;iterate 33 refine S0 ?_ (e:=fun _ h_=>by simp only[sH,↓sP,sA,tyS,simprocAttr,List.length_map,(decide_eq_false (by omega):decide ((ls.length:Int)<2)=false),eL (show 0<ls.length by omega),Int.toNat_zero,h2,cV (show 0<(wd' ls 0).length by omega),(by rw[Bool.not_eq_true',beq_eq_false_iff_ne];exact h3:(!(wd (wd' ls 0) 0==[100,101,114,105,118,97,116,105,111,110]))=true)];exact AX h_)
   refine T2 (hK _ _ _ ?_);clear hK K;refine CT rfl ?_;have F:=aI @bH @bI;refine RF ?_;refine dQ 0 102 41 4 rfl (fC ?_ ?_) rfl (fD ?_ ?_ _) ?_
   · simp[Qs.cv,Og.cv,CV.cells,CV.cellsL,zd,dg_cells]
   · simp[Qs.cv,Og.cv,CV.cells,CV.cellsL,zd,dg_cells]
   · simp[Qs.cv,Og.cv,CV.cells,CV.cellsL,zd,dg_cells]
   · simp[Qs.cv,Og.cv,CV.cells,CV.cellsL,zd,dg_cells]
   refine aF (RT Tryz.results95 ?_);refine⟨rfl,?_⟩;first|(refine hno 152 (bQ (.inl (by omega))) ?_ ?_<;>rfl)|(refine hno 152 (bQ (.inr (.inl h2))) ?_ ?_<;>rfl)|(refine hno 152 (bQ (.inr (.inr (.inl h3)))) ?_ ?_<;>rfl)|(refine hno 152 (bQ (.inr (.inr (.inr (.inl h4))))) ?_ ?_<;>rfl)|(refine hno 152 (bQ (.inr (.inr (.inr (.inr h5))))) ?_ ?_<;>rfl)|(refine hno 420 (gL (by simp[true_and])) ?_ ?_<;>rfl)
  refine aB fun K hK=>Rg ?_;iterate 33 refine S0 ?_ (e:=fun _ h_=>by simp only[sH,↓sP,sA,tyS,simprocAttr,List.length_map,(decide_eq_false (by omega):decide ((ls.length:Int)<2)=false),eL (show 0<ls.length by omega),Int.toNat_zero,(bne_iff_ne.2 (by omega):(((wd' ls 0).length:Int) !=7)=true)];exact AX h_)
  refine T2 (hK _ _ _ ?_);clear hK K;refine CT rfl ?_;have F:=aI @bH @bI;refine RF ?_;refine dQ 0 102 41 4 rfl (fC ?_ ?_) rfl (fD ?_ ?_ _) ?_
  · simp[Qs.cv,Og.cv,CV.cells,CV.cellsL,zd,dg_cells]
  · simp[Qs.cv,Og.cv,CV.cells,CV.cellsL,zd,dg_cells]
  · simp[Qs.cv,Og.cv,CV.cells,CV.cellsL,zd,dg_cells]
  · simp[Qs.cv,Og.cv,CV.cells,CV.cellsL,zd,dg_cells]
  refine aF (RT Tryz.results95 ?_);refine⟨rfl,?_⟩;first|(refine hno 152 (bQ (.inl (by omega))) ?_ ?_<;>rfl)|(refine hno 152 (bQ (.inr (.inl h2))) ?_ ?_<;>rfl)|(refine hno 152 (bQ (.inr (.inr (.inl h3)))) ?_ ?_<;>rfl)|(refine hno 152 (bQ (.inr (.inr (.inr (.inl h4))))) ?_ ?_<;>rfl)|(refine hno 152 (bQ (.inr (.inr (.inr (.inr h5))))) ?_ ?_<;>rfl)|(refine hno 420 (gL (by simp[true_and])) ?_ ?_<;>rfl)
 refine aB fun K hK=>Rg ?_;have F:=aI @List.length_map.{0,0} (decide_eq_true (by omega):decide ((ls.length:Int)<2)=true);iterate 33 refine SF ?_
 refine T2 (hK _ _ _ ?_);clear hK K;refine CT rfl ?_;have F:=aI @bH @bI;refine RF ?_;refine dQ 0 102 41 4 rfl (fC ?_ ?_) rfl (fD ?_ ?_ _) ?_
 · simp[Qs.cv,Og.cv,CV.cells,CV.cellsL,zd,dg_cells]
 · simp[Qs.cv,Og.cv,CV.cells,CV.cellsL,zd,dg_cells]
 · simp[Qs.cv,Og.cv,CV.cells,CV.cellsL,zd,dg_cells]
 · simp[Qs.cv,Og.cv,CV.cells,CV.cellsL,zd,dg_cells]
 refine aF (RT Tryz.results95 ?_);refine⟨rfl,?_⟩;first|(refine hno 152 (bQ (.inl (by omega))) ?_ ?_<;>rfl)|(refine hno 152 (bQ (.inr (.inl h2))) ?_ ?_<;>rfl)|(refine hno 152 (bQ (.inr (.inr (.inl h3)))) ?_ ?_<;>rfl)|(refine hno 152 (bQ (.inr (.inr (.inr (.inl h4))))) ?_ ?_<;>rfl)|(refine hno 152 (bQ (.inr (.inr (.inr (.inr h5))))) ?_ ?_<;>rfl)|(refine hno 420 (gL (by simp[true_and])) ?_ ?_<;>rfl)
def aL1 (s:Array Nat):Nat:=(List.range 5).countP fun j=>!s.contains j
variable {j:Nat}
theorem aS8 {s:Array Nat}(hj:j<5)(h:s.contains j=false):aL1 (s.push j)<aL1 s:=by
 have h':j∉s:=by simpa using h
 have hc: ∀i,(s.push j).contains i=(s.contains i||i==j):=fun i=>by
  rw[Bool.eq_iff_iff];simp[Array.mem_push]
 unfold aL1;simp only[hc];obtain rfl|rfl|rfl|rfl|rfl:j=0∨j=1∨j=2∨j=3∨j=4:=by omega
 all_goals
  simp only[show List.range 5=[0,1,2,3,4]from rfl,List.countP_cons,List.countP_nil];simp[h'];try omega
variable {w:aG}
theorem bN9 (h: ∀j,j<5→(wlK.getD j (0,[])).2≠w):gM w=none:=by
 have h0:=h 0 (by omega);have h1:=h 1 (by omega);have h2:=h 2 (by omega);have h3:=h 3 (by omega);have h4:=h 4 (by omega);simp only[wlK,List.getD_eq_getElem?_getD,List.getElem?_cons_zero,List.getElem?_cons_succ,Option.getD_some]at h0 h1 h2 h3 h4;unfold gM;rw[if_neg (Ne.symm h0),if_neg (Ne.symm h1),if_neg (Ne.symm h2),if_neg (Ne.symm h3),if_neg (Ne.symm h4)]
theorem bO0 (hj:j<5)(h:(wlK.getD j (0,[])).2=w):gM w=some (wlK.getD j (0,[])).1:=by
 subst h;obtain rfl|rfl|rfl|rfl|rfl:j=0∨j=1∨j=2∨j=3∨j=4:=by omega
 all_goals decide
theorem pN :wlK.length=5:=rfl
theorem cJ7 (h:j<wlK.length):wlK[j]=wlK.getD j (0,[]):=by rw[List.getD_eq_getElem?_getD,List.getElem?_eq_getElem h];rfl
def cV9 (s:Array Nat):Option Nat→Prop
 |none=> ∀j,j<5→s.contains j=true
 |some j=>j<5∧s.contains j=false
def zG (s:Array Nat):Option Nat→Array Nat
 |none=>s
 |some j=>s.push j
theorem cW0 (x:CV)(l:List CV):nth (x::l) 0=x:=rfl
def lnZ :CV:= .agg [.int .i64 0,.int .i64 0,.nils,.nils]
def bG0 (w:List aG)(r:HV)(os':List HO):Prop:=
 ∃(k n:Int) (f:List Int),r= .tup [.agg [.c (.int .i64 k),.c (.int .i64 n),.own 0 0,.c (.slc (f.map (CV.int .i64)))],.c (.bool (eX w).isSome)]∧os'=[.row 44 32 []]∧ ∀x,eX w=some x→x=⟨k,n,[],f⟩
theorem bG1 {w:List aG}{k:Int}{f:List Int}{fv:CV}(N:Nat)(hr:r= .tup [.agg [.c (.int .i64 k),.c (.int .i64 n),.own N 0,.c fv],.c (.bool b)])(h0:ob N=some (.row 44 32 []))(hfv:fv.denil= .slc (f.map (CV.int .i64)))(h2:(eX w).isSome=b)(h1: ∀x,eX w=some x→x=⟨k,n,[],f⟩):
  iJ 0 r ob (fun r ob'=> ∃os',ob'=lst os'∧(0≤os'.length∧os'.length≤0+4)∧bG0 w r os'):=by
 subst hr;refine iD [] [N] (.tup [.agg [.c (.int .i64 k),.c (.int .i64 n),.own 0 0,.c (.slc (f.map (CV.int .i64)))],.c (.bool b)]) [.row 44 32 []] ?_ (by simp[HV.men,HV.menL]) ⟨⟨by simp[HO.men],by simp,_,(by simpa[tau]using h0),rfl⟩,trivial⟩ rfl (by simp) (by simp) (by simp) ⟨k,n,f,by rw[h2],rfl,h1⟩;simp[HV.close,HV.closeL,CV.denil,hfv,HV.norm,HV.toC,HV.toCL,HV.ren,HV.renL,tau]
theorem cJ8 (w:List aG)(hl:w.length<2^38)(h0:0<w.length):HGe Tryz.prog 96 [.c (.slc (w.map .str))] [] (bG0 w):=by
 refine cI (args:=[.c (.slc (w.map .str))]) Tryz.func96 rfl (by kernel_rfl) (fP rfl (by simp[eH]) (by simp[HV.menL,HV.men])) (Nat.le_of_ble_eq_true rfl) ?_;show Hw _ _ 0 _ _ _ (lst _) 0;rw[bZ6];have hno: ∀{ob:Ob} {r:HV} (N:Nat),eX w=none→r= .tup [.agg [.c (.int .i64 0),.c (.int .i64 0),.own N 0,.c .nils],.c (.bool false)]→ob N=some (.row 44 32 [])→iJ 0 r ob (fun r ob'=> ∃os',ob'=lst os'∧(0≤os'.length∧os'.length≤0+4)∧bG0 w r os'):=fun N h hr h0=>bG1 (f:=[]) N hr h0 rfl (by rw[h];rfl) (fun x hx=>by rw[h]at hx;cases hx);have htk:List.take (w.length-1) ((w.drop 1).map CV.str)=(w.drop 1).map .str:=List.take_of_length_le (by simp);have hdr:List.drop 1 (w.map CV.str)=(w.drop 1).map .str:=by rw[List.map_drop]
 refine R0 ?_;refine aB fun K hK=>Rg ?_;have F:=aI @List.length_map.{0,0} hdr;iterate 2 refine SF ?_
 refine HS rfl rfl fun K' hK'=>T6 ?_;rw[htk,denilL_str];refine D1 (zF (w.drop 1) (by simp;omega)) ?_;rintro u v ⟨rfl,rfl⟩;refine AX (hK' _ _ ?_);clear hK' K';iterate 5 refine SF ?_
 refine T2 (hK _ _ _ ?_);clear hK K;refine aB fun K hK=>?_;by_cases hs:(eS (w.drop 1)).isSome=true
 ·
  by_cases hne:(eS (w.drop 1)).getD []=[]
  ·
   obtain⟨ns,hns⟩:=Option.isSome_iff_exists.1 hs;rw[hns]at hne
   replace hne:ns=[]:=hne
   subst hne;rw[hns];refine aB fun K hK=>Rg ?_;have F:=aI @Option.getD_some.{0} (aI @Option.isSome_some.{0} @List.map_nil.{0,0});iterate 7 refine SF ?_
   refine T2 (hK _ _ _ ?_);clear hK K;refine CT rfl ?_;refine R0 ?_;refine dQ 0 2 44 32 rfl rfl rfl rfl ?_;refine aF (RT Tryz.results96 ?_);refine⟨rfl,?_⟩;first|(refine hno 412 (by rw[hlr,hkn];rfl) ?_ ?_<;>rfl)|(refine hno 80 (by unfold eX;rw[hns]) ?_ ?_<;>rfl)|(refine hok 504 ?_ ?_ ?_ ?_;rotate_left 2;rfl;rfl;(cases f<;>simp[hk1]<;>omega))
  obtain⟨ns,hns⟩:=Option.isSome_iff_exists.1 hs;rw[hns]at hne
  replace hne:ns≠[]:=hne
  rw[hns];refine aB fun K hK=>Rg ?_;have F:=aI @Option.getD_some.{0} (aI @Option.isSome_some.{0} @List.length_map.{0,0});iterate 7 refine SF ?_
  refine T2 (hK _ _ _ ?_);clear hK K;refine aH (b:=((ns.length:Int)==0)) rfl (fun hb=>?_) (fun hb=>?_)
  ·
   have h1:ns.length=0:=by have:=eq_of_beq hb;omega
   exact absurd (List.eq_nil_of_length_eq_zero h1) hne
  obtain⟨n,f,rfl⟩: ∃n f,ns=n::f:=by
   match ns,hne with
   |n::f,_=>exact⟨n,f,rfl⟩
  clear hb;have hlr:eX w=(gM (wd w 0)).bind fun k=>if k=1∧f≠[]then none else some (⟨k,n,[],f⟩:Ln):=by unfold eX;rw[hns]
  have hut:Tryz.prog.underlying 130=some (.map 3 9):=Tryz.underlying130;refine aK ?_;refine T0 (hK _ _ _ ?_);clear hK K;refine aB fun K hK=>?_;refine aB fun K hK=>bE0 ?_;refine aR0 (g:=none) (by kernel_rfl) rfl rfl fun K' hK'=>T5 ?_;refine fV [] aS6 rfl trivial (by simp) (by simp) ⟨rfl,rfl,rfl,rfl⟩ (by simp[eH]) (by simp[HV.menL]) ?_;rintro r os' ⟨rfl,rfl⟩;rw[bZ7,bF8];refine AX (hK' _ _ ?_);clear hK' K';refine bV5 (by kernel_rfl) rfl rfl rfl rfl hut rfl rfl ?_;refine yQ rfl (hK _ _ _ ?_);clear hK K;refine aN ?_;refine bF (α:={s:Array Nat// ∀j,j<5→s.contains j=true→(wlK.getD j (0,[])).2≠wd w 0}) (fun s=>(fin [(0,.c (.slc (w.map .str))),(2,.ptr 0 0),(4,.c (.slc (CV.int .i64 n::f.map (CV.int .i64)))),(23,.ptr 72 0)],fob [(0,.box 41 (.c lnZ)),(68,.raw (iG wlK) 5),(72,.it 68 5 s.1 5)])) 200 (fun s=>aL1 s.1) ⟨#[],fun j _ h=>by simp at h⟩ (aM (by omega) (by simp[aW,fin_at,finA_at,upd_at,HV.men,HV.menL,HV.norm,HV.toC,HV.toCL,lnZ]) (by simp[aX,fob_at,upd_at,none0_at,bT,HO.men,HV.men,HV.menL,HV.norm,HV.toC,HV.toCL,lnZ])) ?_;rintro⟨s,hs⟩;refine aB fun K hK=>?_;have key: ∀(o:Option Nat) fr ob nx,cV9 s o→Fits 0 fr ob (fin [(0,.c (.slc (w.map .str))),(2,.ptr 0 0),(4,.c (.slc (CV.int .i64 n::f.map (CV.int .i64)))),(23,.ptr 72 0),(25,.c (.bool o.isSome))]) (fob [(0,.box 41 (.c lnZ)),(68,.raw (iG wlK) 5),(72,.it 68 5 (zG s o) 5)]) 400→K fr ob nx:=by
   rintro o fr ob nx ho hf;refine hK _ _ _ (bE hf ?_);clear hf hK K;refine aB fun K hK=>?_;refine aH (b:=o.isSome) rfl (fun hb=>?_) (fun hb=>?_)
   ·
    obtain⟨j,rfl⟩:=Option.isSome_iff_exists.1 hb;obtain⟨hj,hsj⟩:=ho;have hj':j<wlK.length:=hj;clear hb;refine aK ?_;refine T0 (hK _ _ _ ?_);clear hK K;refine aN ?_;refine aB fun K hK=>bE0 ?_;refine bV6 (l:=wlK) hj' (by kernel_rfl) rfl rfl rfl rfl rfl rfl rfl ?_;iterate 4
     (refine aR0 (g:=none) (by kernel_rfl) rfl rfl fun K' hK'=>?_;simp only[sH,↓sP,sA,tyS,simprocAttr];(repeat refine AI ?_);refine hK' _ _ ?_;clear hK' K')
    refine yQ rfl (hK _ _ _ ?_);clear hK K;rw[cJ7 hj'];obtain⟨kw,hkw⟩: ∃kw,kw=wlK.getD j (0,[]):=⟨_,rfl⟩;rw[←hkw];refine aB fun K hK=>Rg ?_;iterate 5 refine S0 ?_ (e:=fun _ h_=>by simp only[sH,↓sP,sA,tyS,simprocAttr,List.length_map,cV h0,Int.toNat_zero];exact AX h_)
    refine T2 (hK _ _ _ ?_);clear hK K;refine aH (b:=(kw.2==wd w 0)) rfl (fun hb=>?_) (fun hb=>?_)
    ·
     have hkd:gM (wd w 0)=some kw.1:=by rw[hkw];exact bO0 hj (by rw[←hkw];exact eq_of_beq hb)
     clear hb;have htf:List.take f.length (f.map (CV.int .i64))=f.map (CV.int .i64):=List.take_of_length_le (by simp);have hok: ∀{ob:Ob} {r:HV} (N:Nat) (b:Bool),b=decide (¬(kw.1=1∧f≠[]))→r= .tup [.agg [.c (.int .i64 kw.1),.c (.int .i64 n),.own N 0,.c (.slc (f.map (CV.int .i64)))],.c (.bool b)]→ob N=some (.row 44 32 [])→iJ 0 r ob (fun r ob'=> ∃os',ob'=lst os'∧(0≤os'.length∧os'.length≤0+4)∧bG0 w r os'):=fun N b hb hr h0=>by
      refine bG1 (f:=f) N hr h0 (by simp[CV.denil,denilL_int]) ?_ ?_
      ·
       rw[hlr,hkd,hb];by_cases hc:kw.1=1∧f≠[]
       · rw[decide_eq_false (by simpa using hc)];simp[hc]
       rw[decide_eq_true hc];simp[hc]
      intro x hx;rw[hlr,hkd]at hx;simp only[Option.bind_some]at hx;split at hx
      · cases hx
      cases hx;rfl
     by_cases hk1:kw.1=1
     ·
      have hkf:(kw.1 !=1)=false:=by rw[hk1];rfl
      refine aB fun K hK=>DW [(0,[],[]),(1,[],[]),(2,[],[]),(3,[],[]),(4,[],[]),(5,[],[]),(6,[],[]),(7,[],[]),(8,[],[]),(9,[],[]),(10,[],[]),(11,[],[]),(12,[],[]),(13,[],[]),(14,[],[10,11,12,13]),(15,[],[])] [0,0,2,6,0,16,63,0,128,384,896,1920,3968,8064,1023,32767] ?_;iterate 16 refine W0 ?_ (e:=fun _ h_=>by simp only[sH,↓sP,sA,tyS,simprocAttr,cW0,Int.toNat_zero,Int.toNat_one,List.length_cons,List.length_map,List.drop_succ_cons,List.drop_zero,Nat.add_sub_cancel,htf,hkf];exact AX h_)
      refine T2 (hK _ _ _ ?_);clear hK K;refine dQ 0 2 44 32 rfl rfl rfl rfl ?_;refine aF (RT Tryz.results96 ?_);refine⟨rfl,?_⟩;first|(refine hno 412 (by rw[hlr,hkn];rfl) ?_ ?_<;>rfl)|(refine hno 80 (by unfold eX;rw[hns]) ?_ ?_<;>rfl)|(refine hok 504 ?_ ?_ ?_ ?_;rotate_left 2;rfl;rfl;(cases f<;>simp[hk1]<;>omega))
     have hkf:(kw.1 !=1)=true:=bne_iff_ne.2 hk1;refine aB fun K hK=>DW [(0,[],[]),(1,[],[]),(2,[],[]),(3,[],[]),(4,[],[]),(5,[],[]),(6,[],[]),(7,[],[]),(8,[],[]),(9,[],[]),(10,[],[]),(11,[],[]),(12,[],[]),(13,[],[]),(14,[],[10,11,12,13]),(15,[],[])] [0,0,2,6,0,16,63,0,128,384,896,1920,3968,8064,1023,32767] ?_;iterate 16 refine W0 ?_ (e:=fun _ h_=>by simp only[sH,↓sP,sA,tyS,simprocAttr,cW0,Int.toNat_zero,Int.toNat_one,List.length_cons,List.length_map,List.drop_succ_cons,List.drop_zero,Nat.add_sub_cancel,htf,hkf];exact AX h_)
     refine T2 (hK _ _ _ ?_);clear hK K;refine dQ 0 2 44 32 rfl rfl rfl rfl ?_;refine aF (RT Tryz.results96 ?_);refine⟨rfl,?_⟩;first|(refine hno 412 (by rw[hlr,hkn];rfl) ?_ ?_<;>rfl)|(refine hno 80 (by unfold eX;rw[hns]) ?_ ?_<;>rfl)|(refine hok 504 ?_ ?_ ?_ ?_;rotate_left 2;rfl;rfl;(cases f<;>simp[hk1]<;>omega))
    have hne:kw.2≠wd w 0:=by intro e;rw[e]at hb;simp at hb
    clear hb;refine aK (T3 ?_);refine⟨⟨s.push j,fun i hi hc=>?_⟩,(aM (by omega) (by simp[aW,fin_at,finA_at,upd_at,HV.men,HV.menL,HV.norm,HV.toC,HV.toCL,zG,pN]) (by simp[aX,fob_at,upd_at,none0_at,bT,HO.men,HV.men,HV.menL,HV.norm,HV.toC,HV.toCL,zG,pN])),aS8 hj hsj⟩;by_cases e:i=j
    · subst e;rw[←hkw];exact hne
    refine hs i hi ?_;simp[Array.mem_push,e]at hc;simpa using hc
   have ho':o=none:=by cases o with|none=>rfl|some j=>cases hb
   subst ho';have hkn:gM (wd w 0)=none:=bN9 fun j hj=>hs j hj (ho j hj);refine bA (T3 ?_);clear hK K;refine AX (hK _ _ _ ?_);clear hK K;refine R0 ?_;refine dQ 0 2 44 32 rfl rfl rfl rfl ?_;refine aF (RT Tryz.results96 ?_);refine⟨rfl,?_⟩;first|(refine hno 412 (by rw[hlr,hkn];rfl) ?_ ?_<;>rfl)|(refine hno 80 (by unfold eX;rw[hns]) ?_ ?_<;>rfl)|(refine hok 504 ?_ ?_ ?_ ?_;rotate_left 2;rfl;rfl;(cases f<;>simp[hk1]<;>omega))
  refine bE0 ?_;refine cG6 (l:=wlK) (by kernel_rfl) rfl rfl rfl rfl rfl rfl rfl (fun hdone=>?_) (fun j hj hsj=>?_)
  · refine aR0 (g:=none) (by kernel_rfl) rfl rfl fun K' hK'=>T5 ?_;refine AX (hK' _ _ ?_);refine yQ rfl (key none _ _ _ (fun j hj=>hdone j hj) (aM (by omega) (by simp[aW,fin_at,finA_at,upd_at,HV.men,HV.menL,HV.norm,HV.toC,HV.toCL,zG,pN]) (by simp[aX,fob_at,upd_at,none0_at,bT,HO.men,HV.men,HV.menL,HV.norm,HV.toC,HV.toCL,zG,pN])))
  · refine aR0 (g:=none) (by kernel_rfl) rfl rfl fun K' hK'=>T5 ?_;refine AX (hK' _ _ ?_);refine yQ rfl (key (some j) _ _ _ ⟨hj,hsj⟩ (aM (by omega) (by simp[aW,fin_at,finA_at,upd_at,HV.men,HV.menL,HV.norm,HV.toC,HV.toCL,zG,pN]) (by simp[aX,fob_at,upd_at,none0_at,bT,HO.men,HV.men,HV.menL,HV.norm,HV.toC,HV.toCL,zG,pN])))
 have hs':(eS (w.drop 1)).isSome=false:=by simpa using hs
 have hns:eS (w.drop 1)=none:=by simpa using hs'
 refine aB fun K hK=>Rg ?_;have F:=hs';iterate 7 refine SF ?_
 refine T2 (hK _ _ _ ?_);clear hK K;refine CT rfl ?_;refine R0 ?_;refine dQ 0 2 44 32 rfl rfl rfl rfl ?_;refine aF (RT Tryz.results96 ?_);refine⟨rfl,?_⟩;first|(refine hno 412 (by rw[hlr,hkn];rfl) ?_ ?_<;>rfl)|(refine hno 80 (by unfold eX;rw[hns]) ?_ ?_<;>rfl)|(refine hok 504 ?_ ?_ ?_ ?_;rotate_left 2;rfl;rfl;(cases f<;>simp[hk1]<;>omega))
end Go.Proofs.YthedbjfipmkpiaaGreatDoor
namespace Go.Hl
open Go
def mvN (id d:Nat):Nat→Nat:=fun i=>if i=id then d else i
def mvF (id d:Nat)(fr:Fr):Fr:=fun t=>(fr t).ren (mvN id d)
def mvO (id d:Nat)(ob:Ob):Ob:=fun i=>if i=d then(ob id).map (HO.ren (mvN id d))else if i=id then none else(ob i).map (HO.ren (mvN id d))
section
variable {P:Program}{n k:Nat}{Q:eM}{fr:Fr}{ob:Ob}{nx:Nat}
theorem RepA.mv {c:Ctx}{a:Act}{w:World}{M:Nat→Prop}(hA:RepA c M fr ob a w)(hk':c.M0=(· <k))(id d nx2:Nat)(hk:k≤id)(hkd:k≤d)(hid:M id)(hM: ∀i,M i→i<nx2∧i≠d)(hd:d<nx2):RepA c (· <nx2) (mvF id d fr) (mvO id d ob) a w:=by
 obtain⟨ρ,hA⟩:=hA;have hne:id≠d:=(hM id hid).2
 let ρ2:Env:=fun i=>if i=d then ρ id else if i=id then none else ρ i
 have hm: ∀i,M i→ρ2 (mvN id d i)=ρ i:=fun i hi=>by
  have:=hM i hi;simp only[ρ2,mvN];grind
 have hinv: ∀i L,ρ2 i=some L→ ∃j,M j∧mvN id d j=i∧ρ j=some L:=fun i L hL=>by
  simp only[ρ2]at hL;split at hL
  · grind[mvN]
  ·
   split at hL
   · grind
   ·
    rename_i e1 e2;refine⟨i,?_,by simp[mvN,e2],hL⟩;by_cases h1:M i
    · exact h1
    · have:=(hA.nid_none (nid:=i) h1).2;grind
 have hown: ∀b,Own ρ2 b→Own ρ b:=fun b ⟨i,L,h1,h2⟩=>let⟨j,_,_,h3⟩:=hinv i L h1;⟨j,L,h3,h2⟩;have hst:Stay w (Owned ρ c.X) w (Owned ρ2 c.X):=Stay.same (fun b _ hb=>hb.imp _root_.id (hown b));have hmv:Moves M ρ (fun i=>ρ2 (mvN id d i)):=Moves.of_eq fun i hi=>hm i hi;have hobj: ∀i o,mvO id d ob i=some o→ ∃j o',M j∧mvN id d j=i∧ob j=some o'∧o=o'.ren (mvN id d):=fun i o ho=>by
  simp only[mvO]at ho;split at ho
  · grind[Option.map_eq_some_iff,mvN]
  ·
   split at ho
   · grind
   · rename_i e1 e2;obtain⟨o',h1,h2⟩:=Option.map_eq_some_iff.1 ho;exact⟨i,o',(hA.mo i o' h1).1,by simp[mvN,e2],h1,h2.symm⟩
 have hmen: ∀i,M i→mvN id d i<nx2:=fun i hi=>by
  have:=hM i hi;grind[mvN]
 refine⟨ρ2,⟨fun i o ho=>?_,fun i hi=>?_,fun i i' L L' b h1 h2 h3 h4=>?_,fun i L b h1 h2=>?_⟩,fun t ht=>?_,fun t=>?_,fun i o ho=>?_,fun i hi=>?_,?_,?_,hA.defers,hA.size,hA.xlt⟩
 · obtain⟨j,o',hj,rfl,h1,rfl⟩:=hobj i o ho;exact RepO.unsub hst hmv (hA.mo j o' h1).2 (hm j hj) (hA.s.objs j o' h1)
 ·
  simp only[mvO]at hi;simp only[ρ2];split at hi
  · rename_i e;rw[if_pos e];exact hA.s.none id (by simp_all)
  ·
   rename_i e;rw[if_neg e];split at hi
   · grind
   · rename_i e2;rw[if_neg e2];exact hA.s.none i (by simp_all)
 · obtain⟨j,_,rfl,e1⟩:=hinv i L h1;obtain⟨j',_,rfl,e2⟩:=hinv i' L' h2;rw[hA.s.apart j j' L L' b e1 e2 h3 h4]
 · obtain⟨j,_,rfl,e1⟩:=hinv i L h1;exact hA.s.xb j L b e1 h2
 ·
  have hj:fr t≠ .junk:=by intro e;apply ht;simp only[mvF,e,HV.ren]
  have hf:=hA.f t hj;exact⟨kG.2 (RepH.stay hst hmv (hA.mf t) hf.1),by simp only[mvF,HV.ren_isAgg];exact hf.2⟩
 · exact men_ren.2 (HV.men_mono hmen (hA.mf t))
 · obtain⟨j,o',hj,rfl,h1,rfl⟩:=hobj i o ho;exact⟨hmen j hj,HO.men_ren.2 (HO.men_mono hmen (hA.mo j o' h1).2)⟩
 · exact(hM i (hA.m0 i hi)).1
 · exact hA.base.trans ⟨fun _ _ _=>rfl,fun b hb=> .inl (hown b hb),Nat.le_refl _,rfl,rfl,rfl⟩
 ·
  refine Moves.trans (M':=c.M0) (fun i hi=>hi) hA.moves fun i L hi hL=>⟨L,?_,.inl rfl⟩;rw[hk']at hi;have h1:i<k:=hi;simp only[ρ2]at hL
  rwa [if_neg (by omega),if_neg (by omega)]at hL
theorem bG2 {M:Nat→Prop}: ∀{l:List (Nat×HV)},(∀p∈l,p.2.men M)→ ∀t,(fin l t).men M
 |[],_,t=>by simp[fin,HV.men]
 |(t',v)::l,h,t=>by
  by_cases ht:t=t'
  · subst ht;simp only[fin,aT];exact h (t,v) (by simp)
  · simp only[fin,aY _ _ ht];exact bG2 (fun p hp=>h p (by simp[hp])) t
theorem bG3 {M N:Nat→Prop}: ∀{l:List (Nat×HO)},(∀p∈l,N p.1∧p.2.men M)→ ∀t o,fob l t=some o→N t∧o.men M
 |[],_,t,o,ho=>by simp[fob]at ho
 |(t',v)::l,h,t,o,ho=>by
  by_cases ht:t=t'
  · subst ht;simp only[fob,aT]at ho;cases ho;exact h (t,v) (by simp)
  · simp only[fob,aY _ _ ht]at ho;exact bG3 (fun p hp=>h p (by simp[hp])) t o ho
theorem cA3 {code:Code}(id d nx2:Nat)(l:List (Nat×HV))(h:List (Nat×HO))(h1:aW nx fr l)(h2:aX nx ob h)(hk0:k≤nx)(hk:k≤id)(hkd:k≤d)(hid:id<nx)(hne:id≠d)(hnx:nx≤nx2)(hd:d<nx2)
  (hl: ∀p∈l,p.2.men fun i=>i<nx∧i≠d) (hh: ∀p∈h,(p.1<nx∧p.1≠d)∧p.2.men fun i=>i<nx∧i≠d) (hw:Hw P n k code Q (mvF id d (fin l)) (mvO id d (fob h)) nx2):Hw P n k code Q fr ob nx:=by
 intro c a w hn hk' hz hA;refine hw c a w hn hk' hz ?_;obtain⟨ρ,hB⟩:=hA.fits hk' (aM hk0 h1 h2);refine RepA.mv (M:=fun i=>i<nx∧i≠d) ⟨ρ,hB.s,hB.f,bG2 hl,bG3 (N:=fun i=>i<nx∧i≠d) hh,fun i hi=>?_,hB.base,hB.moves,hB.defers,hB.size,hB.xlt⟩ hk' id d nx2 hk hkd ⟨hid,hne⟩ (fun i hi=>⟨by omega,hi.2⟩) hd;rw[hk']at hi;have:i<k:=hi;omega
end
end Go.Hl
namespace Go.Pl
open Go Go.Hl
def jD (ws:List (List aG)):Option (List Ln):=ws.foldlM dK []
theorem rB (ls:List (List aG)):fQ ls=(gO ls).bind fun d=>(jD (ls.drop 2)).map fun l=>{d with l:=l}:=rfl
theorem aG0 :jD []=some []:=rfl
theorem pO (a b:List (List aG)):jD (a++b)=(jD a).bind fun l=>b.foldlM dK l:=by
 unfold jD;rw[List.foldlM_append];rfl
variable {l:List Ln}{i:Nat}{ws:List (List aG)}
theorem kQ (h:i<ws.length)(hl:jD (ws.take i)=some l):jD (ws.take (i+1))=dK l ws[i]:=by
 rw[List.take_succ_eq_append_getElem h,pO,hl];show([ws[i]].foldlM dK l)=_;simp only[List.foldlM_cons,List.foldlM_nil];cases dK l ws[i]<;>rfl
theorem kR (h:i<ws.length)(hl:jD (ws.take i)=some l)(hn:dK l ws[i]=none):jD ws=none:=by
 have e:ws=ws.take (i+1)++ws.drop (i+1):=(List.take_append_drop _ _).symm;rw[e,pO,kQ h hl,hn];rfl
variable {n:Nat}{w:List aG}{ls:List Ln}
theorem aS9 (h:lX ls w=some l)(h1:ls.length≤n)(h2: ∀x∈ls,x.d.length≤n):l.length≤n∧ ∀x∈l,x.d.length≤n+1:=by
 unfold lX at h;cases hx:ls.getLast? with
 |none=>rw[hx]at h;cases h
 |some x=>
  rw[hx]at h;have hm:=List.mem_of_getLast? hx;have hp:0<ls.length:=List.length_pos_of_mem hm;dsimp only at h;split at h
  ·
   cases hd:eK (wd w 1)with
   |none=>rw[hd]at h;cases h
   |some d=>
    rw[hd]at h;obtain rfl:=Option.some.inj h;refine⟨by simp;omega,fun y hy=>?_⟩;rcases List.mem_append.1 hy with hy|hy
    · exact Nat.le_succ_of_le (h2 y (List.dropLast_subset _ hy))
    · rw[List.mem_singleton.1 hy];have:=h2 x hm;simp[jX];omega
  · cases h
variable {x:Ln}
theorem cJ9 (h:eX w=some x):x.d=[]:=by
 unfold eX at h;split at h
 ·
  rename_i n f _;cases hk:gM (wd w 0)with
  |none=>rw[hk]at h;cases h
  |some k=>
   rw[hk]at h;simp only[Option.bind_some]at h;split at h
   · cases h
   · obtain rfl:=Option.some.inj h;rfl
 · cases h
theorem bO1 (h:dK ls w=some l)(h1:ls.length≤n)(h2: ∀x∈ls,x.d.length≤n):l.length≤n+1∧ ∀x∈l,x.d.length≤n+1:=by
 unfold dK at h;split at h
 · have:=aS9 h h1 h2;exact⟨by omega,this.2⟩
 ·
  cases hx:eX w with
  |none=>rw[hx]at h;cases h
  |some x=>
   rw[hx]at h;obtain rfl:=Option.some.inj h;refine⟨by simp;omega,fun y hy=>?_⟩;rcases List.mem_append.1 hy with hy|hy
   · exact Nat.le_succ_of_le (h2 y hy)
   · rw[List.mem_singleton.1 hy,cJ9 hx];simp
theorem vG {ws:List (List aG)}: ∀{i:Nat} {l:List Ln},i≤ws.length→jD (ws.take i)=some l→l.length≤i∧ ∀x∈l,x.d.length≤i
 |0,l,_,h=>by
  rw[List.take_zero,aG0]at h;obtain rfl:=Option.some.inj h;simp
 |i+1,l,hi,h=>by
  cases hp:jD (ws.take i)with
  |none=>
   have e:ws.take (i+1)=ws.take i++[ws[i]]:=List.take_succ_eq_append_getElem (by omega);rw[e,pO,hp]at h;cases h
  |some m=>
   have hm:=vG (i:=i) (by omega) hp;rw[kQ (by omega) hp]at h;exact bO1 h hm.1 hm.2
theorem zH (hw:wd w 0≠jW):dK l w=(eX w).map fun x=>l++[x]:=if_neg hw
theorem aT0 (hw:wd w 0=jW):dK [] w=none:=by unfold dK;rw[if_pos hw];rfl
theorem vH (hw:wd w 0=jW):dK (l++[x]) w=if x.k=1∧w.length=2 then(eK (wd w 1)).map fun d=>l++[jX x d]else none:=by
 unfold dK lX;rw[if_pos hw];simp
theorem oT (hw:wd w 0=jW)(h:x.k≠1∨w.length≠2∨(eK (wd w 1)).isSome=false):dK (l++[x]) w=none:=by
 rw[vH hw];split
 ·
  rename_i hc;rcases h with h|h|h
  · exact absurd hc.1 h
  · exact absurd hc.2 h
  ·
   cases hd:eK (wd w 1)with
   |none=>rfl
   |some d=>rw[hd]at h;cases h
 · rfl
theorem aT1 {d:Dig}(hw:wd w 0=jW)(h1:x.k=1)(h2:w.length=2)(hd:eK (wd w 1)=some d):dK (l++[x]) w=some (l++[jX x d]):=by
 rw[vH hw,if_pos ⟨h1,h2⟩,hd];rfl
end Go.Pl
