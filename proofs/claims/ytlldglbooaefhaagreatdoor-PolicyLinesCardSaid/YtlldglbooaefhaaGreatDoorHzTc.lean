/- Part of a proof: walks of functions of the program, by contracts, and the rules they use. By an AI agent. -/
import Derived.Test.YtlldglbooaefhaaGreatDoorHzU1
import Derived.Test.YtlldglbooaefhaaGreatDoorPl03e
import Derived.Test.YtlldglbooaefhaaGreatDoorHlTlaw
import Derived.Test.YtlldglbooaefhaaGreatDoorPl11w
set_option linter.unusedSimpArgs false
set_option linter.unusedVariables false
set_option linter.defProp false
namespace Go.Proofs.YtlldglbooaefhaaGreatDoor
open Go Go.Hl Go.Pl
set_option maxRecDepth 10000
set_option maxHeartbeats 16000000
theorem dN (ps:List Pt)(s:aF)(k i:Nat):nxt ps s k i i=mD ps s (k+1) i:=by simp[nxt]
theorem aR3 (p s:aF):cG Tryz.prog 72 [.str p,.str s] (fun v=>v= .bool (mI p s)):=by
 refine FW Tryz.func72 ?_;refine R0 ?_;refine aB fun K hK=>Rg ?_;refine S0 ?_;refine HS rfl rfl fun K' hK'=>T5 ?_;refine D1 (aQ7 p) ?_;rintro u v ⟨rfl,rfl⟩;refine AX (hK' _ _ ?_);clear hK' K';iterate 5 refine S0 ?_
 refine T2 (hK _ _ _ ?_);clear hK K;refine aB fun K hK=>?_;cases hpv:fL p
 ·
  refine aB fun K hK=>Rg ?_;iterate 7 refine S0 ?_ (e:=fun _ h_=>by simp only[sH,↓sP,sA,tyS,simprocAttr,Option.isSome_none,Bool.not_false];exact AX h_)
  refine T2 (hK _ _ _ ?_);clear hK K;refine CT rfl ?_;refine R0 ?_;refine aE (RT Tryz.results72 ?_);exact aH [] (.bool false) rfl (by rw[aR0 hpv])
 by_cases hs:kS s=true
 ·
  rename_i ps;have hs200:=bK5 hs;obtain⟨hpl,hpk⟩:=bK4 hpv;have hmv:=aR2 hpv hs;clear hpv;refine aB fun K hK=>Rg ?_;iterate 4 refine S0 ?_ (e:=fun _ h_=>by simp only[sH,↓sP,sA,tyS,simprocAttr,Option.isSome_some,Bool.not_true,hs,Option.getD_some];exact AX h_)
  refine aP (g:=some (20,false)) rfl rfl fun K' hK'=>?_;simp only[sH,↓sP,sA,tyS,simprocAttr,Option.isSome_some,Bool.not_true,hs,Option.getD_some];refine C1 (bD6 s) ?_;rintro u rfl;refine AX (hK' _ _ ?_);clear hK' K';iterate 2 refine S0 ?_ (e:=fun _ h_=>by simp only[sH,↓sP,sA,tyS,simprocAttr,Option.isSome_some,Bool.not_true,hs,Option.getD_some];exact AX h_)
  refine T2 (hK _ _ _ ?_);clear hK K;refine CF rfl ?_;refine aJ ?_;refine T0 (hK _ _ _ ?_);clear hK K;have hwn:IntKind.i64.wrap ((s.length:Int)+1)=(((s.length+1:Nat)):Int):=by rw[IntWalk.i64_in _ (by omega)];rfl
  have hn0:(((s.length+1:Nat):Int)=0)=False:=by simp;omega
  have hzn:(0:Int)<((s.length+1:Nat):Int):=by omega
  have hrep:=bK6 (s.length+1);refine aB fun K hK=>Rg ?_;have F:=aI hwn (aI hn0 (aI hrep @Int.toNat_natCast));iterate 5 refine SF ?_
  refine T2 (hK _ _ _ ?_);clear hK K;refine R0 ?_ (e:=fun _ h_=>by simp only[↓sP,sA,tyS,simprocAttr,hzn,bD,bG (Nat.succ_pos s.length),Int.toNat_zero];exact AX h_);refine aB fun K hK=>?_;refine R0 ?_;refine aN ?_;have hr0:(cL (s.length+1) (fun _=>false)).set 0 (.bool true)=cL (s.length+1) (mD ps s 0):=(bK7 (ps:=ps) (s:=s)).trans bU7;refine dF [72] (bH (fr2:=fin [(1,.c (.str s)),(7,.c (.slc (cL (s.length+1) (mD ps s 0)))),(31,.c (.slc (ps.map Pt.cv))),(32,.c (.int .i64 ps.length)),(33,.c (.int .i64 0))]) (ob2:=fob []) (nx2:=90) (aL (by omega) (by simp[aY,eB,fin_at,finA_at,upd_at,fob_at,HV.close,HV.closeL,CV.denil,CV.denilL,iY,denilL_Pt,hr0,HV.men,HV.menL,HV.norm,HV.toC,HV.toCL,bD]) (by simp[aZ,eC,fob_at,upd_at,none0_at,bV,HO.close,HV.close,HV.closeL,HO.men,HV.men,HV.menL,HV.norm,HV.toC,HV.toCL])) ?_);refine bS (α:={k:Nat//k≤ps.length}) (fun k=>(fin [(1,.c (.str s)),(7,.c (.slc (cL (s.length+1) (mD ps s k.1)))),(31,.c (.slc (ps.map Pt.cv))),(32,.c (.int .i64 ps.length)),(33,.c (.int .i64 k.1))],fob [])) 100 (fun k=>ps.length-k.1) ⟨0,by omega⟩ (fF) ?_;rintro⟨k,hk⟩;refine R0 ?_;refine aB fun K hK=>?_;refine aG (b:=decide ((k:Int)<ps.length)) rfl (fun hb=>?_) (fun hb=>?_)
  ·
   have hlt:k<ps.length:=by simpa using hb
   clear hb;have hk3:=hpk _ (List.getElem_mem hlt);have hprt:=cE0 hlt;refine aJ ?_;refine T0 (hK _ _ _ ?_);clear hK K;refine aB fun K hK=>?_;refine aN ?_;refine aB fun K hK=>Rg ?_;clear F;have F:=aI @Int.natCast_nonneg (aI @Int.ofNat_lt (aI hlt (aI @List.length_map.{0,0} (aI (nM hlt) (aI @Pt.cells (aI @Pt.isAgg (aI @Pt.getAll @Pt.setAll)))))));iterate 4 refine SF ?_
   refine T2 (hK _ _ _ ?_);clear hK K;by_cases h0:ps[k].k=0
   ·
    have hlong:ps[k].long=false:=by simp[Pt.long,h0]
    refine aB fun K hK=>Rg ?_;clear F;have F:=aI @Pt.cells (aI @Pt.isAgg @Pt.getAll);refine SF ?_;refine HS rfl rfl fun K' hK'=>T6 ?_;refine fP (largs:=[.c ps[k].cv]) [] (bK2 ps[k] h0) rfl trivial (by simp) (by simp) ⟨rfl,rfl,rfl,rfl⟩ trivial (by simp[HV.menL,HV.men]) ?_;rintro r os ⟨rfl,rfl⟩;simp only[HV.ren,HV.renL,kD,HO.ren,sub,List.length_nil,Nat.not_lt_zero,if_false,Nat.sub_zero,Nat.add_zero];refine AX (hK' _ _ ?_);clear hK' K';refine SF ?_;refine T2 (hK _ _ _ ?_);clear hK K;refine aB fun K hK=>Rg ?_;clear F;have F:=aI hwn (aI hn0 (aI hrep @Int.toNat_natCast));iterate 5 refine SF ?_
    refine T2 (hK _ _ _ ?_);clear hK K;refine aB fun K hK=>?_;have key: ∀fr ob nx,Fits 0 fr ob (fin [(1,.c (.str s)),(7,.c (.slc (cL (s.length+1) (mD ps s k)))),(9,.ptr 112 0),(10,.clo 114 [.ptr 124 0]),(11,.own 144 (s.length+1)),(31,.c (.slc (ps.map Pt.cv))),(32,.c (.int .i64 ps.length)),(33,.c (.int .i64 k))]) (fob [(112,.box 140 (.c ps[k].cv)),(124,.box 140 (.c ps[k].cv)),(144,.row 4 1 (cL (s.length+1) (nxt ps s k 0)))]) 250→K fr ob nx:=by
     rintro fr ob nx hf;refine hK _ _ _ (bH hf ?_);clear hf hK K;refine aB fun K hK=>?_;refine R0 ?_;refine aN ?_;refine bS (α:={i:Nat//i≤s.length}) (fun i=>(fin [(1,.c (.str s)),(7,.c (.slc (cL (s.length+1) (mD ps s k)))),(9,.ptr 112 0),(10,.clo 114 [.ptr 124 0]),(11,.own 144 (s.length+1)),(31,.c (.slc (ps.map Pt.cv))),(32,.c (.int .i64 ps.length)),(33,.c (.int .i64 k)),(53,.c (.int .i64 s.length)),(54,.c (.int .i64 i.1))],fob [(112,.box 140 (.c ps[k].cv)),(124,.box 140 (.c ps[k].cv)),(144,.row 4 1 (cL (s.length+1) (nxt ps s k i.1)))])) 300 (fun i=>s.length-i.1) ⟨0,by omega⟩ (fF) ?_;rintro⟨i,hi⟩;refine R0 ?_;refine aB fun K hK=>?_;refine aG (b:=decide ((i:Int)<s.length)) rfl (fun hb=>?_) (fun hb=>?_)
     ·
      have hil:i<s.length:=by simpa using hb
      clear hb;have hgd:s.getD i 0=s[i]:=by simp[hil]
      have hiN:i+1<s.length+1:=by omega
      have hiN0:i<s.length+1:=by omega
      have hw1:IntKind.i64.wrap ((i:Int)+1)=((i+1:Nat):Int):=by rw[IntWalk.i64_in _ (by omega)];rfl
      refine aJ ?_;refine T0 (hK _ _ _ ?_);clear hK K;refine aB fun K hK=>?_;refine aN ?_;refine R0 ?_;refine aN ?_;refine aB fun K hK=>Rg ?_;clear F;have F:=aI @Pt.cells (aI @Pt.isAgg (aI @Pt.getAll hlong));refine SF ?_;refine HS rfl rfl fun K' hK'=>T6 ?_;refine C1 (gA ps[k] hk3) ?_;rintro u rfl;refine AX (hK' _ _ ?_);clear hK' K';refine SF ?_;refine T2 (hK _ _ _ ?_);clear hK K;refine CF rfl ?_;by_cases ha:mD ps s k i=true
      ·
       have htk:ps[k].takes s[i]=(s[i]==ps[k].c):=by simp[Pt.takes,h0]
       have hs1:(cL (s.length+1) (nxt ps s k i)).set (i+1) (.bool (s[i]==ps[k].c))=cL (s.length+1) (nxt ps s k (i+1)):=gL (by rw[pP,hprt,hlong,hgd];simp[ha,htk]);refine Rg ?_;iterate 12 refine S0 ?_ (e:=fun _ h_=>by simp only[sH,↓sP,sA,tyS,simprocAttr,Int.natCast_nonneg,Int.ofNat_lt,hiN,hiN0,hil,hgd,hw1,bD,bG hiN,bG hiN0,dN,Int.toNat_natCast,ha];exact AX h_)
       refine aP (g:=some (64,true)) rfl rfl fun K' hK'=>?_;simp only[sH,↓sP,sA,tyS,simprocAttr,Int.natCast_nonneg,Int.ofNat_lt,hiN,hiN0,hil,hgd,hw1,bD,bG hiN,bG hiN0,dN,Int.toNat_natCast,ha];refine bP1 (args:=[_]) (cD9 ps[k] s[i]) rfl (by simp) ⟨rfl,rfl,rfl,rfl⟩ ?_;rintro u rfl;refine AX (hK' _ _ ?_);clear hK' K';iterate 3 refine S0 ?_ (e:=fun _ h_=>by simp only[sH,↓sP,sA,tyS,simprocAttr,Int.natCast_nonneg,Int.ofNat_lt,hiN,hiN0,hil,hgd,hw1,bD,bG hiN,bG hiN0,dN,Int.toNat_natCast,ha];exact AX h_)
       refine T2 (hK _ _ _ ?_);clear hK K;refine aK (by kernel_rfl) ?_;refine TQ hw1 ?_;refine⟨⟨i+1,hil⟩,aL (by omega) (by simp[aY,fin_at,finA_at,upd_at,HV.men,HV.menL,HV.norm,HV.toC,HV.toCL,bD]) (by simp[aZ,fob_at,upd_at,none0_at,bV,HO.men,HV.men,HV.menL,HV.norm,HV.toC,HV.toCL,hs1]),?_⟩;show s.length-(i+1)<s.length-i;omega
      have ha:mD ps s k i=false:=by simpa using ha
      have htk:ps[k].takes s[i]=(s[i]==ps[k].c):=by simp[Pt.takes,h0]
      have hs1:(cL (s.length+1) (nxt ps s k i)).set (i+1) (.bool false)=cL (s.length+1) (nxt ps s k (i+1)):=gL (by rw[pP,hprt,hlong,hgd];simp[ha,htk]);refine Rg ?_;iterate 16 refine S0 ?_ (e:=fun _ h_=>by simp only[sH,↓sP,sA,tyS,simprocAttr,Int.natCast_nonneg,Int.ofNat_lt,hiN,hiN0,hil,hgd,hw1,bD,bG hiN,bG hiN0,dN,Int.toNat_natCast,ha];exact AX h_)
      refine T2 (hK _ _ _ ?_);clear hK K;refine aK (by kernel_rfl) ?_;refine TQ hw1 ?_;refine⟨⟨i+1,hil⟩,aL (by omega) (by simp[aY,fin_at,finA_at,upd_at,HV.men,HV.menL,HV.norm,HV.toC,HV.toCL,bD]) (by simp[aZ,fob_at,upd_at,none0_at,bV,HO.men,HV.men,HV.menL,HV.norm,HV.toC,HV.toCL,hs1]),?_⟩;show s.length-(i+1)<s.length-i;omega
     refine bI (T3 ?_);clear hK K;refine AX (hK _ _ _ ?_);clear hK K;refine aK (by kernel_rfl) ?_;refine T0 (hK _ _ _ ?_);clear hK K;have hei:i=s.length:=by simp at hb;omega
     subst hei;have hra:=vQ (ps:=ps) (s:=s) (k:=k);refine dF [144] (bH (fr2:=fin [(1,.c (.str s)),(7,.c (.slc (cL (s.length+1) (mD ps s (k+1))))),(31,.c (.slc (ps.map Pt.cv))),(32,.c (.int .i64 ps.length)),(33,.c (.int .i64 k))]) (ob2:=fob []) (nx2:=900) (aL (by omega) (by simp[aY,eB,fin_at,finA_at,upd_at,fob_at,HV.close,HV.closeL,CV.denil,CV.denilL,iY,denilL_Pt,hra,HV.men,HV.menL,HV.norm,HV.toC,HV.toCL,bD]) (by simp[aZ,eC,fob_at,upd_at,none0_at,bV,HO.close,HV.close,HV.closeL,HO.men,HV.men,HV.menL,HV.norm,HV.toC,HV.toCL])) ?_);refine aK (by kernel_rfl) ?_;refine TQ (iH k) ?_;refine⟨⟨k+1,hlt⟩,fF,?_⟩;show ps.length-(k+1)<ps.length-k;omega
    by_cases hm:mD ps s k 0=true
    ·
     have hz:(cL (s.length+1) (fun _=>false)).set 0 (.bool false)=cL (s.length+1) (nxt ps s k 0):=iZ (by rw[hm,hprt,hlong];rfl);refine Rg ?_;iterate 6 refine S0 ?_ (e:=fun _ h_=>by simp only[sH,↓sP,sA,tyS,simprocAttr,hzn,bD,bG (Nat.succ_pos s.length),Int.toNat_zero,hm,hlong,Pt.cells,Pt.isAgg,Pt.getAll];exact AX h_)
     refine aP (g:=some (47,true)) rfl rfl fun K' hK'=>?_;simp only[sH,↓sP,sA,tyS,simprocAttr,hzn,bD,bG (Nat.succ_pos s.length),Int.toNat_zero,hm,hlong,Pt.cells,Pt.isAgg,Pt.getAll];refine C1 (gA ps[k] hk3) ?_;rintro u rfl;refine AX (hK' _ _ ?_);clear hK' K';iterate 3 refine S0 ?_ (e:=fun _ h_=>by simp only[sH,↓sP,sA,tyS,simprocAttr,hzn,bD,bG (Nat.succ_pos s.length),Int.toNat_zero,hm,hlong,Pt.cells,Pt.isAgg,Pt.getAll];exact AX h_)
     refine T4 ?_;exact key _ _ _ (aL (by omega) (by simp[aY,fin_at,finA_at,upd_at,HV.men,HV.menL,HV.norm,HV.toC,HV.toCL,bD]) (by simp[aZ,fob_at,upd_at,none0_at,bV,HO.men,HV.men,HV.menL,HV.norm,HV.toC,HV.toCL,hz]))
    have hm0:mD ps s k 0=false:=by simpa using hm
    have hz:(cL (s.length+1) (fun _=>false)).set 0 (.bool false)=cL (s.length+1) (nxt ps s k 0):=iZ (by rw[hm0];rfl);refine Rg ?_;iterate 10 refine S0 ?_ (e:=fun _ h_=>by simp only[sH,↓sP,sA,tyS,simprocAttr,hzn,bD,bG (Nat.succ_pos s.length),Int.toNat_zero,hm0,Pt.cells,Pt.isAgg,Pt.getAll];exact AX h_)
    refine T4 ?_;exact key _ _ _ (aL (by omega) (by simp[aY,fin_at,finA_at,upd_at,HV.men,HV.menL,HV.norm,HV.toC,HV.toCL,bD]) (by simp[aZ,fob_at,upd_at,none0_at,bV,HO.men,HV.men,HV.menL,HV.norm,HV.toC,HV.toCL,hz]))
   by_cases h3:ps[k].k=3
   ·
    have hlong:ps[k].long=true:=by simp[Pt.long,h3]
    refine aB fun K hK=>Rg ?_;clear F;have F:=aI @Pt.cells (aI @Pt.isAgg @Pt.getAll);refine SF ?_;refine HS rfl rfl fun K' hK'=>T6 ?_;refine C1 (bK3 ps[k] h3) ?_;rintro u rfl;refine AX (hK' _ _ ?_);clear hK' K';refine SF ?_;refine T2 (hK _ _ _ ?_);clear hK K;refine aB fun K hK=>Rg ?_;clear F;have F:=aI hwn (aI hn0 (aI hrep @Int.toNat_natCast));iterate 5 refine SF ?_
    refine T2 (hK _ _ _ ?_);clear hK K;refine aB fun K hK=>?_;have key: ∀fr ob nx,Fits 0 fr ob (fin [(1,.c (.str s)),(7,.c (.slc (cL (s.length+1) (mD ps s k)))),(9,.ptr 112 0),(10,.c (.fn 115)),(11,.own 144 (s.length+1)),(31,.c (.slc (ps.map Pt.cv))),(32,.c (.int .i64 ps.length)),(33,.c (.int .i64 k))]) (fob [(112,.box 140 (.c ps[k].cv)),(144,.row 4 1 (cL (s.length+1) (nxt ps s k 0)))]) 250→K fr ob nx:=by
     rintro fr ob nx hf;refine hK _ _ _ (bH hf ?_);clear hf hK K;refine aB fun K hK=>?_;refine R0 ?_;refine aN ?_;refine bS (α:={i:Nat//i≤s.length}) (fun i=>(fin [(1,.c (.str s)),(7,.c (.slc (cL (s.length+1) (mD ps s k)))),(9,.ptr 112 0),(10,.c (.fn 115)),(11,.own 144 (s.length+1)),(31,.c (.slc (ps.map Pt.cv))),(32,.c (.int .i64 ps.length)),(33,.c (.int .i64 k)),(53,.c (.int .i64 s.length)),(54,.c (.int .i64 i.1))],fob [(112,.box 140 (.c ps[k].cv)),(144,.row 4 1 (cL (s.length+1) (nxt ps s k i.1)))])) 300 (fun i=>s.length-i.1) ⟨0,by omega⟩ (fF) ?_;rintro⟨i,hi⟩;refine R0 ?_;refine aB fun K hK=>?_;refine aG (b:=decide ((i:Int)<s.length)) rfl (fun hb=>?_) (fun hb=>?_)
     ·
      have hil:i<s.length:=by simpa using hb
      clear hb;have hgd:s.getD i 0=s[i]:=by simp[hil]
      have hiN:i+1<s.length+1:=by omega
      have hiN0:i<s.length+1:=by omega
      have hw1:IntKind.i64.wrap ((i:Int)+1)=((i+1:Nat):Int):=by rw[IntWalk.i64_in _ (by omega)];rfl
      refine aJ ?_;refine T0 (hK _ _ _ ?_);clear hK K;refine aB fun K hK=>?_;refine aN ?_;refine R0 ?_;refine aN ?_;refine aB fun K hK=>Rg ?_;clear F;have F:=aI @Pt.cells (aI @Pt.isAgg (aI @Pt.getAll hlong));refine SF ?_;refine HS rfl rfl fun K' hK'=>T6 ?_;refine C1 (gA ps[k] hk3) ?_;rintro u rfl;refine AX (hK' _ _ ?_);clear hK' K';refine SF ?_;refine T2 (hK _ _ _ ?_);clear hK K;refine CT rfl ?_;by_cases ha:mD ps s k (i+1)=true
      ·
       have htk:ps[k].takes s[i]=true:=by simp[Pt.takes,h3]
       have hs1:(cL (s.length+1) (nxt ps s k i)).set (i+1) (.bool true)=cL (s.length+1) (nxt ps s k (i+1)):=gL (by rw[pP,hprt,hlong,hgd];simp[ha,htk]);refine Rg ?_;iterate 23 refine S0 ?_ (e:=fun _ h_=>by simp only[sH,↓sP,sA,tyS,simprocAttr,Int.natCast_nonneg,Int.ofNat_lt,hiN,hiN0,hil,hgd,hw1,bD,bG hiN,bG hiN0,dN,Int.toNat_natCast,ha];exact AX h_)
       refine T2 (hK _ _ _ ?_);clear hK K;refine aK (by kernel_rfl) ?_;refine TQ hw1 ?_;refine⟨⟨i+1,hil⟩,aL (by omega) (by simp[aY,fin_at,finA_at,upd_at,HV.men,HV.menL,HV.norm,HV.toC,HV.toCL,bD]) (by simp[aZ,fob_at,upd_at,none0_at,bV,HO.men,HV.men,HV.menL,HV.norm,HV.toC,HV.toCL,hs1]),?_⟩;show s.length-(i+1)<s.length-i;omega
      by_cases hn:mD ps s (k+1) i=true
      ·
       have ha:mD ps s k (i+1)=false:=by simpa using ha
       have htk:ps[k].takes s[i]=true:=by simp[Pt.takes,h3]
       have hs1:(cL (s.length+1) (nxt ps s k i)).set (i+1) (.bool true)=cL (s.length+1) (nxt ps s k (i+1)):=gL (by rw[pP,hprt,hlong,hgd];simp[ha,hn,htk]);refine Rg ?_;iterate 18 refine S0 ?_ (e:=fun _ h_=>by simp only[sH,↓sP,sA,tyS,simprocAttr,Int.natCast_nonneg,Int.ofNat_lt,hiN,hiN0,hil,hgd,hw1,bD,bG hiN,bG hiN0,dN,Int.toNat_natCast,ha,hn];exact AX h_)
       refine aP (g:=some (88,true)) rfl rfl fun K' hK'=>?_;simp only[sH,↓sP,sA,tyS,simprocAttr,Int.natCast_nonneg,Int.ofNat_lt,hiN,hiN0,hil,hgd,hw1,bD,bG hiN,bG hiN0,dN,Int.toNat_natCast,ha,hn];refine C1 (cC4 s[i]) ?_;rintro u rfl;refine AX (hK' _ _ ?_);clear hK' K';iterate 4 refine S0 ?_ (e:=fun _ h_=>by simp only[sH,↓sP,sA,tyS,simprocAttr,Int.natCast_nonneg,Int.ofNat_lt,hiN,hiN0,hil,hgd,hw1,bD,bG hiN,bG hiN0,dN,Int.toNat_natCast,ha,hn];exact AX h_)
       refine T2 (hK _ _ _ ?_);clear hK K;refine aK (by kernel_rfl) ?_;refine TQ hw1 ?_;refine⟨⟨i+1,hil⟩,aL (by omega) (by simp[aY,fin_at,finA_at,upd_at,HV.men,HV.menL,HV.norm,HV.toC,HV.toCL,bD]) (by simp[aZ,fob_at,upd_at,none0_at,bV,HO.men,HV.men,HV.menL,HV.norm,HV.toC,HV.toCL,hs1]),?_⟩;show s.length-(i+1)<s.length-i;omega
      have ha:mD ps s k (i+1)=false:=by simpa using ha
      have hn:mD ps s (k+1) i=false:=by simpa using hn
      have htk:ps[k].takes s[i]=true:=by simp[Pt.takes,h3]
      have hs1:(cL (s.length+1) (nxt ps s k i)).set (i+1) (.bool false)=cL (s.length+1) (nxt ps s k (i+1)):=gL (by rw[pP,hprt,hlong,hgd];simp[ha,hn,htk]);refine Rg ?_;iterate 23 refine S0 ?_ (e:=fun _ h_=>by simp only[sH,↓sP,sA,tyS,simprocAttr,Int.natCast_nonneg,Int.ofNat_lt,hiN,hiN0,hil,hgd,hw1,bD,bG hiN,bG hiN0,dN,Int.toNat_natCast,ha,hn];exact AX h_)
      refine T2 (hK _ _ _ ?_);clear hK K;refine aK (by kernel_rfl) ?_;refine TQ hw1 ?_;refine⟨⟨i+1,hil⟩,aL (by omega) (by simp[aY,fin_at,finA_at,upd_at,HV.men,HV.menL,HV.norm,HV.toC,HV.toCL,bD]) (by simp[aZ,fob_at,upd_at,none0_at,bV,HO.men,HV.men,HV.menL,HV.norm,HV.toC,HV.toCL,hs1]),?_⟩;show s.length-(i+1)<s.length-i;omega
     refine bI (T3 ?_);clear hK K;refine AX (hK _ _ _ ?_);clear hK K;refine aK (by kernel_rfl) ?_;refine T0 (hK _ _ _ ?_);clear hK K;have hei:i=s.length:=by simp at hb;omega
     subst hei;have hra:=vQ (ps:=ps) (s:=s) (k:=k);refine dF [144] (bH (fr2:=fin [(1,.c (.str s)),(7,.c (.slc (cL (s.length+1) (mD ps s (k+1))))),(31,.c (.slc (ps.map Pt.cv))),(32,.c (.int .i64 ps.length)),(33,.c (.int .i64 k))]) (ob2:=fob []) (nx2:=900) (aL (by omega) (by simp[aY,eB,fin_at,finA_at,upd_at,fob_at,HV.close,HV.closeL,CV.denil,CV.denilL,iY,denilL_Pt,hra,HV.men,HV.menL,HV.norm,HV.toC,HV.toCL,bD]) (by simp[aZ,eC,fob_at,upd_at,none0_at,bV,HO.close,HV.close,HV.closeL,HO.men,HV.men,HV.menL,HV.norm,HV.toC,HV.toCL])) ?_);refine aK (by kernel_rfl) ?_;refine TQ (iH k) ?_;refine⟨⟨k+1,hlt⟩,fF,?_⟩;show ps.length-(k+1)<ps.length-k;omega
    by_cases hm:mD ps s k 0=true
    ·
     have hz:(cL (s.length+1) (fun _=>false)).set 0 (.bool true)=cL (s.length+1) (nxt ps s k 0):=iZ (by rw[hm,hprt,hlong];rfl);refine Rg ?_;iterate 6 refine S0 ?_ (e:=fun _ h_=>by simp only[sH,↓sP,sA,tyS,simprocAttr,hzn,bD,bG (Nat.succ_pos s.length),Int.toNat_zero,hm,hlong,Pt.cells,Pt.isAgg,Pt.getAll];exact AX h_)
     refine aP (g:=some (47,true)) rfl rfl fun K' hK'=>?_;simp only[sH,↓sP,sA,tyS,simprocAttr,hzn,bD,bG (Nat.succ_pos s.length),Int.toNat_zero,hm,hlong,Pt.cells,Pt.isAgg,Pt.getAll];refine C1 (gA ps[k] hk3) ?_;rintro u rfl;refine AX (hK' _ _ ?_);clear hK' K';iterate 3 refine S0 ?_ (e:=fun _ h_=>by simp only[sH,↓sP,sA,tyS,simprocAttr,hzn,bD,bG (Nat.succ_pos s.length),Int.toNat_zero,hm,hlong,Pt.cells,Pt.isAgg,Pt.getAll];exact AX h_)
     refine T4 ?_;exact key _ _ _ (aL (by omega) (by simp[aY,fin_at,finA_at,upd_at,HV.men,HV.menL,HV.norm,HV.toC,HV.toCL,bD]) (by simp[aZ,fob_at,upd_at,none0_at,bV,HO.men,HV.men,HV.menL,HV.norm,HV.toC,HV.toCL,hz]))
    have hm0:mD ps s k 0=false:=by simpa using hm
    have hz:(cL (s.length+1) (fun _=>false)).set 0 (.bool false)=cL (s.length+1) (nxt ps s k 0):=iZ (by rw[hm0];rfl);refine Rg ?_;iterate 10 refine S0 ?_ (e:=fun _ h_=>by simp only[sH,↓sP,sA,tyS,simprocAttr,hzn,bD,bG (Nat.succ_pos s.length),Int.toNat_zero,hm0,Pt.cells,Pt.isAgg,Pt.getAll];exact AX h_)
    refine T4 ?_;exact key _ _ _ (aL (by omega) (by simp[aY,fin_at,finA_at,upd_at,HV.men,HV.menL,HV.norm,HV.toC,HV.toCL,bD]) (by simp[aZ,fob_at,upd_at,none0_at,bV,HO.men,HV.men,HV.menL,HV.norm,HV.toC,HV.toCL,hz]))
   by_cases h1:ps[k].k=1
   ·
    have hlong:ps[k].long=false:=by simp[Pt.long,h1]
    refine aB fun K hK=>Rg ?_;clear F;have F:=aI @Pt.cells (aI @Pt.isAgg @Pt.getAll);refine SF ?_;refine HS rfl rfl fun K' hK'=>T6 ?_;refine C1 (aC5 ps[k] (.inl h1)) ?_;rintro u rfl;refine AX (hK' _ _ ?_);clear hK' K';refine SF ?_;refine T2 (hK _ _ _ ?_);clear hK K;refine aB fun K hK=>Rg ?_;clear F;have F:=aI hwn (aI hn0 (aI hrep @Int.toNat_natCast));iterate 5 refine SF ?_
    refine T2 (hK _ _ _ ?_);clear hK K;refine aB fun K hK=>?_;have key: ∀fr ob nx,Fits 0 fr ob (fin [(1,.c (.str s)),(7,.c (.slc (cL (s.length+1) (mD ps s k)))),(9,.ptr 112 0),(10,.c (.fn 116)),(11,.own 144 (s.length+1)),(31,.c (.slc (ps.map Pt.cv))),(32,.c (.int .i64 ps.length)),(33,.c (.int .i64 k))]) (fob [(112,.box 140 (.c ps[k].cv)),(144,.row 4 1 (cL (s.length+1) (nxt ps s k 0)))]) 250→K fr ob nx:=by
     rintro fr ob nx hf;refine hK _ _ _ (bH hf ?_);clear hf hK K;refine aB fun K hK=>?_;refine R0 ?_;refine aN ?_;refine bS (α:={i:Nat//i≤s.length}) (fun i=>(fin [(1,.c (.str s)),(7,.c (.slc (cL (s.length+1) (mD ps s k)))),(9,.ptr 112 0),(10,.c (.fn 116)),(11,.own 144 (s.length+1)),(31,.c (.slc (ps.map Pt.cv))),(32,.c (.int .i64 ps.length)),(33,.c (.int .i64 k)),(53,.c (.int .i64 s.length)),(54,.c (.int .i64 i.1))],fob [(112,.box 140 (.c ps[k].cv)),(144,.row 4 1 (cL (s.length+1) (nxt ps s k i.1)))])) 300 (fun i=>s.length-i.1) ⟨0,by omega⟩ (fF) ?_;rintro⟨i,hi⟩;refine R0 ?_;refine aB fun K hK=>?_;refine aG (b:=decide ((i:Int)<s.length)) rfl (fun hb=>?_) (fun hb=>?_)
     ·
      have hil:i<s.length:=by simpa using hb
      clear hb;have hgd:s.getD i 0=s[i]:=by simp[hil]
      have hiN:i+1<s.length+1:=by omega
      have hiN0:i<s.length+1:=by omega
      have hw1:IntKind.i64.wrap ((i:Int)+1)=((i+1:Nat):Int):=by rw[IntWalk.i64_in _ (by omega)];rfl
      refine aJ ?_;refine T0 (hK _ _ _ ?_);clear hK K;refine aB fun K hK=>?_;refine aN ?_;refine R0 ?_;refine aN ?_;refine aB fun K hK=>Rg ?_;clear F;have F:=aI @Pt.cells (aI @Pt.isAgg (aI @Pt.getAll hlong));refine SF ?_;refine HS rfl rfl fun K' hK'=>T6 ?_;refine C1 (gA ps[k] hk3) ?_;rintro u rfl;refine AX (hK' _ _ ?_);clear hK' K';refine SF ?_;refine T2 (hK _ _ _ ?_);clear hK K;refine CF rfl ?_;by_cases ha:mD ps s k i=true
      ·
       have htk:ps[k].takes s[i]=(!(s[i]==47)):=by simp[Pt.takes,h1]
       have hs1:(cL (s.length+1) (nxt ps s k i)).set (i+1) (.bool (!(s[i]==47)))=cL (s.length+1) (nxt ps s k (i+1)):=gL (by rw[pP,hprt,hlong,hgd];simp[ha,htk]);refine Rg ?_;iterate 12 refine S0 ?_ (e:=fun _ h_=>by simp only[sH,↓sP,sA,tyS,simprocAttr,Int.natCast_nonneg,Int.ofNat_lt,hiN,hiN0,hil,hgd,hw1,bD,bG hiN,bG hiN0,dN,Int.toNat_natCast,ha];exact AX h_)
       refine aP (g:=some (64,true)) rfl rfl fun K' hK'=>?_;simp only[sH,↓sP,sA,tyS,simprocAttr,Int.natCast_nonneg,Int.ofNat_lt,hiN,hiN0,hil,hgd,hw1,bD,bG hiN,bG hiN0,dN,Int.toNat_natCast,ha];refine C1 (bC9 s[i]) ?_;rintro u rfl;refine AX (hK' _ _ ?_);clear hK' K';iterate 3 refine S0 ?_ (e:=fun _ h_=>by simp only[sH,↓sP,sA,tyS,simprocAttr,Int.natCast_nonneg,Int.ofNat_lt,hiN,hiN0,hil,hgd,hw1,bD,bG hiN,bG hiN0,dN,Int.toNat_natCast,ha];exact AX h_)
       refine T2 (hK _ _ _ ?_);clear hK K;refine aK (by kernel_rfl) ?_;refine TQ hw1 ?_;refine⟨⟨i+1,hil⟩,aL (by omega) (by simp[aY,fin_at,finA_at,upd_at,HV.men,HV.menL,HV.norm,HV.toC,HV.toCL,bD]) (by simp[aZ,fob_at,upd_at,none0_at,bV,HO.men,HV.men,HV.menL,HV.norm,HV.toC,HV.toCL,hs1]),?_⟩;show s.length-(i+1)<s.length-i;omega
      have ha:mD ps s k i=false:=by simpa using ha
      have htk:ps[k].takes s[i]=(!(s[i]==47)):=by simp[Pt.takes,h1]
      have hs1:(cL (s.length+1) (nxt ps s k i)).set (i+1) (.bool false)=cL (s.length+1) (nxt ps s k (i+1)):=gL (by rw[pP,hprt,hlong,hgd];simp[ha,htk]);refine Rg ?_;iterate 16 refine S0 ?_ (e:=fun _ h_=>by simp only[sH,↓sP,sA,tyS,simprocAttr,Int.natCast_nonneg,Int.ofNat_lt,hiN,hiN0,hil,hgd,hw1,bD,bG hiN,bG hiN0,dN,Int.toNat_natCast,ha];exact AX h_)
      refine T2 (hK _ _ _ ?_);clear hK K;refine aK (by kernel_rfl) ?_;refine TQ hw1 ?_;refine⟨⟨i+1,hil⟩,aL (by omega) (by simp[aY,fin_at,finA_at,upd_at,HV.men,HV.menL,HV.norm,HV.toC,HV.toCL,bD]) (by simp[aZ,fob_at,upd_at,none0_at,bV,HO.men,HV.men,HV.menL,HV.norm,HV.toC,HV.toCL,hs1]),?_⟩;show s.length-(i+1)<s.length-i;omega
     refine bI (T3 ?_);clear hK K;refine AX (hK _ _ _ ?_);clear hK K;refine aK (by kernel_rfl) ?_;refine T0 (hK _ _ _ ?_);clear hK K;have hei:i=s.length:=by simp at hb;omega
     subst hei;have hra:=vQ (ps:=ps) (s:=s) (k:=k);refine dF [144] (bH (fr2:=fin [(1,.c (.str s)),(7,.c (.slc (cL (s.length+1) (mD ps s (k+1))))),(31,.c (.slc (ps.map Pt.cv))),(32,.c (.int .i64 ps.length)),(33,.c (.int .i64 k))]) (ob2:=fob []) (nx2:=900) (aL (by omega) (by simp[aY,eB,fin_at,finA_at,upd_at,fob_at,HV.close,HV.closeL,CV.denil,CV.denilL,iY,denilL_Pt,hra,HV.men,HV.menL,HV.norm,HV.toC,HV.toCL,bD]) (by simp[aZ,eC,fob_at,upd_at,none0_at,bV,HO.close,HV.close,HV.closeL,HO.men,HV.men,HV.menL,HV.norm,HV.toC,HV.toCL])) ?_);refine aK (by kernel_rfl) ?_;refine TQ (iH k) ?_;refine⟨⟨k+1,hlt⟩,fF,?_⟩;show ps.length-(k+1)<ps.length-k;omega
    by_cases hm:mD ps s k 0=true
    ·
     have hz:(cL (s.length+1) (fun _=>false)).set 0 (.bool false)=cL (s.length+1) (nxt ps s k 0):=iZ (by rw[hm,hprt,hlong];rfl);refine Rg ?_;iterate 6 refine S0 ?_ (e:=fun _ h_=>by simp only[sH,↓sP,sA,tyS,simprocAttr,hzn,bD,bG (Nat.succ_pos s.length),Int.toNat_zero,hm,hlong,Pt.cells,Pt.isAgg,Pt.getAll];exact AX h_)
     refine aP (g:=some (47,true)) rfl rfl fun K' hK'=>?_;simp only[sH,↓sP,sA,tyS,simprocAttr,hzn,bD,bG (Nat.succ_pos s.length),Int.toNat_zero,hm,hlong,Pt.cells,Pt.isAgg,Pt.getAll];refine C1 (gA ps[k] hk3) ?_;rintro u rfl;refine AX (hK' _ _ ?_);clear hK' K';iterate 3 refine S0 ?_ (e:=fun _ h_=>by simp only[sH,↓sP,sA,tyS,simprocAttr,hzn,bD,bG (Nat.succ_pos s.length),Int.toNat_zero,hm,hlong,Pt.cells,Pt.isAgg,Pt.getAll];exact AX h_)
     refine T4 ?_;exact key _ _ _ (aL (by omega) (by simp[aY,fin_at,finA_at,upd_at,HV.men,HV.menL,HV.norm,HV.toC,HV.toCL,bD]) (by simp[aZ,fob_at,upd_at,none0_at,bV,HO.men,HV.men,HV.menL,HV.norm,HV.toC,HV.toCL,hz]))
    have hm0:mD ps s k 0=false:=by simpa using hm
    have hz:(cL (s.length+1) (fun _=>false)).set 0 (.bool false)=cL (s.length+1) (nxt ps s k 0):=iZ (by rw[hm0];rfl);refine Rg ?_;iterate 10 refine S0 ?_ (e:=fun _ h_=>by simp only[sH,↓sP,sA,tyS,simprocAttr,hzn,bD,bG (Nat.succ_pos s.length),Int.toNat_zero,hm0,Pt.cells,Pt.isAgg,Pt.getAll];exact AX h_)
    refine T4 ?_;exact key _ _ _ (aL (by omega) (by simp[aY,fin_at,finA_at,upd_at,HV.men,HV.menL,HV.norm,HV.toC,HV.toCL,bD]) (by simp[aZ,fob_at,upd_at,none0_at,bV,HO.men,HV.men,HV.menL,HV.norm,HV.toC,HV.toCL,hz]))
   have h2:ps[k].k=2:=by omega
   have hlong:ps[k].long=true:=by simp[Pt.long,h2]
   refine aB fun K hK=>Rg ?_;clear F;have F:=aI @Pt.cells (aI @Pt.isAgg @Pt.getAll);refine SF ?_;refine HS rfl rfl fun K' hK'=>T6 ?_;refine C1 (aC5 ps[k] (.inr h2)) ?_;rintro u rfl;refine AX (hK' _ _ ?_);clear hK' K';refine SF ?_;refine T2 (hK _ _ _ ?_);clear hK K;refine aB fun K hK=>Rg ?_;clear F;have F:=aI hwn (aI hn0 (aI hrep @Int.toNat_natCast));iterate 5 refine SF ?_
   refine T2 (hK _ _ _ ?_);clear hK K;refine aB fun K hK=>?_;have key: ∀fr ob nx,Fits 0 fr ob (fin [(1,.c (.str s)),(7,.c (.slc (cL (s.length+1) (mD ps s k)))),(9,.ptr 112 0),(10,.c (.fn 116)),(11,.own 144 (s.length+1)),(31,.c (.slc (ps.map Pt.cv))),(32,.c (.int .i64 ps.length)),(33,.c (.int .i64 k))]) (fob [(112,.box 140 (.c ps[k].cv)),(144,.row 4 1 (cL (s.length+1) (nxt ps s k 0)))]) 250→K fr ob nx:=by
    rintro fr ob nx hf;refine hK _ _ _ (bH hf ?_);clear hf hK K;refine aB fun K hK=>?_;refine R0 ?_;refine aN ?_;refine bS (α:={i:Nat//i≤s.length}) (fun i=>(fin [(1,.c (.str s)),(7,.c (.slc (cL (s.length+1) (mD ps s k)))),(9,.ptr 112 0),(10,.c (.fn 116)),(11,.own 144 (s.length+1)),(31,.c (.slc (ps.map Pt.cv))),(32,.c (.int .i64 ps.length)),(33,.c (.int .i64 k)),(53,.c (.int .i64 s.length)),(54,.c (.int .i64 i.1))],fob [(112,.box 140 (.c ps[k].cv)),(144,.row 4 1 (cL (s.length+1) (nxt ps s k i.1)))])) 300 (fun i=>s.length-i.1) ⟨0,by omega⟩ (fF) ?_;rintro⟨i,hi⟩;refine R0 ?_;refine aB fun K hK=>?_;refine aG (b:=decide ((i:Int)<s.length)) rfl (fun hb=>?_) (fun hb=>?_)
    ·
     have hil:i<s.length:=by simpa using hb
     clear hb;have hgd:s.getD i 0=s[i]:=by simp[hil]
     have hiN:i+1<s.length+1:=by omega
     have hiN0:i<s.length+1:=by omega
     have hw1:IntKind.i64.wrap ((i:Int)+1)=((i+1:Nat):Int):=by rw[IntWalk.i64_in _ (by omega)];rfl
     refine aJ ?_;refine T0 (hK _ _ _ ?_);clear hK K;refine aB fun K hK=>?_;refine aN ?_;refine R0 ?_;refine aN ?_;refine aB fun K hK=>Rg ?_;clear F;have F:=aI @Pt.cells (aI @Pt.isAgg (aI @Pt.getAll hlong));refine SF ?_;refine HS rfl rfl fun K' hK'=>T6 ?_;refine C1 (gA ps[k] hk3) ?_;rintro u rfl;refine AX (hK' _ _ ?_);clear hK' K';refine SF ?_;refine T2 (hK _ _ _ ?_);clear hK K;refine CT rfl ?_;by_cases ha:mD ps s k (i+1)=true
     ·
      have htk:ps[k].takes s[i]=(!(s[i]==47)):=by simp[Pt.takes,h2]
      have hs1:(cL (s.length+1) (nxt ps s k i)).set (i+1) (.bool true)=cL (s.length+1) (nxt ps s k (i+1)):=gL (by rw[pP,hprt,hlong,hgd];simp[ha,htk]);refine Rg ?_;iterate 23 refine S0 ?_ (e:=fun _ h_=>by simp only[sH,↓sP,sA,tyS,simprocAttr,Int.natCast_nonneg,Int.ofNat_lt,hiN,hiN0,hil,hgd,hw1,bD,bG hiN,bG hiN0,dN,Int.toNat_natCast,ha];exact AX h_)
      refine T2 (hK _ _ _ ?_);clear hK K;refine aK (by kernel_rfl) ?_;refine TQ hw1 ?_;refine⟨⟨i+1,hil⟩,aL (by omega) (by simp[aY,fin_at,finA_at,upd_at,HV.men,HV.menL,HV.norm,HV.toC,HV.toCL,bD]) (by simp[aZ,fob_at,upd_at,none0_at,bV,HO.men,HV.men,HV.menL,HV.norm,HV.toC,HV.toCL,hs1]),?_⟩;show s.length-(i+1)<s.length-i;omega
     by_cases hn:mD ps s (k+1) i=true
     ·
      have ha:mD ps s k (i+1)=false:=by simpa using ha
      have htk:ps[k].takes s[i]=(!(s[i]==47)):=by simp[Pt.takes,h2]
      have hs1:(cL (s.length+1) (nxt ps s k i)).set (i+1) (.bool (!(s[i]==47)))=cL (s.length+1) (nxt ps s k (i+1)):=gL (by rw[pP,hprt,hlong,hgd];simp[ha,hn,htk]);refine Rg ?_;iterate 18 refine S0 ?_ (e:=fun _ h_=>by simp only[sH,↓sP,sA,tyS,simprocAttr,Int.natCast_nonneg,Int.ofNat_lt,hiN,hiN0,hil,hgd,hw1,bD,bG hiN,bG hiN0,dN,Int.toNat_natCast,ha,hn];exact AX h_)
      refine aP (g:=some (88,true)) rfl rfl fun K' hK'=>?_;simp only[sH,↓sP,sA,tyS,simprocAttr,Int.natCast_nonneg,Int.ofNat_lt,hiN,hiN0,hil,hgd,hw1,bD,bG hiN,bG hiN0,dN,Int.toNat_natCast,ha,hn];refine C1 (bC9 s[i]) ?_;rintro u rfl;refine AX (hK' _ _ ?_);clear hK' K';iterate 4 refine S0 ?_ (e:=fun _ h_=>by simp only[sH,↓sP,sA,tyS,simprocAttr,Int.natCast_nonneg,Int.ofNat_lt,hiN,hiN0,hil,hgd,hw1,bD,bG hiN,bG hiN0,dN,Int.toNat_natCast,ha,hn];exact AX h_)
      refine T2 (hK _ _ _ ?_);clear hK K;refine aK (by kernel_rfl) ?_;refine TQ hw1 ?_;refine⟨⟨i+1,hil⟩,aL (by omega) (by simp[aY,fin_at,finA_at,upd_at,HV.men,HV.menL,HV.norm,HV.toC,HV.toCL,bD]) (by simp[aZ,fob_at,upd_at,none0_at,bV,HO.men,HV.men,HV.menL,HV.norm,HV.toC,HV.toCL,hs1]),?_⟩;show s.length-(i+1)<s.length-i;omega
     have ha:mD ps s k (i+1)=false:=by simpa using ha
     have hn:mD ps s (k+1) i=false:=by simpa using hn
     have htk:ps[k].takes s[i]=(!(s[i]==47)):=by simp[Pt.takes,h2]
     have hs1:(cL (s.length+1) (nxt ps s k i)).set (i+1) (.bool false)=cL (s.length+1) (nxt ps s k (i+1)):=gL (by rw[pP,hprt,hlong,hgd];simp[ha,hn,htk]);refine Rg ?_;iterate 23 refine S0 ?_ (e:=fun _ h_=>by simp only[sH,↓sP,sA,tyS,simprocAttr,Int.natCast_nonneg,Int.ofNat_lt,hiN,hiN0,hil,hgd,hw1,bD,bG hiN,bG hiN0,dN,Int.toNat_natCast,ha,hn];exact AX h_)
     refine T2 (hK _ _ _ ?_);clear hK K;refine aK (by kernel_rfl) ?_;refine TQ hw1 ?_;refine⟨⟨i+1,hil⟩,aL (by omega) (by simp[aY,fin_at,finA_at,upd_at,HV.men,HV.menL,HV.norm,HV.toC,HV.toCL,bD]) (by simp[aZ,fob_at,upd_at,none0_at,bV,HO.men,HV.men,HV.menL,HV.norm,HV.toC,HV.toCL,hs1]),?_⟩;show s.length-(i+1)<s.length-i;omega
    refine bI (T3 ?_);clear hK K;refine AX (hK _ _ _ ?_);clear hK K;refine aK (by kernel_rfl) ?_;refine T0 (hK _ _ _ ?_);clear hK K;have hei:i=s.length:=by simp at hb;omega
    subst hei;have hra:=vQ (ps:=ps) (s:=s) (k:=k);refine dF [144] (bH (fr2:=fin [(1,.c (.str s)),(7,.c (.slc (cL (s.length+1) (mD ps s (k+1))))),(31,.c (.slc (ps.map Pt.cv))),(32,.c (.int .i64 ps.length)),(33,.c (.int .i64 k))]) (ob2:=fob []) (nx2:=900) (aL (by omega) (by simp[aY,eB,fin_at,finA_at,upd_at,fob_at,HV.close,HV.closeL,CV.denil,CV.denilL,iY,denilL_Pt,hra,HV.men,HV.menL,HV.norm,HV.toC,HV.toCL,bD]) (by simp[aZ,eC,fob_at,upd_at,none0_at,bV,HO.close,HV.close,HV.closeL,HO.men,HV.men,HV.menL,HV.norm,HV.toC,HV.toCL])) ?_);refine aK (by kernel_rfl) ?_;refine TQ (iH k) ?_;refine⟨⟨k+1,hlt⟩,fF,?_⟩;show ps.length-(k+1)<ps.length-k;omega
   by_cases hm:mD ps s k 0=true
   ·
    have hz:(cL (s.length+1) (fun _=>false)).set 0 (.bool true)=cL (s.length+1) (nxt ps s k 0):=iZ (by rw[hm,hprt,hlong];rfl);refine Rg ?_;iterate 6 refine S0 ?_ (e:=fun _ h_=>by simp only[sH,↓sP,sA,tyS,simprocAttr,hzn,bD,bG (Nat.succ_pos s.length),Int.toNat_zero,hm,hlong,Pt.cells,Pt.isAgg,Pt.getAll];exact AX h_)
    refine aP (g:=some (47,true)) rfl rfl fun K' hK'=>?_;simp only[sH,↓sP,sA,tyS,simprocAttr,hzn,bD,bG (Nat.succ_pos s.length),Int.toNat_zero,hm,hlong,Pt.cells,Pt.isAgg,Pt.getAll];refine C1 (gA ps[k] hk3) ?_;rintro u rfl;refine AX (hK' _ _ ?_);clear hK' K';iterate 3 refine S0 ?_ (e:=fun _ h_=>by simp only[sH,↓sP,sA,tyS,simprocAttr,hzn,bD,bG (Nat.succ_pos s.length),Int.toNat_zero,hm,hlong,Pt.cells,Pt.isAgg,Pt.getAll];exact AX h_)
    refine T4 ?_;exact key _ _ _ (aL (by omega) (by simp[aY,fin_at,finA_at,upd_at,HV.men,HV.menL,HV.norm,HV.toC,HV.toCL,bD]) (by simp[aZ,fob_at,upd_at,none0_at,bV,HO.men,HV.men,HV.menL,HV.norm,HV.toC,HV.toCL,hz]))
   have hm0:mD ps s k 0=false:=by simpa using hm
   have hz:(cL (s.length+1) (fun _=>false)).set 0 (.bool false)=cL (s.length+1) (nxt ps s k 0):=iZ (by rw[hm0];rfl);refine Rg ?_;iterate 10 refine S0 ?_ (e:=fun _ h_=>by simp only[sH,↓sP,sA,tyS,simprocAttr,hzn,bD,bG (Nat.succ_pos s.length),Int.toNat_zero,hm0,Pt.cells,Pt.isAgg,Pt.getAll];exact AX h_)
   refine T4 ?_;exact key _ _ _ (aL (by omega) (by simp[aY,fin_at,finA_at,upd_at,HV.men,HV.menL,HV.norm,HV.toC,HV.toCL,bD]) (by simp[aZ,fob_at,upd_at,none0_at,bV,HO.men,HV.men,HV.menL,HV.norm,HV.toC,HV.toCL,hz]))
  refine bI (T3 ?_);clear hK K;refine AX (hK _ _ _ ?_);clear hK K;have hek:k=ps.length:=by simp at hb;omega
  subst hek;refine aB fun K hK=>Rg ?_;iterate 6 refine S0 ?_ (e:=fun _ h_=>by simp only[sH,↓sP,sA,tyS,simprocAttr,Int.natCast_nonneg,Int.ofNat_lt,Nat.lt_succ_self,bD,bG (Nat.lt_succ_self s.length),Int.toNat_natCast];exact AX h_)
  refine T2 (hK _ _ _ ?_);clear hK K;refine aE (RT Tryz.results72 ?_);exact aH [] (.bool (mD ps s ps.length s.length)) rfl (by rw[hmv])
 rename_i ps;have hs0:kS s=false:=by simpa using hs
 refine aB fun K hK=>Rg ?_;iterate 4 refine S0 ?_ (e:=fun _ h_=>by simp only[sH,↓sP,sA,tyS,simprocAttr,Option.isSome_some,Bool.not_true,hs0,Bool.not_false,Option.getD_some];exact AX h_)
 refine aP (g:=some (20,false)) rfl rfl fun K' hK'=>?_;simp only[sH,↓sP,sA,tyS,simprocAttr,Option.isSome_some,Bool.not_true,hs0,Bool.not_false,Option.getD_some];refine C1 (bD6 s) ?_;rintro u rfl;refine AX (hK' _ _ ?_);clear hK' K';iterate 2 refine S0 ?_ (e:=fun _ h_=>by simp only[sH,↓sP,sA,tyS,simprocAttr,Option.isSome_some,Bool.not_true,hs0,Bool.not_false,Option.getD_some];exact AX h_)
 refine T2 (hK _ _ _ ?_);clear hK K;refine CT rfl ?_;refine R0 ?_;refine aE (RT Tryz.results72 ?_);exact aH [] (.bool false) rfl (by rw[aR1 hs0])
end Go.Proofs.YtlldglbooaefhaaGreatDoor
namespace Go.Pl
open Go Go.Hl
section
variable {ps:List Pt}{s:aF}
end
end Go.Pl
namespace Go.Proofs.YtlldglbooaefhaaGreatDoor
open Go Go.Hl Go.Pl
set_option maxRecDepth 10000
set_option maxHeartbeats 16000000
end Go.Proofs.YtlldglbooaefhaaGreatDoor
namespace Go.Pl
open Go Go.Hl
variable {q:Rq}
theorem bU8 (h:(q.k==1||(q.k==3||q.k==5))=true):fB q=(inB q.n 1 32&&gF q ⟨q.k,q.n,0,[]⟩):=by grind[fB,gF]
theorem aR4 (h:q.k=4):fB q=((inB q.n 1 32&&inB q.m 0 32)&&gF q ⟨q.k,q.n,q.m,[]⟩):=by simp[fB,h,gF,Bool.and_assoc]
theorem bU9 (h:q.k=2):fB q=(dU q.t&&gF q ⟨q.k,0,0,q.t⟩):=by simp[fB,h,gF]
theorem bV0 (h:q.k=6):fB q=(inB q.n 1 10&&gF q ⟨q.k,q.n,0,[]⟩):=by simp[fB,h,gF]
theorem bV1 (h:q.k=7):fB q=(inB q.n 0 vB&&gF q ⟨q.k,q.n,0,[]⟩):=by simp[fB,h,gF]
theorem bV2 (h:q.k=8):fB q=(true&&gF q ⟨q.k,0,0,[]⟩):=by simp[fB,h,gF]
theorem bD7 (h:(q.k==1||(q.k==3||q.k==5))=false)(h4:q.k≠4)(h2:q.k≠2)(h6:q.k≠6)(h7:q.k≠7)(h8:q.k≠8):fB q=false:=by simp_all[fB,if_neg]
theorem xX (h:(q.k==1||(q.k==3||q.k==5))=true):fB q=(inB q.n 1 32&&(q.m==0&&q.t==[])):=by simp_all[fB,if_pos]
theorem sD (h:(q.k==4)=true):fB q=(inB q.n 1 32&&(decide (0≤q.m)&&(decide (q.m≤32)&&q.t==[]))):=by grind[fB,inB,Bool.and_assoc]
theorem xY (h:(q.k==2)=true):fB q=(q.n==0&&(q.m==0&&dU q.t)):=by grind[fB,dU]
theorem sF (h:(q.k==6)=true):fB q=(decide (1≤q.n)&&(decide (q.n≤10)&&(q.m==0&&q.t==[]))):=by grind[fB,inB,Bool.and_assoc]
theorem xZ (h:(q.k==7)=true):fB q=(inN q.n&&(q.m==0&&q.t==[])):=by
 have h':q.k=7:=by simpa using h
 have e:inB q.n 0 vB=inN q.n:=rfl;simp[fB,h',e]
theorem yA (h:(q.k==8)=true):fB q=(q.n==0&&(q.m==0&&q.t==[])):=by grind[fB]
def oB (n:Nd):Bool:=
 if n.k=1 then n.c==0&&(n.n==0&&fB n.q)
 else if n.k=2∨n.k=3 then decide (1≤n.c)&&(n.n==0&&gF n.q rq0)
 else if n.k=4 then decide (1≤n.c)&&(decide (1≤n.n)&&(decide (n.n≤n.c)&&gF n.q rq0))
 else false
theorem aH4 (n:Nd):cJ n=(oB n&&!decide (60<n.c)):=by
 unfold cJ oB inB;have e:(!decide (60<n.c))=decide (n.c≤60):=by
  by_cases h:n.c≤60
  · rw[decide_eq_true h,decide_eq_false (by omega)];rfl
  · rw[decide_eq_false h,decide_eq_true (by omega)];rfl
 rw[e];split
 ·
  by_cases h:n.c=0
  · simp[h]
  · simp[h]
 ·
  split
  · generalize decide (1≤n.c)=A;generalize decide (n.c≤60)=B;generalize gF n.q rq0=C;generalize (n.n==0)=D;cases A<;>cases B<;>cases C<;>cases D<;>rfl
  ·
   split
   · generalize decide (1≤n.c)=A;generalize decide (n.c≤60)=B;generalize gF n.q rq0=C;generalize decide (1≤n.n)=D;generalize decide (n.n≤n.c)=E;cases A<;>cases B<;>cases C<;>cases D<;>cases E<;>rfl
   · rfl
variable {n:Nd}
theorem qE (h:n.k=1):cJ n=(n.c==0&&(n.n==0&&fB n.q)):=by simp only[cJ,if_pos h]
theorem aC6 (h:(n.k==2||n.k==3)=true):cJ n=((inB n.c 1 60&&gF n.q rq0)&&n.n==0):=by
 have h':n.k=2∨n.k=3:=by simpa using h
 have h1:n.k≠1:=by omega
 simp_all[cJ,if_neg,if_pos,Bool.and_assoc]
theorem qF (h:n.k=4):cJ n=((inB n.c 1 60&&gF n.q rq0)&&inB n.n 1 n.c):=by simp_all[cJ,if_neg,if_pos,Bool.and_assoc]
theorem bV3 (h1:n.k≠1)(h:(n.k==2||n.k==3)=false)(h4:n.k≠4):cJ n=false:=by simp_all[cJ,if_neg]
theorem qG (h:n.k=1):oB n=(n.c==0&&(n.n==0&&fB n.q)):=by simp only[oB,if_pos h]
theorem tQ (h:(n.k==2||n.k==3)=true):oB n=(decide (1≤n.c)&&(n.n==0&&gF n.q rq0)):=by
 have h':n.k=2∨n.k=3:=by simpa using h
 have h1:n.k≠1:=by omega
 simp_all[oB,if_neg,if_pos]
theorem mR (h:n.k=4):oB n=(decide (1≤n.c)&&(decide (1≤n.n)&&(decide (n.n≤n.c)&&gF n.q rq0))):=by simp_all[oB,if_neg,if_pos]
theorem bV4 (h1:n.k≠1)(h:(n.k==2||n.k==3)=false)(h4:n.k≠4):oB n=false:=by simp_all[oB,if_neg]
structure ScSt (l:List Nd)(i:Nat)(m v:Int):Prop where
 le:i≤l.length
 eq:rB l 1 0=rB (l.drop i) m v
 m0:0≤m
 m1:m≤1+60*i
 v0:0≤v
 v1:v≤i
theorem ScSt.init (l:List Nd):ScSt l 0 1 0:=⟨by omega,rfl,by omega,by omega,by omega,by omega⟩
variable {m v:Int}{i:Nat}{l:List Nd}
theorem ScSt.stop (h:ScSt l i m v)(hi:i<l.length)(hb:m=0∨cJ l[i]=false):dV l=false:=by
 have:rB l 1 0=none:=by
  rw[h.eq,List.drop_eq_getElem_cons hi,rB];rcases hb with hb|hb
  · rw[if_pos hb]
  · grind
 simp[dV,this]
theorem ScSt.next (h:ScSt l i m v)(hi:i<l.length)(hm:m≠0)(hb:cJ l[i]=true):ScSt l (i+1) (m+(l[i].c-1)) (if l[i].k=1 then v+1 else v):=by
 obtain⟨c1,c2,_,_⟩:=eN hb;have h0:=h.m0;have h1:=h.m1;have h2:=h.v0;have h3:=h.v1;refine⟨hi,?_,by omega,by omega,?_,?_⟩
 · rw[h.eq,List.drop_eq_getElem_cons hi,rB,if_neg hm,if_pos hb]
 all_goals grind
theorem ScSt.fin (h:ScSt l l.length m v)(h1:1≤l.length)(h2:l.length≤60):dV l=(m==0&&decide (v≤16)):=by
 have:rB l 1 0=some (m,v):=by rw[h.eq,List.drop_length];rfl
 grind[dV]
theorem kW (h:l.length<1∨60<l.length):dV l=false:=by grind[dV]
theorem qH {l:List Nd}{i:Int}(h:dV l=false∨i<0∨(l.length:Int)≤i):tL l i=[]:=by
 unfold tL;grind
theorem bK8 (h:dV l=true)(hi:i<l.length):tL l i=kT l l[i].c.toNat (i+1):=by simp_all[tL,if_pos,bR6]
theorem uT (h:dV l=false):jL l=[]:=by simp[jL,h]
theorem qI (h:dV l=true):jL l=gZ 0 l:=by simp[jL,h]
theorem pS : ∀{l:List Bool} {k:Nat},k<l.length→cnt (l.take (k+1))=cnt (l.take k)+(if l.getD k false=true then 1 else 0)
 |x::l,0,_=>by cases x<;>simp[cnt]
 |x::l,k+1,h=>by
  have h':k<l.length:=by simpa using h
  have e: ∀m,cnt ((x::l).take (m+1))=(if x=true then 1 else 0)+cnt (l.take m):=fun m=>by grind[cnt]
  rw[e,e,pS h'];grind
theorem bD8 (h:i<l.length):lv (l.take (i+1))=lv (l.take i)+(if l[i].k=1 then 1 else 0):=by grind[List.take_succ_eq_append_getElem,sZ,lv]
theorem aY0 (l:List Nd)(i:Nat):lv (l.take i)≤i:=by grind[cH5]
def bwL (l:List Nd):List (List CV):=(List.range l.length).map fun j=>[.int .i64 (l.length-1-j:Nat),(l.getD (l.length-1-j) nd0).cv]
theorem sG (l:List Nd):(bwL l).length=l.length:=by simp[bwL]
theorem bV5 {l:List Nd}{j:Nat}(h:j<(bwL l).length)(h2:l.length-1-j<l.length):(bwL l)[j]=[.int .i64 (l.length-1-j:Nat),(l[l.length-1-j]).cv]:=by simp[bwL,h2]
end Go.Pl
namespace Go.Proofs.YtlldglbooaefhaaGreatDoor
open Go Go.Hl Go.Pl
set_option maxRecDepth 10000
set_option maxHeartbeats 16000000
theorem co3 :Tryz.prog.cellsOf 3=1:=by kernel_rfl
theorem co2 :Tryz.prog.cellsOf 2=1:=by kernel_rfl
theorem co9 :Tryz.prog.cellsOf 9=1:=by kernel_rfl
theorem cT4 :Tryz.prog.cellsOf 38=4:=by kernel_rfl
theorem bV6 (n:Nat)(x:Rq):CV.ofTy Tryz.prog (n+2) 38 x.cv=true:=by
 simp only[Rq.cv,CV.ofTyF,CV.ofTy,tyS,co2,co3,co9,CV.cells,beq_self_eq_true,Bool.and_true]
theorem cH9 (n:Nat)(x:Nd):CV.ofTy Tryz.prog (n+3) 40 x.cv=true:=by
 have h:=bV6 n x.q;have e: ∀m,CV.ofTy Tryz.prog (m+1) 3 (.int .i64 x.k)=true∧CV.ofTy Tryz.prog (m+1) 3 (.int .i64 x.n)=true∧CV.ofTy Tryz.prog (m+1) 3 (.int .i64 x.c)=true:=fun m=>by simp only[CV.ofTy,tyS,beq_self_eq_true,and_self]
 have e2:=e (n+1);show CV.ofTy Tryz.prog ((n+2)+1) _ _=true;rw[Nd.cv,CV.ofTy];simp only[tyS];simp only[CV.ofTyF];rw[e2.1,e2.2.1,e2.2.2,h];simp only[Rq.cells,cT4,co3,CV.cells,beq_self_eq_true,Bool.and_true]
theorem aH5 (x y:Rq)(K:CV→Prop):jI Tryz.prog .eql 38 (.c x.cv) (.c y.cv) K=K (.bool (gF x y)):=by
 have ha:aK2 Tryz.prog 38=true:=by kernel_rfl
 have h1:=bV6 6 x;have h2:=bV6 6 y;have e:CV.eqv (.agg [.int .i64 x.k,.int .i64 x.n,.int .i64 x.m,.str x.t]) (.agg [.int .i64 y.k,.int .i64 y.n,.int .i64 y.m,.str y.t])=gF x y:=by simp only[CV.eqv,CV.eqvL,gF,Bool.and_true]
 simp only[Rq.cv]at h1 h2⊢;simp only[jI,ha,h1,h2,e,true_and]
theorem cT5 (x y:Nd)(K:CV→Prop):jI Tryz.prog .neq 40 (.c x.cv) (.c y.cv) K=K (.bool (!aV6 x y)):=by
 have ha:aK2 Tryz.prog 40=true:=by kernel_rfl
 have h1:=cH9 5 x;have h2:=cH9 5 y;have e:CV.eqv (.agg [.int .i64 x.k,.int .i64 x.n,.int .i64 x.c,x.q.cv]) (.agg [.int .i64 y.k,.int .i64 y.n,.int .i64 y.c,y.q.cv])=aV6 x y:=by simp only[Rq.cv,CV.eqv,CV.eqvL,aV6,gF,Bool.and_true]
 simp only[Nd.cv]at h1 h2⊢;simp only[jI,ha,h1,h2,e,true_and]
theorem bV7 :CV.agg [.int .i64 0,.int .i64 0,.int .i64 0,.str []]=rq0.cv:=rfl
theorem iO (n a b:Int):cG Tryz.prog 57 [.int .i64 n,.int .i64 a,.int .i64 b] (fun v=>v= .bool (inB n a b)):=by
 refine FW Tryz.func57 ?_;refine R0 ?_;refine aB fun K hK=>Rg ?_;iterate 4 refine S0 ?_
 refine aD 9 rfl (fun h1_9=>?_) (fun h1_9=>?_)
 ·
  have F:=h1_9;iterate 5 refine SF ?_
  refine T2 (hK _ _ _ ?_);clear hK K;refine aE (RT Tryz.results57 ?_);exact aH [] (.bool _) rfl (by simp only[inB,h1_9,Bool.true_and,Bool.false_and])
 have F:=h1_9;iterate 5 refine SF ?_
 refine T2 (hK _ _ _ ?_);clear hK K;refine aE (RT Tryz.results57 ?_);exact aH [] (.bool _) rfl (by simp only[inB,h1_9,Bool.true_and,Bool.false_and])
theorem aR5 (q:Rq)(hn:q.t.length<2^63):cG Tryz.prog 74 [q.cv] (fun v=>v= .bool (fB q)):=by
 refine FW Tryz.func74 ?_;refine R0 ?_;refine aB fun K hK=>Rg ?_;iterate 5 refine S0 ?_
 refine T2 (hK _ _ _ ?_);clear hK K;refine R0 ?_;refine aB fun K hK=>?_;have key0: ∀(s:Bool) (u:Rq) fr ob nx,fB q=(s&&gF q u)→Fits 0 fr ob (fin [(1,.ptr 0 0),(3,.ptr 20 0),(4,.c (.bool s))]) (fob [(0,.box 38 (.c q.cv)),(20,.box 38 (.c u.cv))]) 1000→K fr ob nx:=by
  rintro s u fr ob nx hq hf;refine hK _ _ _ (bH hf ?_);clear hf hK K;refine aB fun K hK=>Rg ?_;have F:=@aH5;iterate 2 refine SF ?_
  refine aD 62 rfl (fun h18_62=>?_) (fun h18_62=>?_)
  ·
   have F:=aI @aH5 h18_62;iterate 5 refine SF ?_
   refine T2 (hK _ _ _ ?_);clear hK K;refine aE (RT Tryz.results74 ?_);exact aH [] (.bool _) rfl (by rw[hq,h18_62,Bool.true_and])
  have F:=aI @aH5 h18_62;iterate 5 refine SF ?_
  refine T2 (hK _ _ _ ?_);clear hK K;refine aE (RT Tryz.results74 ?_);exact aH [] (.bool false) rfl (by rw[hq,h18_62,Bool.false_and])
 refine R0 ?_;refine aN ?_;refine aB fun K hK=>?_;have key: ∀(b:Bool) fr ob nx,b=(q.k==1||(q.k==3||q.k==5))→Fits 0 fr ob (fin [(1,.ptr 0 0),(3,.ptr 20 0),(4,.c (.bool true)),(9,.c (.int .i64 q.k)),(10,.c (.bool b))]) (fob [(0,.box 38 (.c q.cv)),(20,.box 38 (.c (Rq.cv ⟨q.k,0,0,[]⟩)))]) 300→K fr ob nx:=by
  rintro b fr ob nx rfl hf;refine hK _ _ _ (bH hf ?_);clear hf hK K;refine aG (b:=_) rfl (fun hb=>?_) (fun hb=>?_)
  ·
   refine DW [(0,[],[]),(1,[],[]),(2,[],[]),(3,[],[]),(5,[],[]),(4,[],[0,1,5]),(6,[],[]),(7,[],[])] [0,1,0,4,12,3,63,127] ?_;iterate 5 refine W0 ?_
   refine cX (g:=none) rfl rfl fun K' hK'=>T5 ?_;refine C3 (iO _ _ _) ?_;rintro u rfl;refine AX (hK' _ _ ?_);clear hK' K';iterate 2 refine W0 ?_
   refine T4 ?_;exact key0 (inB q.n 1 32) ⟨q.k,q.n,0,[]⟩ _ _ _ (bU8 hb) (fF)
  have h1:=hb;refine R0 ?_;refine aG (b:=_) rfl (fun hb=>?_) (fun hb=>?_)
  ·
   refine DW [(0,[],[]),(1,[],[]),(2,[],[]),(3,[],[]),(4,[],[]),(5,[],[]),(12,[],[]),(6,[],[0,1,2,3,12]),(7,[],[]),(8,[],[]),(9,[],[]),(10,[],[0,1,2,3,12]),(11,[],[]),(13,[],[2,3,11]),(14,[],[]),(15,[],[11]),(16,[],[])] [0,1,0,4,0,16,48,112,240,496,1008,2032,3,6131,14335,30719,65535] ?_;iterate 7 refine W0 ?_
   refine cX (g:=none) rfl rfl fun K' hK'=>T5 ?_;refine C3 (iO _ _ _) ?_;rintro u rfl;refine AX (hK' _ _ ?_);clear hK' K';refine W0 ?_;refine aG0 28 rfl (fun h10_28=>?_) (fun h10_28=>?_)
   ·
    have F:=h10_28;iterate 2 refine WF ?_
    refine cX (g:=some (29,true)) rfl rfl fun K' hK'=>T6 ?_;refine C3 (iO _ _ _) ?_;rintro u rfl;refine AX (hK' _ _ ?_);clear hK' K';iterate 5 refine WF ?_
    refine T4 ?_;exact key0 (inB q.m 0 32) ⟨q.k,q.n,q.m,[]⟩ _ _ _ (by rw[aR4 (by simpa using hb),h10_28,Bool.true_and]) (fF)
   have F:=h10_28;iterate 8 refine WF ?_
   refine T4 ?_;exact key0 false ⟨q.k,q.n,q.m,[]⟩ _ _ _ (by rw[aR4 (by simpa using hb),h10_28];rfl) (fF)
  have h2:=hb;refine R0 ?_;refine aG (b:=_) rfl (fun hb=>?_) (fun hb=>?_)
  ·
   refine DW [(0,[],[]),(1,[],[]),(2,[],[]),(3,[],[]),(5,[],[]),(4,[],[0,1,5]),(6,[],[]),(7,[],[])] [0,1,0,4,12,3,63,127] ?_;iterate 5 refine W0 ?_
   refine cX (g:=none) rfl rfl fun K' hK'=>T5 ?_;refine C1 (aG4 _ hn) ?_;rintro u rfl;refine AX (hK' _ _ ?_);clear hK' K';iterate 2 refine W0 ?_
   refine T4 ?_;exact key0 (dU q.t) ⟨q.k,0,0,q.t⟩ _ _ _ (bU9 (by simpa using hb)) (fF)
  have h3:=hb;refine R0 ?_;refine aG (b:=_) rfl (fun hb=>?_) (fun hb=>?_)
  ·
   refine DW [(0,[],[]),(1,[],[]),(2,[],[]),(3,[],[]),(5,[],[]),(4,[],[0,1,5]),(6,[],[]),(7,[],[])] [0,1,0,4,12,3,63,127] ?_;iterate 5 refine W0 ?_
   refine cX (g:=none) rfl rfl fun K' hK'=>T5 ?_;refine C3 (iO _ _ _) ?_;rintro u rfl;refine AX (hK' _ _ ?_);clear hK' K';iterate 2 refine W0 ?_
   refine T4 ?_;exact key0 (inB q.n 1 10) ⟨q.k,q.n,0,[]⟩ _ _ _ (bV0 (by simpa using hb)) (fF)
  have h4:=hb;refine R0 ?_;refine aG (b:=_) rfl (fun hb=>?_) (fun hb=>?_)
  ·
   refine DW [(0,[],[]),(1,[],[]),(2,[],[]),(3,[],[]),(5,[],[]),(4,[],[0,1,5]),(6,[],[]),(7,[],[])] [0,1,0,4,12,3,63,127] ?_;iterate 5 refine W0 ?_
   refine cX (g:=none) rfl rfl fun K' hK'=>T5 ?_;refine C3 (iO _ _ _) ?_;rintro u rfl;refine AX (hK' _ _ ?_);clear hK' K';iterate 2 refine W0 ?_
   refine T4 ?_;exact key0 (inB q.n 0 1099511627776) ⟨q.k,q.n,0,[]⟩ _ _ _ (bV1 (by simpa using hb)) (fF)
  have h5:=hb;refine R0 ?_;refine aG (b:=_) rfl (fun hb=>?_) (fun hb=>?_)
  · refine aJ (T3 ?_);exact key0 true ⟨q.k,0,0,[]⟩ _ _ _ (bV2 (by simpa using hb)) (fF)
  refine R0 ?_;refine aE (RT Tryz.results74 ?_);exact aH [] (.bool false) rfl (by rw[bD7 h1 (by simpa using h2) (by simpa using h3) (by simpa using h4) (by simpa using h5) (by simpa using hb)])
 refine R0 ?_;refine aG (b:=_) rfl (fun hb=>?_) (fun hb=>?_)
 · refine aJ (T3 ?_);exact key (q.k==1) _ _ _ (by rw[hb];rfl) (fF)
 have h1:=hb;refine R0 ?_;refine aG (b:=_) rfl (fun hb=>?_) (fun hb=>?_)
 · refine aJ (T3 ?_);exact key (q.k==3) _ _ _ (by rw[h1,hb];rfl) (fF)
 have h1':=hb;refine aK (by kernel_rfl) ?_;simp only[↓sP,sA,tyS,simprocAttr];exact key (q.k==5) _ _ _ (by rw[h1,h1'];rfl) (fF)
theorem bV8 (n:Nd)(hn:n.q.t.length<2^63):cG Tryz.prog 42 [n.cv] (fun v=>v= .bool (cJ n)):=by
 refine FW Tryz.func42 ?_;refine R0 ?_;refine aB fun K hK=>?_;have key: ∀(b:Bool) fr ob nx,b=(inB n.c 1 60&&gF n.q rq0)→Fits 0 fr ob (fin [(1,.ptr 0 0),(3,.c (.bool b))]) (fob [(0,.box 40 (.c n.cv))]) 100→K fr ob nx:=by
  rintro b fr ob nx rfl hf;refine hK _ _ _ (bH hf ?_);clear hf hK K;refine aB fun K hK=>?_;refine R0 ?_;refine aN ?_;refine R0 ?_;refine aG (b:=_) rfl (fun hb=>?_) (fun hb=>?_)
  ·
   refine aB fun K hK=>Rg ?_;iterate 4 refine S0 ?_
   refine aD 24 rfl (fun h4_24=>?_) (fun h4_24=>?_)
   ·
    have F:=h4_24;iterate 5 refine SF ?_
    refine aD 28 rfl (fun h4_28=>?_) (fun h4_28=>?_)
    ·
     have F:=aI h4_24 h4_28;iterate 2 refine SF ?_
     refine aP (g:=some (30,true)) rfl rfl fun K' hK'=>T6 ?_;refine C1 (aR5 n.q hn) ?_;rintro u rfl;refine AX (hK' _ _ ?_);clear hK' K';iterate 2 refine SF ?_
     refine T2 (hK _ _ _ ?_);clear hK K;refine aE (RT Tryz.results42 ?_);exact aH [] (.bool _) rfl (by rw[qE (by simpa using hb),h4_24,h4_28];rfl)
    have F:=aI h4_24 h4_28;iterate 5 refine SF ?_
    refine T2 (hK _ _ _ ?_);clear hK K;refine aE (RT Tryz.results42 ?_);exact aH [] (.bool _) rfl (by rw[qE (by simpa using hb),h4_24,h4_28];rfl)
   have F:=h4_24;iterate 10 refine SF ?_
   refine T2 (hK _ _ _ ?_);clear hK K;refine aE (RT Tryz.results42 ?_);exact aH [] (.bool _) rfl (by rw[qE (by simpa using hb),h4_24];rfl)
  have h1:n.k≠1:=by simpa using hb
  refine aB fun K hK=>?_;have key2: ∀(b:Bool) fr ob nx,b=(n.k==2||n.k==3)→Fits 0 fr ob (fin [(1,.ptr 0 0),(3,.c (.bool (inB n.c 1 60&&gF n.q rq0))),(19,.c (.int .i64 n.k)),(35,.c (.bool b))]) (fob [(0,.box 40 (.c n.cv))]) 300→K fr ob nx:=by
   rintro b fr ob nx rfl hf;refine hK _ _ _ (bH hf ?_);clear hf hK K;refine aG (b:=_) rfl (fun hb=>?_) (fun hb=>?_)
   ·
    refine aB fun K hK=>Rg ?_;iterate 2 refine S0 ?_
    refine aD 38 rfl (fun h7_38=>?_) (fun h7_38=>?_)
    ·
     have F:=h7_38;iterate 5 refine SF ?_
     refine T2 (hK _ _ _ ?_);clear hK K;refine aE (RT Tryz.results42 ?_);exact aH [] (.bool _) rfl (by rw[aC6 hb,h7_38,Bool.true_and])
    have F:=h7_38;iterate 5 refine SF ?_
    refine T2 (hK _ _ _ ?_);clear hK K;refine aE (RT Tryz.results42 ?_);exact aH [] (.bool _) rfl (by rw[aC6 hb,h7_38,Bool.false_and])
   have h2:=hb;refine R0 ?_;refine aG (b:=_) rfl (fun hb=>?_) (fun hb=>?_)
   ·
    refine aB fun K hK=>Rg ?_;iterate 2 refine S0 ?_
    refine aD 46 rfl (fun h9_46=>?_) (fun h9_46=>?_)
    ·
     have F:=h9_46;iterate 5 refine SF ?_
     refine aD 50 rfl (fun h9_50=>?_) (fun h9_50=>?_)
     ·
      have F:=aI h9_46 h9_50;iterate 7 refine SF ?_
      refine T2 (hK _ _ _ ?_);clear hK K;refine aE (RT Tryz.results42 ?_);exact aH [] (.bool _) rfl (by rw[qF (by simpa using hb),h9_46,inB,h9_50];rfl)
     have F:=aI h9_46 h9_50;iterate 7 refine SF ?_
     refine T2 (hK _ _ _ ?_);clear hK K;refine aE (RT Tryz.results42 ?_);exact aH [] (.bool _) rfl (by rw[qF (by simpa using hb),h9_46,inB,h9_50];rfl)
    have F:=h9_46;iterate 12 refine SF ?_
    refine T2 (hK _ _ _ ?_);clear hK K;refine aE (RT Tryz.results42 ?_);exact aH [] (.bool _) rfl (by rw[qF (by simpa using hb),h9_46,Bool.false_and])
   refine aJ ?_;refine T0 (hK _ _ _ ?_);clear hK K;refine R0 ?_;refine aE (RT Tryz.results42 ?_);exact aH [] (.bool _) rfl (by rw[bV3 h1 h2 (by simpa using hb)])
  refine R0 ?_;refine aG (b:=_) rfl (fun hb=>?_) (fun hb=>?_)
  · refine aJ (T3 ?_);exact key2 (n.k==2) _ _ _ (by rw[hb];rfl) (fF)
  have h2:=hb;refine aK (by kernel_rfl) ?_;simp only[↓sP,sA,tyS,simprocAttr];exact key2 (n.k==3) _ _ _ (by rw[hb];rfl) (fF)
 refine Rg ?_;have F:=aI @aH5 @bV7;iterate 4 refine SF ?_
 refine aD 6 rfl (fun h1_6=>?_) (fun h1_6=>?_)
 ·
  have F:=aI @aH5 (aI @bV7 h1_6);iterate 5 refine SF ?_
  refine aD 10 rfl (fun h1_10=>?_) (fun h1_10=>?_)
  ·
   have F:=aI @aH5 (aI @bV7 (aI h1_6 h1_10));iterate 6 refine SF ?_
   refine aD 16 rfl (fun h1_16=>?_) (fun h1_16=>?_)
   · simp only[h1_16];refine T4 ?_;exact key true _ _ _ (by first|(simp only[inB,rq0,h1_6,h1_10,h1_16,Bool.true_and,Bool.false_and,Bool.and_false,Bool.and_true];done)|(simp only[inB,h1_6,h1_10,Bool.true_and];exact Eq.symm h1_16)) (fF)
   simp only[h1_16];refine T4 ?_;exact key false _ _ _ (by first|(simp only[inB,rq0,h1_6,h1_10,h1_16,Bool.true_and,Bool.false_and,Bool.and_false,Bool.and_true];done)|(simp only[inB,h1_6,h1_10,Bool.true_and];exact Eq.symm h1_16)) (fF)
  have F:=aI @aH5 (aI @bV7 (aI h1_6 h1_10));iterate 6 refine SF ?_
  refine T4 ?_;exact key false _ _ _ (by first|(simp only[inB,rq0,h1_6,h1_10,Bool.true_and,Bool.false_and,Bool.and_false,Bool.and_true];done)|(simp only[inB,h1_6,h1_10,Bool.true_and];exact Eq.symm h1_16)) (fF)
 have F:=aI @aH5 (aI @bV7 h1_6);iterate 11 refine SF ?_
 refine T4 ?_;exact key false _ _ _ (by first|(simp only[inB,rq0,h1_6,Bool.true_and,Bool.false_and,Bool.and_false,Bool.and_true];done)|(simp only[inB,h1_6,h1_10,Bool.true_and];exact Eq.symm h1_16)) (fF)
end Go.Proofs.YtlldglbooaefhaaGreatDoor
