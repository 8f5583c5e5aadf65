/- Plain Lean: requirements, nodes and lists of nodes, as the two codes ask for them. By an AI agent. -/
import Derived.Test.YtlldglbooaefhaaGreatDoorHzU1
import Derived.Test.YtlldglbooaefhaaGreatDoorPl03e
import Derived.Test.YtlldglbooaefhaaGreatDoorHlTlaw
import Derived.Test.YtlldglbooaefhaaGreatDoorPlShd
set_option linter.unusedSimpArgs false
set_option linter.unusedVariables false
set_option linter.defProp false
namespace Go.Proofs.YtlldglbooaefhaaGreatDoor
open Go Go.Hl Go.Pl
set_option maxRecDepth 10000
set_option maxHeartbeats 16000000
theorem cQ (ps:List Pt)(s:aH)(k i:Nat):nxt ps s k i i=mD ps s (k+1) i:=by simp[nxt]
theorem aM9 (p s:aH):bV Tryz.prog 72 [.str p,.str s] (fun v=>v= .bool (kE p s)):=by
 refine FW Tryz.func72 ?_;refine R0 ?_;refine aC fun K hK=>Rg ?_;refine S0 ?_;refine HS rfl rfl fun K' hK'=>T5 ?_;refine D1 (aM4 p) ?_;rintro u v ⟨rfl,rfl⟩;refine AX (hK' _ _ ?_);clear hK' K';iterate 5 refine S0 ?_
 refine T2 (hK _ _ _ ?_);clear hK K;refine aC fun K hK=>?_;cases hpv:eB p
 ·
  refine aC fun K hK=>Rg ?_;iterate 7 refine S0 ?_ (e:=fun _ h_=>by simp only[sH,↓sP,sA,tyS,simprocAttr,Option.isSome_none,Bool.not_false];exact AX h_)
  refine T2 (hK _ _ _ ?_);clear hK K;refine CT rfl ?_;refine R0 ?_;refine aF (RT Tryz.results72 ?_);exact aG [] (.bool false) rfl (by rw[tI hpv])
 by_cases hs:iD s=true
 ·
  rename_i ps;have hs200:=zR hs;obtain⟨hpl,hpk⟩:=zQ hpv;have hmv:=tK hpv hs;clear hpv;refine aC fun K hK=>Rg ?_;iterate 4 refine S0 ?_ (e:=fun _ h_=>by simp only[sH,↓sP,sA,tyS,simprocAttr,Option.isSome_some,Bool.not_true,hs,Option.getD_some];exact AX h_)
  refine aV (g:=some (20,false)) rfl rfl fun K' hK'=>?_;simp only[sH,↓sP,sA,tyS,simprocAttr,Option.isSome_some,Bool.not_true,hs,Option.getD_some];refine C1 (aY9 s) ?_;rintro u rfl;refine AX (hK' _ _ ?_);clear hK' K';iterate 2 refine S0 ?_ (e:=fun _ h_=>by simp only[sH,↓sP,sA,tyS,simprocAttr,Option.isSome_some,Bool.not_true,hs,Option.getD_some];exact AX h_)
  refine T2 (hK _ _ _ ?_);clear hK K;refine CF rfl ?_;refine aK ?_;refine T0 (hK _ _ _ ?_);clear hK K;have hwn:IntKind.i64.wrap ((s.length:Int)+1)=(((s.length+1:Nat)):Int):=by rw[IntWalk.i64_in _ (by omega)];rfl
  have hn0:(((s.length+1:Nat):Int)=0)=False:=by simp;omega
  have hzn:(0:Int)<((s.length+1:Nat):Int):=by omega
  have hrep:=rX (s.length+1);refine aC fun K hK=>Rg ?_;have F:=aI hwn (aI hn0 (aI hrep @Int.toNat_natCast));iterate 5 refine SF ?_
  refine T2 (hK _ _ _ ?_);clear hK K;refine R0 ?_ (e:=fun _ h_=>by simp only[↓sP,sA,tyS,simprocAttr,hzn,aP,aT (Nat.succ_pos s.length),Int.toNat_zero];exact AX h_);refine aC fun K hK=>?_;refine R0 ?_;refine aL ?_;have hr0:(bB (s.length+1) (fun _=>false)).set 0 (.bool true)=bB (s.length+1) (mD ps s 0):=(bF3 (ps:=ps) (s:=s)).trans bO4;refine dU [72] (bG (fr2:=fin [(1,.c (.str s)),(7,.c (.slc (bB (s.length+1) (mD ps s 0)))),(31,.c (.slc (ps.map Pt.cv))),(32,.c (.int .i64 ps.length)),(33,.c (.int .i64 0))]) (ob2:=fob []) (nx2:=90) (aN (by omega) (by simp[aY,fY,fin_at,finA_at,upd_at,fob_at,HV.close,HV.closeL,CV.denil,CV.denilL,fD,denilL_Pt,hr0,HV.men,HV.menL,HV.norm,HV.toC,HV.toCL,aP]) (by simp[aW,fZ,fob_at,upd_at,none0_at,bW,HO.close,HV.close,HV.closeL,HO.men,HV.men,HV.menL,HV.norm,HV.toC,HV.toCL])) ?_);refine bF (α:={k:Nat//k≤ps.length}) (fun k=>(fin [(1,.c (.str s)),(7,.c (.slc (bB (s.length+1) (mD ps s k.1)))),(31,.c (.slc (ps.map Pt.cv))),(32,.c (.int .i64 ps.length)),(33,.c (.int .i64 k.1))],fob [])) 100 (fun k=>ps.length-k.1) ⟨0,by omega⟩ (fF) ?_;rintro⟨k,hk⟩;refine R0 ?_;refine aC fun K hK=>?_;refine aJ (b:=decide ((k:Int)<ps.length)) rfl (fun hb=>?_) (fun hb=>?_)
  ·
   have hlt:k<ps.length:=by simpa using hb
   clear hb;have hk3:=hpk _ (List.getElem_mem hlt);have hprt:=uE hlt;refine aK ?_;refine T0 (hK _ _ _ ?_);clear hK K;refine aC fun K hK=>?_;refine aL ?_;refine aC fun K hK=>Rg ?_;clear F;have F:=aI @Int.natCast_nonneg (aI @Int.ofNat_lt (aI hlt (aI @List.length_map.{0,0} (aI (nM hlt) (aI @Pt.cells (aI @Pt.isAgg (aI @Pt.getAll @Pt.setAll)))))));iterate 4 refine SF ?_
   refine T2 (hK _ _ _ ?_);clear hK K;by_cases h0:ps[k].k=0
   ·
    have hlong:ps[k].long=false:=by simp[Pt.long,h0]
    refine aC fun K hK=>Rg ?_;clear F;have F:=aI @Pt.cells (aI @Pt.isAgg @Pt.getAll);refine SF ?_;refine HS rfl rfl fun K' hK'=>T6 ?_;refine fT (largs:=[.c ps[k].cv]) [] (bF1 ps[k] h0) rfl trivial (by simp) (by simp) ⟨rfl,rfl,rfl,rfl⟩ trivial (by simp[HV.menL,HV.men]) ?_;rintro r os ⟨rfl,rfl⟩;simp only[HV.ren,HV.renL,jN,HO.ren,sub,List.length_nil,Nat.not_lt_zero,if_false,Nat.sub_zero,Nat.add_zero];refine AX (hK' _ _ ?_);clear hK' K';refine SF ?_;refine T2 (hK _ _ _ ?_);clear hK K;refine aC fun K hK=>Rg ?_;clear F;have F:=aI hwn (aI hn0 (aI hrep @Int.toNat_natCast));iterate 5 refine SF ?_
    refine T2 (hK _ _ _ ?_);clear hK K;refine aC fun K hK=>?_;have key: ∀fr ob nx,Fits 0 fr ob (fin [(1,.c (.str s)),(7,.c (.slc (bB (s.length+1) (mD ps s k)))),(9,.ptr 112 0),(10,.clo 114 [.ptr 124 0]),(11,.own 144 (s.length+1)),(31,.c (.slc (ps.map Pt.cv))),(32,.c (.int .i64 ps.length)),(33,.c (.int .i64 k))]) (fob [(112,.box 140 (.c ps[k].cv)),(124,.box 140 (.c ps[k].cv)),(144,.row 4 1 (bB (s.length+1) (nxt ps s k 0)))]) 250→K fr ob nx:=by
     rintro fr ob nx hf;refine hK _ _ _ (bG hf ?_);clear hf hK K;refine aC fun K hK=>?_;refine R0 ?_;refine aL ?_;refine bF (α:={i:Nat//i≤s.length}) (fun i=>(fin [(1,.c (.str s)),(7,.c (.slc (bB (s.length+1) (mD ps s k)))),(9,.ptr 112 0),(10,.clo 114 [.ptr 124 0]),(11,.own 144 (s.length+1)),(31,.c (.slc (ps.map Pt.cv))),(32,.c (.int .i64 ps.length)),(33,.c (.int .i64 k)),(53,.c (.int .i64 s.length)),(54,.c (.int .i64 i.1))],fob [(112,.box 140 (.c ps[k].cv)),(124,.box 140 (.c ps[k].cv)),(144,.row 4 1 (bB (s.length+1) (nxt ps s k i.1)))])) 300 (fun i=>s.length-i.1) ⟨0,by omega⟩ (fF) ?_;rintro⟨i,hi⟩;refine R0 ?_;refine aC fun K hK=>?_;refine aJ (b:=decide ((i:Int)<s.length)) rfl (fun hb=>?_) (fun hb=>?_)
     ·
      have hil:i<s.length:=by simpa using hb
      clear hb;have hgd:s.getD i 0=s[i]:=by simp[hil]
      have hiN:i+1<s.length+1:=by omega
      have hiN0:i<s.length+1:=by omega
      have hw1:IntKind.i64.wrap ((i:Int)+1)=((i+1:Nat):Int):=by rw[IntWalk.i64_in _ (by omega)];rfl
      refine aK ?_;refine T0 (hK _ _ _ ?_);clear hK K;refine aC fun K hK=>?_;refine aL ?_;refine R0 ?_;refine aL ?_;refine aC fun K hK=>Rg ?_;clear F;have F:=aI @Pt.cells (aI @Pt.isAgg (aI @Pt.getAll hlong));refine SF ?_;refine HS rfl rfl fun K' hK'=>T6 ?_;refine C1 (fB ps[k] hk3) ?_;rintro u rfl;refine AX (hK' _ _ ?_);clear hK' K';refine SF ?_;refine T2 (hK _ _ _ ?_);clear hK K;refine CF rfl ?_;by_cases ha:mD ps s k i=true
      ·
       have htk:ps[k].takes s[i]=(s[i]==ps[k].c):=by simp[Pt.takes,h0]
       have hs1:(bB (s.length+1) (nxt ps s k i)).set (i+1) (.bool (s[i]==ps[k].c))=bB (s.length+1) (nxt ps s k (i+1)):=fR (by rw[kS,hprt,hlong,hgd];simp[ha,htk]);refine Rg ?_;iterate 12 refine S0 ?_ (e:=fun _ h_=>by simp only[sH,↓sP,sA,tyS,simprocAttr,Int.natCast_nonneg,Int.ofNat_lt,hiN,hiN0,hil,hgd,hw1,aP,aT hiN,aT hiN0,cQ,Int.toNat_natCast,ha];exact AX h_)
       refine aV (g:=some (64,true)) rfl rfl fun K' hK'=>?_;simp only[sH,↓sP,sA,tyS,simprocAttr,Int.natCast_nonneg,Int.ofNat_lt,hiN,hiN0,hil,hgd,hw1,aP,aT hiN,aT hiN0,cQ,Int.toNat_natCast,ha];refine bI8 (args:=[_]) (bX6 ps[k] s[i]) rfl (by simp) ⟨rfl,rfl,rfl,rfl⟩ ?_;rintro u rfl;refine AX (hK' _ _ ?_);clear hK' K';iterate 3 refine S0 ?_ (e:=fun _ h_=>by simp only[sH,↓sP,sA,tyS,simprocAttr,Int.natCast_nonneg,Int.ofNat_lt,hiN,hiN0,hil,hgd,hw1,aP,aT hiN,aT hiN0,cQ,Int.toNat_natCast,ha];exact AX h_)
       refine T2 (hK _ _ _ ?_);clear hK K;refine aM (by kernel_rfl) ?_;refine TQ hw1 ?_;refine⟨⟨i+1,hil⟩,aN (by omega) (by simp[aY,fin_at,finA_at,upd_at,HV.men,HV.menL,HV.norm,HV.toC,HV.toCL,aP]) (by simp[aW,fob_at,upd_at,none0_at,bW,HO.men,HV.men,HV.menL,HV.norm,HV.toC,HV.toCL,hs1]),?_⟩;show s.length-(i+1)<s.length-i;omega
      have ha:mD ps s k i=false:=by simpa using ha
      have htk:ps[k].takes s[i]=(s[i]==ps[k].c):=by simp[Pt.takes,h0]
      have hs1:(bB (s.length+1) (nxt ps s k i)).set (i+1) (.bool false)=bB (s.length+1) (nxt ps s k (i+1)):=fR (by rw[kS,hprt,hlong,hgd];simp[ha,htk]);refine Rg ?_;iterate 16 refine S0 ?_ (e:=fun _ h_=>by simp only[sH,↓sP,sA,tyS,simprocAttr,Int.natCast_nonneg,Int.ofNat_lt,hiN,hiN0,hil,hgd,hw1,aP,aT hiN,aT hiN0,cQ,Int.toNat_natCast,ha];exact AX h_)
      refine T2 (hK _ _ _ ?_);clear hK K;refine aM (by kernel_rfl) ?_;refine TQ hw1 ?_;refine⟨⟨i+1,hil⟩,aN (by omega) (by simp[aY,fin_at,finA_at,upd_at,HV.men,HV.menL,HV.norm,HV.toC,HV.toCL,aP]) (by simp[aW,fob_at,upd_at,none0_at,bW,HO.men,HV.men,HV.menL,HV.norm,HV.toC,HV.toCL,hs1]),?_⟩;show s.length-(i+1)<s.length-i;omega
     refine bA (T3 ?_);clear hK K;refine AX (hK _ _ _ ?_);clear hK K;refine aM (by kernel_rfl) ?_;refine T0 (hK _ _ _ ?_);clear hK K;have hei:i=s.length:=by simp at hb;omega
     subst hei;have hra:=uD (ps:=ps) (s:=s) (k:=k);refine dU [144] (bG (fr2:=fin [(1,.c (.str s)),(7,.c (.slc (bB (s.length+1) (mD ps s (k+1))))),(31,.c (.slc (ps.map Pt.cv))),(32,.c (.int .i64 ps.length)),(33,.c (.int .i64 k))]) (ob2:=fob []) (nx2:=900) (aN (by omega) (by simp[aY,fY,fin_at,finA_at,upd_at,fob_at,HV.close,HV.closeL,CV.denil,CV.denilL,fD,denilL_Pt,hra,HV.men,HV.menL,HV.norm,HV.toC,HV.toCL,aP]) (by simp[aW,fZ,fob_at,upd_at,none0_at,bW,HO.close,HV.close,HV.closeL,HO.men,HV.men,HV.menL,HV.norm,HV.toC,HV.toCL])) ?_);refine aM (by kernel_rfl) ?_;refine TQ (jP k) ?_;refine⟨⟨k+1,hlt⟩,fF,?_⟩;show ps.length-(k+1)<ps.length-k;omega
    by_cases hm:mD ps s k 0=true
    ·
     have hz:(bB (s.length+1) (fun _=>false)).set 0 (.bool false)=bB (s.length+1) (nxt ps s k 0):=iG (by rw[hm,hprt,hlong];rfl);refine Rg ?_;iterate 6 refine S0 ?_ (e:=fun _ h_=>by simp only[sH,↓sP,sA,tyS,simprocAttr,hzn,aP,aT (Nat.succ_pos s.length),Int.toNat_zero,hm,hlong,Pt.cells,Pt.isAgg,Pt.getAll];exact AX h_)
     refine aV (g:=some (47,true)) rfl rfl fun K' hK'=>?_;simp only[sH,↓sP,sA,tyS,simprocAttr,hzn,aP,aT (Nat.succ_pos s.length),Int.toNat_zero,hm,hlong,Pt.cells,Pt.isAgg,Pt.getAll];refine C1 (fB ps[k] hk3) ?_;rintro u rfl;refine AX (hK' _ _ ?_);clear hK' K';iterate 3 refine S0 ?_ (e:=fun _ h_=>by simp only[sH,↓sP,sA,tyS,simprocAttr,hzn,aP,aT (Nat.succ_pos s.length),Int.toNat_zero,hm,hlong,Pt.cells,Pt.isAgg,Pt.getAll];exact AX h_)
     refine T4 ?_;exact key _ _ _ (aN (by omega) (by simp[aY,fin_at,finA_at,upd_at,HV.men,HV.menL,HV.norm,HV.toC,HV.toCL,aP]) (by simp[aW,fob_at,upd_at,none0_at,bW,HO.men,HV.men,HV.menL,HV.norm,HV.toC,HV.toCL,hz]))
    have hm0:mD ps s k 0=false:=by simpa using hm
    have hz:(bB (s.length+1) (fun _=>false)).set 0 (.bool false)=bB (s.length+1) (nxt ps s k 0):=iG (by rw[hm0];rfl);refine Rg ?_;iterate 10 refine S0 ?_ (e:=fun _ h_=>by simp only[sH,↓sP,sA,tyS,simprocAttr,hzn,aP,aT (Nat.succ_pos s.length),Int.toNat_zero,hm0,Pt.cells,Pt.isAgg,Pt.getAll];exact AX h_)
    refine T4 ?_;exact key _ _ _ (aN (by omega) (by simp[aY,fin_at,finA_at,upd_at,HV.men,HV.menL,HV.norm,HV.toC,HV.toCL,aP]) (by simp[aW,fob_at,upd_at,none0_at,bW,HO.men,HV.men,HV.menL,HV.norm,HV.toC,HV.toCL,hz]))
   by_cases h3:ps[k].k=3
   ·
    have hlong:ps[k].long=true:=by simp[Pt.long,h3]
    refine aC fun K hK=>Rg ?_;clear F;have F:=aI @Pt.cells (aI @Pt.isAgg @Pt.getAll);refine SF ?_;refine HS rfl rfl fun K' hK'=>T6 ?_;refine C1 (bF2 ps[k] h3) ?_;rintro u rfl;refine AX (hK' _ _ ?_);clear hK' K';refine SF ?_;refine T2 (hK _ _ _ ?_);clear hK K;refine aC fun K hK=>Rg ?_;clear F;have F:=aI hwn (aI hn0 (aI hrep @Int.toNat_natCast));iterate 5 refine SF ?_
    refine T2 (hK _ _ _ ?_);clear hK K;refine aC fun K hK=>?_;have key: ∀fr ob nx,Fits 0 fr ob (fin [(1,.c (.str s)),(7,.c (.slc (bB (s.length+1) (mD ps s k)))),(9,.ptr 112 0),(10,.c (.fn 115)),(11,.own 144 (s.length+1)),(31,.c (.slc (ps.map Pt.cv))),(32,.c (.int .i64 ps.length)),(33,.c (.int .i64 k))]) (fob [(112,.box 140 (.c ps[k].cv)),(144,.row 4 1 (bB (s.length+1) (nxt ps s k 0)))]) 250→K fr ob nx:=by
     rintro fr ob nx hf;refine hK _ _ _ (bG hf ?_);clear hf hK K;refine aC fun K hK=>?_;refine R0 ?_;refine aL ?_;refine bF (α:={i:Nat//i≤s.length}) (fun i=>(fin [(1,.c (.str s)),(7,.c (.slc (bB (s.length+1) (mD ps s k)))),(9,.ptr 112 0),(10,.c (.fn 115)),(11,.own 144 (s.length+1)),(31,.c (.slc (ps.map Pt.cv))),(32,.c (.int .i64 ps.length)),(33,.c (.int .i64 k)),(53,.c (.int .i64 s.length)),(54,.c (.int .i64 i.1))],fob [(112,.box 140 (.c ps[k].cv)),(144,.row 4 1 (bB (s.length+1) (nxt ps s k i.1)))])) 300 (fun i=>s.length-i.1) ⟨0,by omega⟩ (fF) ?_;rintro⟨i,hi⟩;refine R0 ?_;refine aC fun K hK=>?_;refine aJ (b:=decide ((i:Int)<s.length)) rfl (fun hb=>?_) (fun hb=>?_)
     ·
      have hil:i<s.length:=by simpa using hb
      clear hb;have hgd:s.getD i 0=s[i]:=by simp[hil]
      have hiN:i+1<s.length+1:=by omega
      have hiN0:i<s.length+1:=by omega
      have hw1:IntKind.i64.wrap ((i:Int)+1)=((i+1:Nat):Int):=by rw[IntWalk.i64_in _ (by omega)];rfl
      refine aK ?_;refine T0 (hK _ _ _ ?_);clear hK K;refine aC fun K hK=>?_;refine aL ?_;refine R0 ?_;refine aL ?_;refine aC fun K hK=>Rg ?_;clear F;have F:=aI @Pt.cells (aI @Pt.isAgg (aI @Pt.getAll hlong));refine SF ?_;refine HS rfl rfl fun K' hK'=>T6 ?_;refine C1 (fB ps[k] hk3) ?_;rintro u rfl;refine AX (hK' _ _ ?_);clear hK' K';refine SF ?_;refine T2 (hK _ _ _ ?_);clear hK K;refine CT rfl ?_;by_cases ha:mD ps s k (i+1)=true
      ·
       have htk:ps[k].takes s[i]=true:=by simp[Pt.takes,h3]
       have hs1:(bB (s.length+1) (nxt ps s k i)).set (i+1) (.bool true)=bB (s.length+1) (nxt ps s k (i+1)):=fR (by rw[kS,hprt,hlong,hgd];simp[ha,htk]);refine Rg ?_;iterate 23 refine S0 ?_ (e:=fun _ h_=>by simp only[sH,↓sP,sA,tyS,simprocAttr,Int.natCast_nonneg,Int.ofNat_lt,hiN,hiN0,hil,hgd,hw1,aP,aT hiN,aT hiN0,cQ,Int.toNat_natCast,ha];exact AX h_)
       refine T2 (hK _ _ _ ?_);clear hK K;refine aM (by kernel_rfl) ?_;refine TQ hw1 ?_;refine⟨⟨i+1,hil⟩,aN (by omega) (by simp[aY,fin_at,finA_at,upd_at,HV.men,HV.menL,HV.norm,HV.toC,HV.toCL,aP]) (by simp[aW,fob_at,upd_at,none0_at,bW,HO.men,HV.men,HV.menL,HV.norm,HV.toC,HV.toCL,hs1]),?_⟩;show s.length-(i+1)<s.length-i;omega
      by_cases hn:mD ps s (k+1) i=true
      ·
       have ha:mD ps s k (i+1)=false:=by simpa using ha
       have htk:ps[k].takes s[i]=true:=by simp[Pt.takes,h3]
       have hs1:(bB (s.length+1) (nxt ps s k i)).set (i+1) (.bool true)=bB (s.length+1) (nxt ps s k (i+1)):=fR (by rw[kS,hprt,hlong,hgd];simp[ha,hn,htk]);refine Rg ?_;iterate 18 refine S0 ?_ (e:=fun _ h_=>by simp only[sH,↓sP,sA,tyS,simprocAttr,Int.natCast_nonneg,Int.ofNat_lt,hiN,hiN0,hil,hgd,hw1,aP,aT hiN,aT hiN0,cQ,Int.toNat_natCast,ha,hn];exact AX h_)
       refine aV (g:=some (88,true)) rfl rfl fun K' hK'=>?_;simp only[sH,↓sP,sA,tyS,simprocAttr,Int.natCast_nonneg,Int.ofNat_lt,hiN,hiN0,hil,hgd,hw1,aP,aT hiN,aT hiN0,cQ,Int.toNat_natCast,ha,hn];refine C1 (bW2 s[i]) ?_;rintro u rfl;refine AX (hK' _ _ ?_);clear hK' K';iterate 4 refine S0 ?_ (e:=fun _ h_=>by simp only[sH,↓sP,sA,tyS,simprocAttr,Int.natCast_nonneg,Int.ofNat_lt,hiN,hiN0,hil,hgd,hw1,aP,aT hiN,aT hiN0,cQ,Int.toNat_natCast,ha,hn];exact AX h_)
       refine T2 (hK _ _ _ ?_);clear hK K;refine aM (by kernel_rfl) ?_;refine TQ hw1 ?_;refine⟨⟨i+1,hil⟩,aN (by omega) (by simp[aY,fin_at,finA_at,upd_at,HV.men,HV.menL,HV.norm,HV.toC,HV.toCL,aP]) (by simp[aW,fob_at,upd_at,none0_at,bW,HO.men,HV.men,HV.menL,HV.norm,HV.toC,HV.toCL,hs1]),?_⟩;show s.length-(i+1)<s.length-i;omega
      have ha:mD ps s k (i+1)=false:=by simpa using ha
      have hn:mD ps s (k+1) i=false:=by simpa using hn
      have htk:ps[k].takes s[i]=true:=by simp[Pt.takes,h3]
      have hs1:(bB (s.length+1) (nxt ps s k i)).set (i+1) (.bool false)=bB (s.length+1) (nxt ps s k (i+1)):=fR (by rw[kS,hprt,hlong,hgd];simp[ha,hn,htk]);refine Rg ?_;iterate 23 refine S0 ?_ (e:=fun _ h_=>by simp only[sH,↓sP,sA,tyS,simprocAttr,Int.natCast_nonneg,Int.ofNat_lt,hiN,hiN0,hil,hgd,hw1,aP,aT hiN,aT hiN0,cQ,Int.toNat_natCast,ha,hn];exact AX h_)
      refine T2 (hK _ _ _ ?_);clear hK K;refine aM (by kernel_rfl) ?_;refine TQ hw1 ?_;refine⟨⟨i+1,hil⟩,aN (by omega) (by simp[aY,fin_at,finA_at,upd_at,HV.men,HV.menL,HV.norm,HV.toC,HV.toCL,aP]) (by simp[aW,fob_at,upd_at,none0_at,bW,HO.men,HV.men,HV.menL,HV.norm,HV.toC,HV.toCL,hs1]),?_⟩;show s.length-(i+1)<s.length-i;omega
     refine bA (T3 ?_);clear hK K;refine AX (hK _ _ _ ?_);clear hK K;refine aM (by kernel_rfl) ?_;refine T0 (hK _ _ _ ?_);clear hK K;have hei:i=s.length:=by simp at hb;omega
     subst hei;have hra:=uD (ps:=ps) (s:=s) (k:=k);refine dU [144] (bG (fr2:=fin [(1,.c (.str s)),(7,.c (.slc (bB (s.length+1) (mD ps s (k+1))))),(31,.c (.slc (ps.map Pt.cv))),(32,.c (.int .i64 ps.length)),(33,.c (.int .i64 k))]) (ob2:=fob []) (nx2:=900) (aN (by omega) (by simp[aY,fY,fin_at,finA_at,upd_at,fob_at,HV.close,HV.closeL,CV.denil,CV.denilL,fD,denilL_Pt,hra,HV.men,HV.menL,HV.norm,HV.toC,HV.toCL,aP]) (by simp[aW,fZ,fob_at,upd_at,none0_at,bW,HO.close,HV.close,HV.closeL,HO.men,HV.men,HV.menL,HV.norm,HV.toC,HV.toCL])) ?_);refine aM (by kernel_rfl) ?_;refine TQ (jP k) ?_;refine⟨⟨k+1,hlt⟩,fF,?_⟩;show ps.length-(k+1)<ps.length-k;omega
    by_cases hm:mD ps s k 0=true
    ·
     have hz:(bB (s.length+1) (fun _=>false)).set 0 (.bool true)=bB (s.length+1) (nxt ps s k 0):=iG (by rw[hm,hprt,hlong];rfl);refine Rg ?_;iterate 6 refine S0 ?_ (e:=fun _ h_=>by simp only[sH,↓sP,sA,tyS,simprocAttr,hzn,aP,aT (Nat.succ_pos s.length),Int.toNat_zero,hm,hlong,Pt.cells,Pt.isAgg,Pt.getAll];exact AX h_)
     refine aV (g:=some (47,true)) rfl rfl fun K' hK'=>?_;simp only[sH,↓sP,sA,tyS,simprocAttr,hzn,aP,aT (Nat.succ_pos s.length),Int.toNat_zero,hm,hlong,Pt.cells,Pt.isAgg,Pt.getAll];refine C1 (fB ps[k] hk3) ?_;rintro u rfl;refine AX (hK' _ _ ?_);clear hK' K';iterate 3 refine S0 ?_ (e:=fun _ h_=>by simp only[sH,↓sP,sA,tyS,simprocAttr,hzn,aP,aT (Nat.succ_pos s.length),Int.toNat_zero,hm,hlong,Pt.cells,Pt.isAgg,Pt.getAll];exact AX h_)
     refine T4 ?_;exact key _ _ _ (aN (by omega) (by simp[aY,fin_at,finA_at,upd_at,HV.men,HV.menL,HV.norm,HV.toC,HV.toCL,aP]) (by simp[aW,fob_at,upd_at,none0_at,bW,HO.men,HV.men,HV.menL,HV.norm,HV.toC,HV.toCL,hz]))
    have hm0:mD ps s k 0=false:=by simpa using hm
    have hz:(bB (s.length+1) (fun _=>false)).set 0 (.bool false)=bB (s.length+1) (nxt ps s k 0):=iG (by rw[hm0];rfl);refine Rg ?_;iterate 10 refine S0 ?_ (e:=fun _ h_=>by simp only[sH,↓sP,sA,tyS,simprocAttr,hzn,aP,aT (Nat.succ_pos s.length),Int.toNat_zero,hm0,Pt.cells,Pt.isAgg,Pt.getAll];exact AX h_)
    refine T4 ?_;exact key _ _ _ (aN (by omega) (by simp[aY,fin_at,finA_at,upd_at,HV.men,HV.menL,HV.norm,HV.toC,HV.toCL,aP]) (by simp[aW,fob_at,upd_at,none0_at,bW,HO.men,HV.men,HV.menL,HV.norm,HV.toC,HV.toCL,hz]))
   by_cases h1:ps[k].k=1
   ·
    have hlong:ps[k].long=false:=by simp[Pt.long,h1]
    refine aC fun K hK=>Rg ?_;clear F;have F:=aI @Pt.cells (aI @Pt.isAgg @Pt.getAll);refine SF ?_;refine HS rfl rfl fun K' hK'=>T6 ?_;refine C1 (zP ps[k] (.inl h1)) ?_;rintro u rfl;refine AX (hK' _ _ ?_);clear hK' K';refine SF ?_;refine T2 (hK _ _ _ ?_);clear hK K;refine aC fun K hK=>Rg ?_;clear F;have F:=aI hwn (aI hn0 (aI hrep @Int.toNat_natCast));iterate 5 refine SF ?_
    refine T2 (hK _ _ _ ?_);clear hK K;refine aC fun K hK=>?_;have key: ∀fr ob nx,Fits 0 fr ob (fin [(1,.c (.str s)),(7,.c (.slc (bB (s.length+1) (mD ps s k)))),(9,.ptr 112 0),(10,.c (.fn 116)),(11,.own 144 (s.length+1)),(31,.c (.slc (ps.map Pt.cv))),(32,.c (.int .i64 ps.length)),(33,.c (.int .i64 k))]) (fob [(112,.box 140 (.c ps[k].cv)),(144,.row 4 1 (bB (s.length+1) (nxt ps s k 0)))]) 250→K fr ob nx:=by
     rintro fr ob nx hf;refine hK _ _ _ (bG hf ?_);clear hf hK K;refine aC fun K hK=>?_;refine R0 ?_;refine aL ?_;refine bF (α:={i:Nat//i≤s.length}) (fun i=>(fin [(1,.c (.str s)),(7,.c (.slc (bB (s.length+1) (mD ps s k)))),(9,.ptr 112 0),(10,.c (.fn 116)),(11,.own 144 (s.length+1)),(31,.c (.slc (ps.map Pt.cv))),(32,.c (.int .i64 ps.length)),(33,.c (.int .i64 k)),(53,.c (.int .i64 s.length)),(54,.c (.int .i64 i.1))],fob [(112,.box 140 (.c ps[k].cv)),(144,.row 4 1 (bB (s.length+1) (nxt ps s k i.1)))])) 300 (fun i=>s.length-i.1) ⟨0,by omega⟩ (fF) ?_;rintro⟨i,hi⟩;refine R0 ?_;refine aC fun K hK=>?_;refine aJ (b:=decide ((i:Int)<s.length)) rfl (fun hb=>?_) (fun hb=>?_)
     ·
      have hil:i<s.length:=by simpa using hb
      clear hb;have hgd:s.getD i 0=s[i]:=by simp[hil]
      have hiN:i+1<s.length+1:=by omega
      have hiN0:i<s.length+1:=by omega
      have hw1:IntKind.i64.wrap ((i:Int)+1)=((i+1:Nat):Int):=by rw[IntWalk.i64_in _ (by omega)];rfl
      refine aK ?_;refine T0 (hK _ _ _ ?_);clear hK K;refine aC fun K hK=>?_;refine aL ?_;refine R0 ?_;refine aL ?_;refine aC fun K hK=>Rg ?_;clear F;have F:=aI @Pt.cells (aI @Pt.isAgg (aI @Pt.getAll hlong));refine SF ?_;refine HS rfl rfl fun K' hK'=>T6 ?_;refine C1 (fB ps[k] hk3) ?_;rintro u rfl;refine AX (hK' _ _ ?_);clear hK' K';refine SF ?_;refine T2 (hK _ _ _ ?_);clear hK K;refine CF rfl ?_;by_cases ha:mD ps s k i=true
      ·
       have htk:ps[k].takes s[i]=(!(s[i]==47)):=by simp[Pt.takes,h1]
       have hs1:(bB (s.length+1) (nxt ps s k i)).set (i+1) (.bool (!(s[i]==47)))=bB (s.length+1) (nxt ps s k (i+1)):=fR (by rw[kS,hprt,hlong,hgd];simp[ha,htk]);refine Rg ?_;iterate 12 refine S0 ?_ (e:=fun _ h_=>by simp only[sH,↓sP,sA,tyS,simprocAttr,Int.natCast_nonneg,Int.ofNat_lt,hiN,hiN0,hil,hgd,hw1,aP,aT hiN,aT hiN0,cQ,Int.toNat_natCast,ha];exact AX h_)
       refine aV (g:=some (64,true)) rfl rfl fun K' hK'=>?_;simp only[sH,↓sP,sA,tyS,simprocAttr,Int.natCast_nonneg,Int.ofNat_lt,hiN,hiN0,hil,hgd,hw1,aP,aT hiN,aT hiN0,cQ,Int.toNat_natCast,ha];refine C1 (aY1 s[i]) ?_;rintro u rfl;refine AX (hK' _ _ ?_);clear hK' K';iterate 3 refine S0 ?_ (e:=fun _ h_=>by simp only[sH,↓sP,sA,tyS,simprocAttr,Int.natCast_nonneg,Int.ofNat_lt,hiN,hiN0,hil,hgd,hw1,aP,aT hiN,aT hiN0,cQ,Int.toNat_natCast,ha];exact AX h_)
       refine T2 (hK _ _ _ ?_);clear hK K;refine aM (by kernel_rfl) ?_;refine TQ hw1 ?_;refine⟨⟨i+1,hil⟩,aN (by omega) (by simp[aY,fin_at,finA_at,upd_at,HV.men,HV.menL,HV.norm,HV.toC,HV.toCL,aP]) (by simp[aW,fob_at,upd_at,none0_at,bW,HO.men,HV.men,HV.menL,HV.norm,HV.toC,HV.toCL,hs1]),?_⟩;show s.length-(i+1)<s.length-i;omega
      have ha:mD ps s k i=false:=by simpa using ha
      have htk:ps[k].takes s[i]=(!(s[i]==47)):=by simp[Pt.takes,h1]
      have hs1:(bB (s.length+1) (nxt ps s k i)).set (i+1) (.bool false)=bB (s.length+1) (nxt ps s k (i+1)):=fR (by rw[kS,hprt,hlong,hgd];simp[ha,htk]);refine Rg ?_;iterate 16 refine S0 ?_ (e:=fun _ h_=>by simp only[sH,↓sP,sA,tyS,simprocAttr,Int.natCast_nonneg,Int.ofNat_lt,hiN,hiN0,hil,hgd,hw1,aP,aT hiN,aT hiN0,cQ,Int.toNat_natCast,ha];exact AX h_)
      refine T2 (hK _ _ _ ?_);clear hK K;refine aM (by kernel_rfl) ?_;refine TQ hw1 ?_;refine⟨⟨i+1,hil⟩,aN (by omega) (by simp[aY,fin_at,finA_at,upd_at,HV.men,HV.menL,HV.norm,HV.toC,HV.toCL,aP]) (by simp[aW,fob_at,upd_at,none0_at,bW,HO.men,HV.men,HV.menL,HV.norm,HV.toC,HV.toCL,hs1]),?_⟩;show s.length-(i+1)<s.length-i;omega
     refine bA (T3 ?_);clear hK K;refine AX (hK _ _ _ ?_);clear hK K;refine aM (by kernel_rfl) ?_;refine T0 (hK _ _ _ ?_);clear hK K;have hei:i=s.length:=by simp at hb;omega
     subst hei;have hra:=uD (ps:=ps) (s:=s) (k:=k);refine dU [144] (bG (fr2:=fin [(1,.c (.str s)),(7,.c (.slc (bB (s.length+1) (mD ps s (k+1))))),(31,.c (.slc (ps.map Pt.cv))),(32,.c (.int .i64 ps.length)),(33,.c (.int .i64 k))]) (ob2:=fob []) (nx2:=900) (aN (by omega) (by simp[aY,fY,fin_at,finA_at,upd_at,fob_at,HV.close,HV.closeL,CV.denil,CV.denilL,fD,denilL_Pt,hra,HV.men,HV.menL,HV.norm,HV.toC,HV.toCL,aP]) (by simp[aW,fZ,fob_at,upd_at,none0_at,bW,HO.close,HV.close,HV.closeL,HO.men,HV.men,HV.menL,HV.norm,HV.toC,HV.toCL])) ?_);refine aM (by kernel_rfl) ?_;refine TQ (jP k) ?_;refine⟨⟨k+1,hlt⟩,fF,?_⟩;show ps.length-(k+1)<ps.length-k;omega
    by_cases hm:mD ps s k 0=true
    ·
     have hz:(bB (s.length+1) (fun _=>false)).set 0 (.bool false)=bB (s.length+1) (nxt ps s k 0):=iG (by rw[hm,hprt,hlong];rfl);refine Rg ?_;iterate 6 refine S0 ?_ (e:=fun _ h_=>by simp only[sH,↓sP,sA,tyS,simprocAttr,hzn,aP,aT (Nat.succ_pos s.length),Int.toNat_zero,hm,hlong,Pt.cells,Pt.isAgg,Pt.getAll];exact AX h_)
     refine aV (g:=some (47,true)) rfl rfl fun K' hK'=>?_;simp only[sH,↓sP,sA,tyS,simprocAttr,hzn,aP,aT (Nat.succ_pos s.length),Int.toNat_zero,hm,hlong,Pt.cells,Pt.isAgg,Pt.getAll];refine C1 (fB ps[k] hk3) ?_;rintro u rfl;refine AX (hK' _ _ ?_);clear hK' K';iterate 3 refine S0 ?_ (e:=fun _ h_=>by simp only[sH,↓sP,sA,tyS,simprocAttr,hzn,aP,aT (Nat.succ_pos s.length),Int.toNat_zero,hm,hlong,Pt.cells,Pt.isAgg,Pt.getAll];exact AX h_)
     refine T4 ?_;exact key _ _ _ (aN (by omega) (by simp[aY,fin_at,finA_at,upd_at,HV.men,HV.menL,HV.norm,HV.toC,HV.toCL,aP]) (by simp[aW,fob_at,upd_at,none0_at,bW,HO.men,HV.men,HV.menL,HV.norm,HV.toC,HV.toCL,hz]))
    have hm0:mD ps s k 0=false:=by simpa using hm
    have hz:(bB (s.length+1) (fun _=>false)).set 0 (.bool false)=bB (s.length+1) (nxt ps s k 0):=iG (by rw[hm0];rfl);refine Rg ?_;iterate 10 refine S0 ?_ (e:=fun _ h_=>by simp only[sH,↓sP,sA,tyS,simprocAttr,hzn,aP,aT (Nat.succ_pos s.length),Int.toNat_zero,hm0,Pt.cells,Pt.isAgg,Pt.getAll];exact AX h_)
    refine T4 ?_;exact key _ _ _ (aN (by omega) (by simp[aY,fin_at,finA_at,upd_at,HV.men,HV.menL,HV.norm,HV.toC,HV.toCL,aP]) (by simp[aW,fob_at,upd_at,none0_at,bW,HO.men,HV.men,HV.menL,HV.norm,HV.toC,HV.toCL,hz]))
   have h2:ps[k].k=2:=by omega
   have hlong:ps[k].long=true:=by simp[Pt.long,h2]
   refine aC fun K hK=>Rg ?_;clear F;have F:=aI @Pt.cells (aI @Pt.isAgg @Pt.getAll);refine SF ?_;refine HS rfl rfl fun K' hK'=>T6 ?_;refine C1 (zP ps[k] (.inr h2)) ?_;rintro u rfl;refine AX (hK' _ _ ?_);clear hK' K';refine SF ?_;refine T2 (hK _ _ _ ?_);clear hK K;refine aC fun K hK=>Rg ?_;clear F;have F:=aI hwn (aI hn0 (aI hrep @Int.toNat_natCast));iterate 5 refine SF ?_
   refine T2 (hK _ _ _ ?_);clear hK K;refine aC fun K hK=>?_;have key: ∀fr ob nx,Fits 0 fr ob (fin [(1,.c (.str s)),(7,.c (.slc (bB (s.length+1) (mD ps s k)))),(9,.ptr 112 0),(10,.c (.fn 116)),(11,.own 144 (s.length+1)),(31,.c (.slc (ps.map Pt.cv))),(32,.c (.int .i64 ps.length)),(33,.c (.int .i64 k))]) (fob [(112,.box 140 (.c ps[k].cv)),(144,.row 4 1 (bB (s.length+1) (nxt ps s k 0)))]) 250→K fr ob nx:=by
    rintro fr ob nx hf;refine hK _ _ _ (bG hf ?_);clear hf hK K;refine aC fun K hK=>?_;refine R0 ?_;refine aL ?_;refine bF (α:={i:Nat//i≤s.length}) (fun i=>(fin [(1,.c (.str s)),(7,.c (.slc (bB (s.length+1) (mD ps s k)))),(9,.ptr 112 0),(10,.c (.fn 116)),(11,.own 144 (s.length+1)),(31,.c (.slc (ps.map Pt.cv))),(32,.c (.int .i64 ps.length)),(33,.c (.int .i64 k)),(53,.c (.int .i64 s.length)),(54,.c (.int .i64 i.1))],fob [(112,.box 140 (.c ps[k].cv)),(144,.row 4 1 (bB (s.length+1) (nxt ps s k i.1)))])) 300 (fun i=>s.length-i.1) ⟨0,by omega⟩ (fF) ?_;rintro⟨i,hi⟩;refine R0 ?_;refine aC fun K hK=>?_;refine aJ (b:=decide ((i:Int)<s.length)) rfl (fun hb=>?_) (fun hb=>?_)
    ·
     have hil:i<s.length:=by simpa using hb
     clear hb;have hgd:s.getD i 0=s[i]:=by simp[hil]
     have hiN:i+1<s.length+1:=by omega
     have hiN0:i<s.length+1:=by omega
     have hw1:IntKind.i64.wrap ((i:Int)+1)=((i+1:Nat):Int):=by rw[IntWalk.i64_in _ (by omega)];rfl
     refine aK ?_;refine T0 (hK _ _ _ ?_);clear hK K;refine aC fun K hK=>?_;refine aL ?_;refine R0 ?_;refine aL ?_;refine aC fun K hK=>Rg ?_;clear F;have F:=aI @Pt.cells (aI @Pt.isAgg (aI @Pt.getAll hlong));refine SF ?_;refine HS rfl rfl fun K' hK'=>T6 ?_;refine C1 (fB ps[k] hk3) ?_;rintro u rfl;refine AX (hK' _ _ ?_);clear hK' K';refine SF ?_;refine T2 (hK _ _ _ ?_);clear hK K;refine CT rfl ?_;by_cases ha:mD ps s k (i+1)=true
     ·
      have htk:ps[k].takes s[i]=(!(s[i]==47)):=by simp[Pt.takes,h2]
      have hs1:(bB (s.length+1) (nxt ps s k i)).set (i+1) (.bool true)=bB (s.length+1) (nxt ps s k (i+1)):=fR (by rw[kS,hprt,hlong,hgd];simp[ha,htk]);refine Rg ?_;iterate 23 refine S0 ?_ (e:=fun _ h_=>by simp only[sH,↓sP,sA,tyS,simprocAttr,Int.natCast_nonneg,Int.ofNat_lt,hiN,hiN0,hil,hgd,hw1,aP,aT hiN,aT hiN0,cQ,Int.toNat_natCast,ha];exact AX h_)
      refine T2 (hK _ _ _ ?_);clear hK K;refine aM (by kernel_rfl) ?_;refine TQ hw1 ?_;refine⟨⟨i+1,hil⟩,aN (by omega) (by simp[aY,fin_at,finA_at,upd_at,HV.men,HV.menL,HV.norm,HV.toC,HV.toCL,aP]) (by simp[aW,fob_at,upd_at,none0_at,bW,HO.men,HV.men,HV.menL,HV.norm,HV.toC,HV.toCL,hs1]),?_⟩;show s.length-(i+1)<s.length-i;omega
     by_cases hn:mD ps s (k+1) i=true
     ·
      have ha:mD ps s k (i+1)=false:=by simpa using ha
      have htk:ps[k].takes s[i]=(!(s[i]==47)):=by simp[Pt.takes,h2]
      have hs1:(bB (s.length+1) (nxt ps s k i)).set (i+1) (.bool (!(s[i]==47)))=bB (s.length+1) (nxt ps s k (i+1)):=fR (by rw[kS,hprt,hlong,hgd];simp[ha,hn,htk]);refine Rg ?_;iterate 18 refine S0 ?_ (e:=fun _ h_=>by simp only[sH,↓sP,sA,tyS,simprocAttr,Int.natCast_nonneg,Int.ofNat_lt,hiN,hiN0,hil,hgd,hw1,aP,aT hiN,aT hiN0,cQ,Int.toNat_natCast,ha,hn];exact AX h_)
      refine aV (g:=some (88,true)) rfl rfl fun K' hK'=>?_;simp only[sH,↓sP,sA,tyS,simprocAttr,Int.natCast_nonneg,Int.ofNat_lt,hiN,hiN0,hil,hgd,hw1,aP,aT hiN,aT hiN0,cQ,Int.toNat_natCast,ha,hn];refine C1 (aY1 s[i]) ?_;rintro u rfl;refine AX (hK' _ _ ?_);clear hK' K';iterate 4 refine S0 ?_ (e:=fun _ h_=>by simp only[sH,↓sP,sA,tyS,simprocAttr,Int.natCast_nonneg,Int.ofNat_lt,hiN,hiN0,hil,hgd,hw1,aP,aT hiN,aT hiN0,cQ,Int.toNat_natCast,ha,hn];exact AX h_)
      refine T2 (hK _ _ _ ?_);clear hK K;refine aM (by kernel_rfl) ?_;refine TQ hw1 ?_;refine⟨⟨i+1,hil⟩,aN (by omega) (by simp[aY,fin_at,finA_at,upd_at,HV.men,HV.menL,HV.norm,HV.toC,HV.toCL,aP]) (by simp[aW,fob_at,upd_at,none0_at,bW,HO.men,HV.men,HV.menL,HV.norm,HV.toC,HV.toCL,hs1]),?_⟩;show s.length-(i+1)<s.length-i;omega
     have ha:mD ps s k (i+1)=false:=by simpa using ha
     have hn:mD ps s (k+1) i=false:=by simpa using hn
     have htk:ps[k].takes s[i]=(!(s[i]==47)):=by simp[Pt.takes,h2]
     have hs1:(bB (s.length+1) (nxt ps s k i)).set (i+1) (.bool false)=bB (s.length+1) (nxt ps s k (i+1)):=fR (by rw[kS,hprt,hlong,hgd];simp[ha,hn,htk]);refine Rg ?_;iterate 23 refine S0 ?_ (e:=fun _ h_=>by simp only[sH,↓sP,sA,tyS,simprocAttr,Int.natCast_nonneg,Int.ofNat_lt,hiN,hiN0,hil,hgd,hw1,aP,aT hiN,aT hiN0,cQ,Int.toNat_natCast,ha,hn];exact AX h_)
     refine T2 (hK _ _ _ ?_);clear hK K;refine aM (by kernel_rfl) ?_;refine TQ hw1 ?_;refine⟨⟨i+1,hil⟩,aN (by omega) (by simp[aY,fin_at,finA_at,upd_at,HV.men,HV.menL,HV.norm,HV.toC,HV.toCL,aP]) (by simp[aW,fob_at,upd_at,none0_at,bW,HO.men,HV.men,HV.menL,HV.norm,HV.toC,HV.toCL,hs1]),?_⟩;show s.length-(i+1)<s.length-i;omega
    refine bA (T3 ?_);clear hK K;refine AX (hK _ _ _ ?_);clear hK K;refine aM (by kernel_rfl) ?_;refine T0 (hK _ _ _ ?_);clear hK K;have hei:i=s.length:=by simp at hb;omega
    subst hei;have hra:=uD (ps:=ps) (s:=s) (k:=k);refine dU [144] (bG (fr2:=fin [(1,.c (.str s)),(7,.c (.slc (bB (s.length+1) (mD ps s (k+1))))),(31,.c (.slc (ps.map Pt.cv))),(32,.c (.int .i64 ps.length)),(33,.c (.int .i64 k))]) (ob2:=fob []) (nx2:=900) (aN (by omega) (by simp[aY,fY,fin_at,finA_at,upd_at,fob_at,HV.close,HV.closeL,CV.denil,CV.denilL,fD,denilL_Pt,hra,HV.men,HV.menL,HV.norm,HV.toC,HV.toCL,aP]) (by simp[aW,fZ,fob_at,upd_at,none0_at,bW,HO.close,HV.close,HV.closeL,HO.men,HV.men,HV.menL,HV.norm,HV.toC,HV.toCL])) ?_);refine aM (by kernel_rfl) ?_;refine TQ (jP k) ?_;refine⟨⟨k+1,hlt⟩,fF,?_⟩;show ps.length-(k+1)<ps.length-k;omega
   by_cases hm:mD ps s k 0=true
   ·
    have hz:(bB (s.length+1) (fun _=>false)).set 0 (.bool true)=bB (s.length+1) (nxt ps s k 0):=iG (by rw[hm,hprt,hlong];rfl);refine Rg ?_;iterate 6 refine S0 ?_ (e:=fun _ h_=>by simp only[sH,↓sP,sA,tyS,simprocAttr,hzn,aP,aT (Nat.succ_pos s.length),Int.toNat_zero,hm,hlong,Pt.cells,Pt.isAgg,Pt.getAll];exact AX h_)
    refine aV (g:=some (47,true)) rfl rfl fun K' hK'=>?_;simp only[sH,↓sP,sA,tyS,simprocAttr,hzn,aP,aT (Nat.succ_pos s.length),Int.toNat_zero,hm,hlong,Pt.cells,Pt.isAgg,Pt.getAll];refine C1 (fB ps[k] hk3) ?_;rintro u rfl;refine AX (hK' _ _ ?_);clear hK' K';iterate 3 refine S0 ?_ (e:=fun _ h_=>by simp only[sH,↓sP,sA,tyS,simprocAttr,hzn,aP,aT (Nat.succ_pos s.length),Int.toNat_zero,hm,hlong,Pt.cells,Pt.isAgg,Pt.getAll];exact AX h_)
    refine T4 ?_;exact key _ _ _ (aN (by omega) (by simp[aY,fin_at,finA_at,upd_at,HV.men,HV.menL,HV.norm,HV.toC,HV.toCL,aP]) (by simp[aW,fob_at,upd_at,none0_at,bW,HO.men,HV.men,HV.menL,HV.norm,HV.toC,HV.toCL,hz]))
   have hm0:mD ps s k 0=false:=by simpa using hm
   have hz:(bB (s.length+1) (fun _=>false)).set 0 (.bool false)=bB (s.length+1) (nxt ps s k 0):=iG (by rw[hm0];rfl);refine Rg ?_;iterate 10 refine S0 ?_ (e:=fun _ h_=>by simp only[sH,↓sP,sA,tyS,simprocAttr,hzn,aP,aT (Nat.succ_pos s.length),Int.toNat_zero,hm0,Pt.cells,Pt.isAgg,Pt.getAll];exact AX h_)
   refine T4 ?_;exact key _ _ _ (aN (by omega) (by simp[aY,fin_at,finA_at,upd_at,HV.men,HV.menL,HV.norm,HV.toC,HV.toCL,aP]) (by simp[aW,fob_at,upd_at,none0_at,bW,HO.men,HV.men,HV.menL,HV.norm,HV.toC,HV.toCL,hz]))
  refine bA (T3 ?_);clear hK K;refine AX (hK _ _ _ ?_);clear hK K;have hek:k=ps.length:=by simp at hb;omega
  subst hek;refine aC fun K hK=>Rg ?_;iterate 6 refine S0 ?_ (e:=fun _ h_=>by simp only[sH,↓sP,sA,tyS,simprocAttr,Int.natCast_nonneg,Int.ofNat_lt,Nat.lt_succ_self,aP,aT (Nat.lt_succ_self s.length),Int.toNat_natCast];exact AX h_)
  refine T2 (hK _ _ _ ?_);clear hK K;refine aF (RT Tryz.results72 ?_);exact aG [] (.bool (mD ps s ps.length s.length)) rfl (by rw[hmv])
 rename_i ps;have hs0:iD s=false:=by simpa using hs
 refine aC fun K hK=>Rg ?_;iterate 4 refine S0 ?_ (e:=fun _ h_=>by simp only[sH,↓sP,sA,tyS,simprocAttr,Option.isSome_some,Bool.not_true,hs0,Bool.not_false,Option.getD_some];exact AX h_)
 refine aV (g:=some (20,false)) rfl rfl fun K' hK'=>?_;simp only[sH,↓sP,sA,tyS,simprocAttr,Option.isSome_some,Bool.not_true,hs0,Bool.not_false,Option.getD_some];refine C1 (aY9 s) ?_;rintro u rfl;refine AX (hK' _ _ ?_);clear hK' K';iterate 2 refine S0 ?_ (e:=fun _ h_=>by simp only[sH,↓sP,sA,tyS,simprocAttr,Option.isSome_some,Bool.not_true,hs0,Bool.not_false,Option.getD_some];exact AX h_)
 refine T2 (hK _ _ _ ?_);clear hK K;refine CT rfl ?_;refine R0 ?_;refine aF (RT Tryz.results72 ?_);exact aG [] (.bool false) rfl (by rw[tJ hs0])
end Go.Proofs.YtlldglbooaefhaaGreatDoor
namespace Go.Pl
open Go Go.Hl
section
variable {ps:List Pt}{s:aH}
theorem aN0 : ∀(i:Nat),(∀t,t<i→(prt ps t).long=true)→mD ps s i 0=true
 |0,_=>cB3 ps s
 |i+1,h=>by rw[aL2,h i (by omega),aN0 i (fun t ht=>h t (by omega))];rfl
theorem zS {i:Nat}(h:(prt ps i).long=false): ∀d:Nat,mD ps s (i+1+d) 0=false
 |0=>by rw[Nat.add_zero,aL2,h];rfl
 |d+1=>by rw[show i+1+(d+1)=(i+1+d)+1 from by omega,aL2,zS h d,Bool.and_false]
theorem aT5 {n:Nat}:(bB n (fun _=>false)).set 0 (.bool true)=bB n (fun j=>decide (j≤0)):=by
 rw[jI];refine gP fun i _=>?_;by_cases h:i=0<;>simp[h]
theorem aT6 {n i:Nat}:(bB n (fun j=>decide (j≤i))).set (i+1) (.bool true)=bB n (fun j=>decide (j≤i+1)):=by
 rw[jI];refine gP fun j _=>?_;by_cases h:j=i+1
 · simp[h]
 ·
  have:(j≤i)↔(j≤i+1):=by omega
  simp[h,this]
theorem wU {i:Nat}(h: ∀t,t<i→(prt ps t).long=true)(hi:i=ps.length∨(prt ps i).long=false):bB (ps.length+1) (fun j=>decide (j≤i))=bB (ps.length+1) (fun j=>mN ps s j 0):=by
 refine gP fun j hj=>?_;rw[bV6];rcases Nat.lt_or_ge i j with hij|hij
 ·
  rcases hi with hi|hi
  · omega
  · obtain⟨d,rfl⟩: ∃d,j=i+1+d:=⟨j-(i+1),by omega⟩;rw[zS hi d,decide_eq_false (by omega)]
 · rw[aN0 j (fun t ht=>h t (by omega)),decide_eq_true hij]
theorem bO5 {n i:Nat}:List.replicate n (CV.bool false)=bB n (p1 ps s i 0):=by
 rw[rX];exact gP fun j _=>(bV7 ps s i j).symm
theorem aN1 {n i k:Nat}(h:(mN ps s k i&&(prt ps k).takes (s.getD i 0))=false):bB n (p1 ps s i k)=bB n (p1 ps s i (k+1)):=gP fun j _=>(bV8 ps s h).symm
theorem aZ0 {n i k t:Nat}(h:(mN ps s k i&&(prt ps k).takes (s.getD i 0))=true)(ht:t=if(prt ps k).long then k else k+1):(bB n (p1 ps s i k)).set t (.bool true)=bB n (p1 ps s i (k+1)):=by
 rw[jI];exact gP fun j _=>by rw[cD8 ps s h,ht]
theorem bO6 {n i:Nat}:bB n (p1 ps s i ps.length)=bB n (p2 ps s i 0):=gP fun j _=>bW1 ps s i j
theorem bX7 {n i k:Nat}(hk:k<ps.length)(h:(p2 ps s i k k&&(prt ps k).long)=true):(bB n (p2 ps s i k)).set (k+1) (.bool true)=bB n (p2 ps s i (k+1)):=by
 rw[jI];refine gP fun j _=>?_;rw[←aY0 ps s hk j,if_pos h]
theorem aN2 {n i k:Nat}(hk:k<ps.length)(h:(p2 ps s i k k&&(prt ps k).long)=false):bB n (p2 ps s i k)=bB n (p2 ps s i (k+1)):=by
 refine gP fun j _=>?_;rw[←aY0 ps s hk j,if_neg (by rw[h];simp)]
theorem bX8 {i:Nat}:bB (ps.length+1) (p2 ps s i ps.length)=bB (ps.length+1) (fun k=>mN ps s k (i+1)):=by
 unfold bB;rw[cD9]
end
end Go.Pl
namespace Go.Proofs.YtlldglbooaefhaaGreatDoor
open Go Go.Hl Go.Pl
set_option maxRecDepth 10000
set_option maxHeartbeats 16000000
theorem zT (p s:aH):bV Tryz.prog 73 [.str p,.str s] (fun v=>v= .bool (kE p s)):=by
 refine FW Tryz.func73 ?_;refine R0 ?_;refine aC fun K hK=>Rg ?_;refine S0 ?_;refine HS rfl rfl fun K' hK'=>T5 ?_;refine D1 (aY7 p) ?_;rintro u v ⟨rfl,rfl⟩;refine AX (hK' _ _ ?_);clear hK' K';iterate 5 refine S0 ?_
 refine T2 (hK _ _ _ ?_);clear hK K;refine aC fun K hK=>?_;cases hpv:eB p
 ·
  refine aC fun K hK=>Rg ?_;iterate 7 refine S0 ?_ (e:=fun _ h_=>by simp only[sH,↓sP,sA,tyS,simprocAttr,Option.isSome_none,Bool.not_false];exact AX h_)
  refine T2 (hK _ _ _ ?_);clear hK K;refine CT rfl ?_;refine R0 ?_;refine aF (RT Tryz.results73 ?_);exact aG [] (.bool false) rfl (by rw[tI hpv])
 by_cases hs:iD s=true
 ·
  rename_i ps;have hs200:=zR hs;obtain⟨hpl,hpk⟩:=zQ hpv;have hmv:=tK hpv hs;clear hpv;refine aC fun K hK=>Rg ?_;iterate 4 refine S0 ?_ (e:=fun _ h_=>by simp only[sH,↓sP,sA,tyS,simprocAttr,Option.isSome_some,Bool.not_true,hs,Option.getD_some];exact AX h_)
  refine aV (g:=some (20,false)) rfl rfl fun K' hK'=>?_;simp only[sH,↓sP,sA,tyS,simprocAttr,Option.isSome_some,Bool.not_true,hs,Option.getD_some];refine C1 (aM8 s) ?_;rintro u rfl;refine AX (hK' _ _ ?_);clear hK' K';iterate 2 refine S0 ?_ (e:=fun _ h_=>by simp only[sH,↓sP,sA,tyS,simprocAttr,Option.isSome_some,Bool.not_true,hs,Option.getD_some];exact AX h_)
  refine T2 (hK _ _ _ ?_);clear hK K;refine CF rfl ?_;refine aK ?_;refine T0 (hK _ _ _ ?_);clear hK K;have hwn:IntKind.i64.wrap ((ps.length:Int)+1)=(((ps.length+1:Nat)):Int):=by rw[IntWalk.i64_in _ (by omega)];rfl
  have hn0:(((ps.length+1:Nat):Int)=0)=False:=by simp;omega
  have hzn:(0:Int)<((ps.length+1:Nat):Int):=by omega
  have hrep:=rX (ps.length+1);refine aC fun K hK=>Rg ?_;have F:=aI @List.length_map.{0,0} (aI hwn (aI hn0 (aI hrep @Int.toNat_natCast)));iterate 5 refine SF ?_
  refine T2 (hK _ _ _ ?_);clear hK K;refine R0 ?_ (e:=fun _ h_=>by simp only[↓sP,sA,tyS,simprocAttr,hzn,aP,aT (Nat.succ_pos ps.length),Int.toNat_zero];exact AX h_);refine aC fun K hK=>?_;have key: ∀fr ob nx,Fits 0 fr ob (fin [(1,.c (.str s)),(5,.c (.slc (ps.map Pt.cv))),(7,.own 72 (ps.length+1))]) (fob [(72,.row 4 1 (bB (ps.length+1) (fun j=>mN ps s j 0)))]) 200→K fr ob nx:=by
   rintro fr ob nx hf;refine hK _ _ _ (bG hf ?_);clear hf hK K;refine aC fun K hK=>?_;refine R0 ?_;refine aL ?_;refine dU [72] (bG (fr2:=fin [(1,.c (.str s)),(5,.c (.slc (ps.map Pt.cv))),(7,.c (.slc (bB (ps.length+1) (fun j=>mN ps s j 0)))),(9,.c (.int .i64 0))]) (ob2:=fob []) (nx2:=250) (aN (by omega) (by simp[aY,fY,fin_at,finA_at,upd_at,fob_at,HV.close,HV.closeL,CV.denil,CV.denilL,fD,denilL_Pt,HV.men,HV.menL,HV.norm,HV.toC,HV.toCL,aP]) (by simp[aW,fZ,fob_at,upd_at,none0_at,bW,HO.close,HV.close,HV.closeL,HO.men,HV.men,HV.menL,HV.norm,HV.toC,HV.toCL])) ?_);refine bF (α:={i:Nat//i≤s.length}) (fun i=>(fin [(1,.c (.str s)),(5,.c (.slc (ps.map Pt.cv))),(7,.c (.slc (bB (ps.length+1) (fun j=>mN ps s j i.1)))),(9,.c (.int .i64 i.1))],fob [])) 300 (fun i=>s.length-i.1) ⟨0,by omega⟩ (fF) ?_;rintro⟨i,hi⟩;refine aC fun K hK=>?_;refine aC fun K hK=>Rg ?_;iterate 4 refine S0 ?_
   refine T2 (hK _ _ _ ?_);clear hK K;refine aJ (b:=decide ((i:Int)<s.length)) rfl (fun hb=>?_) (fun hb=>?_)
   ·
    have hil:i<s.length:=by simpa using hb
    clear hb;have hgd:s.getD i 0=s[i]:=by simp[hil]
    have hone:List.replicate (ps.length+1) (CV.bool false)=bB (ps.length+1) (p1 ps s i 0):=bO5;refine aK ?_;refine T0 (hK _ _ _ ?_);clear hK K;refine aC fun K hK=>?_;refine aL ?_;refine aC fun K hK=>Rg ?_;clear F;have F:=aI @List.length_map.{0,0} (aI hwn (aI hn0 (aI hone @Int.toNat_natCast)));iterate 5 refine SF ?_
    refine T2 (hK _ _ _ ?_);clear hK K;refine aC fun K hK=>?_;refine R0 ?_;refine aL ?_;refine bF (α:={k:Nat//k≤ps.length}) (fun k=>(fin [(1,.c (.str s)),(5,.c (.slc (ps.map Pt.cv))),(7,.c (.slc (bB (ps.length+1) (fun j=>mN ps s j i)))),(9,.c (.int .i64 i)),(10,.own 328 (ps.length+1)),(11,.c (.int .i64 k.1))],fob [(328,.row 4 1 (bB (ps.length+1) (p1 ps s i k.1)))])) 400 (fun k=>ps.length-k.1) ⟨0,by omega⟩ (fF) ?_;rintro⟨k,hk⟩;refine aC fun K hK=>?_;refine aC fun K hK=>Rg ?_;iterate 4 refine S0 ?_
    refine T2 (hK _ _ _ ?_);clear hK K;refine aJ (b:=decide ((k:Int)<ps.length)) rfl (fun hb=>?_) (fun hb=>?_)
    ·
     have hlt:k<ps.length:=by simpa using hb
     clear hb;have hprt:=uE hlt;have hk3:=hpk _ (List.getElem_mem hlt);have hkM:k<ps.length+1:=by omega
     have hkM1:k+1<ps.length+1:=by omega
     have hw1:IntKind.i64.wrap ((k:Int)+1)=((k+1:Nat):Int):=by rw[IntWalk.i64_in _ (by omega)];rfl
     refine aK ?_;refine T0 (hK _ _ _ ?_);clear hK K;refine aC fun K hK=>?_;refine aL ?_;by_cases hm:mN ps s k i=true
     ·
      refine aC fun K hK=>DW [(0,[],[]),(1,[],[]),(2,[],[]),(3,[],[]),(4,[],[]),(5,[],[]),(6,[],[]),(7,[],[]),(8,[],[]),(9,[],[]),(10,[],[]),(11,[],[]),(12,[],[]),(13,[],[])] [0,0,3,7,15,31,31,127,255,31,31,1567,4095,8191] ?_;iterate 12 refine W0 ?_ (e:=fun _ h_=>by simp only[sH,↓sP,sA,tyS,simprocAttr,Int.natCast_nonneg,Int.ofNat_lt,hlt,hil,hgd,hkM,List.length_map,bR hlt,aP,aT (f:=fun j=>mN ps s j i) hkM,hm,Pt.cells,Pt.isAgg,Pt.getAll];exact AX h_)
      refine cC (g:=some (68,true)) rfl rfl fun K' hK'=>?_;simp only[sH,↓sP,sA,tyS,simprocAttr,Int.natCast_nonneg,Int.ofNat_lt,hlt,hil,hgd,hkM,List.length_map,bR hlt,aP,aT (f:=fun j=>mN ps s j i) hkM,hm,Pt.cells,Pt.isAgg,Pt.getAll];refine C2 (bO3 ps[k] hk3 s[i]) ?_;rintro u rfl;refine AX (hK' _ _ ?_);clear hK' K';refine W0 ?_ (e:=fun _ h_=>by simp only[sH,↓sP,sA,tyS,simprocAttr,Int.natCast_nonneg,Int.ofNat_lt,hlt,hil,hgd,hkM,List.length_map,bR hlt,aP,aT (f:=fun j=>mN ps s j i) hkM,hm,Pt.cells,Pt.isAgg,Pt.getAll];exact AX h_);refine T2 (hK _ _ _ ?_);clear hK K;refine aJ (b:=ps[k].takes s[i]) rfl (fun hb=>?_) (fun hb=>?_)
      ·
       have hit:(mN ps s k i&&(prt ps k).takes (s.getD i 0))=true:=by rw[hm,hprt,hgd,hb];rfl
       refine aC fun K hK=>Rg ?_;clear F;have F:=aI @Int.natCast_nonneg (aI @Int.ofNat_lt (aI hlt (aI @List.length_map.{0,0} (aI (nM hlt) (aI @Pt.cells (aI @Pt.isAgg @Pt.getAll))))));iterate 4 refine SF ?_
       refine HS rfl rfl fun K' hK'=>T6 ?_;refine C1 (aD4 ps[k]) ?_;rintro u rfl;refine AX (hK' _ _ ?_);clear hK' K';refine T2 (hK _ _ _ ?_);clear hK K;refine aJ (b:=ps[k].long) rfl (fun hb=>?_) (fun hb=>?_)
       ·
        have hrow:(bB (ps.length+1) (p1 ps s i k)).set k (.bool true)=bB (ps.length+1) (p1 ps s i (k+1)):=aZ0 hit (by rw[hprt,hb];rfl);refine Rg ?_;iterate 4 refine S0 ?_ (e:=fun _ h_=>by simp only[sH,↓sP,sA,tyS,simprocAttr,Int.natCast_nonneg,Int.ofNat_lt,hkM,aP,aT hkM,Int.toNat_natCast];exact AX h_)
        refine T2 (hK _ _ _ ?_);clear hK K;refine aM (by kernel_rfl) ?_;refine TQ hw1 ?_;refine⟨⟨k+1,hlt⟩,aN (by omega) (by simp[aY,fin_at,finA_at,upd_at,HV.men,HV.menL,HV.norm,HV.toC,HV.toCL,aP]) (by simp[aW,fob_at,upd_at,none0_at,bW,HO.men,HV.men,HV.menL,HV.norm,HV.toC,HV.toCL,hrow]),?_⟩;show ps.length-(k+1)<ps.length-k;omega
       have hrow:(bB (ps.length+1) (p1 ps s i k)).set (k+1) (.bool true)=bB (ps.length+1) (p1 ps s i (k+1)):=aZ0 hit (by rw[hprt,hb];rfl);refine Rg ?_;iterate 5 refine S0 ?_ (e:=fun _ h_=>by simp only[sH,↓sP,sA,tyS,simprocAttr,Int.natCast_nonneg,Int.ofNat_lt,hkM1,hw1,aP,aT hkM1,Int.toNat_natCast];exact AX h_)
       refine T2 (hK _ _ _ ?_);clear hK K;refine aM (by kernel_rfl) ?_;refine TQ hw1 ?_;refine⟨⟨k+1,hlt⟩,aN (by omega) (by simp[aY,fin_at,finA_at,upd_at,HV.men,HV.menL,HV.norm,HV.toC,HV.toCL,aP]) (by simp[aW,fob_at,upd_at,none0_at,bW,HO.men,HV.men,HV.menL,HV.norm,HV.toC,HV.toCL,hrow]),?_⟩;show ps.length-(k+1)<ps.length-k;omega
      have hit:(mN ps s k i&&(prt ps k).takes (s.getD i 0))=false:=by rw[hm,hprt,hgd,hb];rfl
      have hrow:bB (ps.length+1) (p1 ps s i k)=bB (ps.length+1) (p1 ps s i (k+1)):=aN1 hit;refine aK ?_;refine T0 (hK _ _ _ ?_);clear hK K;refine aM (by kernel_rfl) ?_;refine TQ hw1 ?_;refine⟨⟨k+1,hlt⟩,aN (by omega) (by simp[aY,fin_at,finA_at,upd_at,HV.men,HV.menL,HV.norm,HV.toC,HV.toCL,aP]) (by simp[aW,fob_at,upd_at,none0_at,bW,HO.men,HV.men,HV.menL,HV.norm,HV.toC,HV.toCL,hrow]),?_⟩;show ps.length-(k+1)<ps.length-k;omega
     have hm0:mN ps s k i=false:=by simpa using hm
     have hrow:bB (ps.length+1) (p1 ps s i k)=bB (ps.length+1) (p1 ps s i (k+1)):=aN1 (by rw[hm0];rfl);refine aC fun K hK=>DW [(0,[],[]),(1,[],[]),(2,[],[]),(3,[],[]),(4,[],[]),(5,[],[]),(6,[],[]),(7,[],[]),(8,[],[]),(9,[],[]),(10,[],[]),(11,[],[]),(12,[],[]),(13,[],[])] [0,0,3,7,15,31,31,127,255,31,31,1567,4095,8191] ?_;iterate 14 refine W0 ?_ (e:=fun _ h_=>by simp only[sH,↓sP,sA,tyS,simprocAttr,Int.natCast_nonneg,Int.ofNat_lt,hkM,aP,aT (f:=fun j=>mN ps s j i) hkM,hm0];exact AX h_)
     refine T2 (hK _ _ _ ?_);clear hK K;refine CF rfl ?_;refine aK ?_;refine T0 (hK _ _ _ ?_);clear hK K;refine aM (by kernel_rfl) ?_;refine TQ hw1 ?_;refine⟨⟨k+1,hlt⟩,aN (by omega) (by simp[aY,fin_at,finA_at,upd_at,HV.men,HV.menL,HV.norm,HV.toC,HV.toCL,aP]) (by simp[aW,fob_at,upd_at,none0_at,bW,HO.men,HV.men,HV.menL,HV.norm,HV.toC,HV.toCL,hrow]),?_⟩;show ps.length-(k+1)<ps.length-k;omega
    refine bA (T3 ?_);clear hK K;refine AX (hK _ _ _ ?_);clear hK K;refine aC fun K hK=>?_;refine R0 ?_;refine aL ?_;have hek:k=ps.length:=by simp at hb;omega
    subst hek;clear hb hk;have htz:bB (ps.length+1) (p1 ps s i ps.length)=bB (ps.length+1) (p2 ps s i 0):=bO6;refine bF (α:={k:Nat//k≤ps.length}) (fun k=>(fin [(1,.c (.str s)),(5,.c (.slc (ps.map Pt.cv))),(9,.c (.int .i64 i)),(10,.own 328 (ps.length+1)),(12,.c (.int .i64 k.1))],fob [(328,.row 4 1 (bB (ps.length+1) (p2 ps s i k.1)))])) 500 (fun k=>ps.length-k.1) ⟨0,by omega⟩ (aN (by omega) (by simp[aY,fin_at,finA_at,upd_at,HV.men,HV.menL,HV.norm,HV.toC,HV.toCL,aP]) (by simp[aW,fob_at,upd_at,none0_at,bW,HO.men,HV.men,HV.menL,HV.norm,HV.toC,HV.toCL,htz])) ?_;rintro⟨k,hk⟩;refine aC fun K hK=>?_;refine aC fun K hK=>Rg ?_;iterate 4 refine S0 ?_
    refine T2 (hK _ _ _ ?_);clear hK K;refine aJ (b:=decide ((k:Int)<ps.length)) rfl (fun hb=>?_) (fun hb=>?_)
    ·
     have hlt:k<ps.length:=by simpa using hb
     clear hb;have hprt:=uE hlt;have hkM:k<ps.length+1:=by omega
     have hkM1:k+1<ps.length+1:=by omega
     have hw1:IntKind.i64.wrap ((k:Int)+1)=((k+1:Nat):Int):=by rw[IntWalk.i64_in _ (by omega)];rfl
     refine aK ?_;refine T0 (hK _ _ _ ?_);clear hK K;refine aC fun K hK=>?_;refine aL ?_;by_cases hm:p2 ps s i k k=true
     ·
      refine aC fun K hK=>Rg ?_;iterate 9 refine S0 ?_ (e:=fun _ h_=>by simp only[sH,↓sP,sA,tyS,simprocAttr,Int.natCast_nonneg,Int.ofNat_lt,hlt,hkM,List.length_map,bR hlt,aP,aT hkM,hm,Pt.cells,Pt.isAgg,Pt.getAll];exact AX h_)
      refine aV (g:=some (100,true)) rfl rfl fun K' hK'=>?_;simp only[sH,↓sP,sA,tyS,simprocAttr,Int.natCast_nonneg,Int.ofNat_lt,hlt,hkM,List.length_map,bR hlt,aP,aT hkM,hm,Pt.cells,Pt.isAgg,Pt.getAll];refine C1 (aD4 ps[k]) ?_;rintro u rfl;refine AX (hK' _ _ ?_);clear hK' K';refine S0 ?_ (e:=fun _ h_=>by simp only[sH,↓sP,sA,tyS,simprocAttr,Int.natCast_nonneg,Int.ofNat_lt,hlt,hkM,List.length_map,bR hlt,aP,aT hkM,hm,Pt.cells,Pt.isAgg,Pt.getAll];exact AX h_);refine T2 (hK _ _ _ ?_);clear hK K;refine aJ (b:=ps[k].long) rfl (fun hb=>?_) (fun hb=>?_)
      ·
       have hrow:(bB (ps.length+1) (p2 ps s i k)).set (k+1) (.bool true)=bB (ps.length+1) (p2 ps s i (k+1)):=bX7 hlt (by rw[hm,hprt,hb];rfl);refine Rg ?_;iterate 5 refine S0 ?_ (e:=fun _ h_=>by simp only[sH,↓sP,sA,tyS,simprocAttr,Int.natCast_nonneg,Int.ofNat_lt,hkM1,hw1,aP,aT hkM1,Int.toNat_natCast];exact AX h_)
       refine T2 (hK _ _ _ ?_);clear hK K;refine aM (by kernel_rfl) ?_;refine TQ hw1 ?_;refine⟨⟨k+1,hlt⟩,aN (by omega) (by simp[aY,fin_at,finA_at,upd_at,HV.men,HV.menL,HV.norm,HV.toC,HV.toCL,aP]) (by simp[aW,fob_at,upd_at,none0_at,bW,HO.men,HV.men,HV.menL,HV.norm,HV.toC,HV.toCL,hrow]),?_⟩;show ps.length-(k+1)<ps.length-k;omega
      have hrow:bB (ps.length+1) (p2 ps s i k)=bB (ps.length+1) (p2 ps s i (k+1)):=aN2 hlt (by rw[hm,hprt,hb];rfl);refine aK ?_;refine T0 (hK _ _ _ ?_);clear hK K;refine aM (by kernel_rfl) ?_;refine TQ hw1 ?_;refine⟨⟨k+1,hlt⟩,aN (by omega) (by simp[aY,fin_at,finA_at,upd_at,HV.men,HV.menL,HV.norm,HV.toC,HV.toCL,aP]) (by simp[aW,fob_at,upd_at,none0_at,bW,HO.men,HV.men,HV.menL,HV.norm,HV.toC,HV.toCL,hrow]),?_⟩;show ps.length-(k+1)<ps.length-k;omega
     have hm0:p2 ps s i k k=false:=by simpa using hm
     have hrow:bB (ps.length+1) (p2 ps s i k)=bB (ps.length+1) (p2 ps s i (k+1)):=aN2 hlt (by rw[hm0];rfl);refine aC fun K hK=>Rg ?_;iterate 11 refine S0 ?_ (e:=fun _ h_=>by simp only[sH,↓sP,sA,tyS,simprocAttr,Int.natCast_nonneg,Int.ofNat_lt,hkM,aP,aT hkM,hm0];exact AX h_)
     refine T2 (hK _ _ _ ?_);clear hK K;refine CF rfl ?_;refine aK ?_;refine T0 (hK _ _ _ ?_);clear hK K;refine aM (by kernel_rfl) ?_;refine TQ hw1 ?_;refine⟨⟨k+1,hlt⟩,aN (by omega) (by simp[aY,fin_at,finA_at,upd_at,HV.men,HV.menL,HV.norm,HV.toC,HV.toCL,aP]) (by simp[aW,fob_at,upd_at,none0_at,bW,HO.men,HV.men,HV.menL,HV.norm,HV.toC,HV.toCL,hrow]),?_⟩;show ps.length-(k+1)<ps.length-k;omega
    refine bA (T3 ?_);clear hK K;refine AX (hK _ _ _ ?_);clear hK K;refine aM (by kernel_rfl) ?_;refine T0 (hK _ _ _ ?_);clear hK K;have hek:k=ps.length:=by simp at hb;omega
    subst hek;have hta:bB (ps.length+1) (p2 ps s i ps.length)=bB (ps.length+1) (fun j=>mN ps s j (i+1)):=bX8;refine dU [328] (bG (fr2:=fin [(1,.c (.str s)),(5,.c (.slc (ps.map Pt.cv))),(7,.c (.slc (bB (ps.length+1) (fun j=>mN ps s j (i+1))))),(9,.c (.int .i64 i))]) (ob2:=fob []) (nx2:=900) (aN (by omega) (by simp[aY,fY,fin_at,finA_at,upd_at,fob_at,HV.close,HV.closeL,CV.denil,CV.denilL,fD,denilL_Pt,HV.men,HV.menL,HV.norm,HV.toC,HV.toCL,aP,hta]) (by simp[aW,fZ,fob_at,upd_at,none0_at,bW,HO.close,HV.close,HV.closeL,HO.men,HV.men,HV.menL,HV.norm,HV.toC,HV.toCL])) ?_);refine aM (by kernel_rfl) ?_;refine TQ (jP i) ?_;refine⟨⟨i+1,hil⟩,fF,?_⟩;show s.length-(i+1)<s.length-i;omega
   refine bA (T3 ?_);clear hK K;refine AX (hK _ _ _ ?_);clear hK K;have hei:i=s.length:=by simp at hb;omega
   subst hei;have hend:mN ps s ps.length s.length=mD ps s ps.length s.length:=cD7 ps s s.length;refine aC fun K hK=>Rg ?_;iterate 6 refine S0 ?_ (e:=fun _ h_=>by simp only[sH,↓sP,sA,tyS,simprocAttr,Int.natCast_nonneg,Int.ofNat_lt,List.length_map,Nat.lt_succ_self,aP,aT (f:=fun j=>mN ps s j s.length) (Nat.lt_succ_self ps.length),Int.toNat_natCast];exact AX h_)
   refine T2 (hK _ _ _ ?_);clear hK K;refine aF (RT Tryz.results73 ?_);exact aG [] (.bool (mN ps s ps.length s.length)) rfl (by rw[hmv,hend])
  refine R0 ?_;refine aL ?_;refine bF (α:={i:Nat//i≤ps.length∧ ∀t,t<i→(prt ps t).long=true}) (fun i=>(fin [(1,.c (.str s)),(5,.c (.slc (ps.map Pt.cv))),(7,.own 72 (ps.length+1)),(8,.c (.int .i64 i.1))],fob [(72,.row 4 1 (bB (ps.length+1) (fun j=>decide (j≤i.1))))])) 100 (fun i=>ps.length-i.1) ⟨0,by omega,fun t ht=>by omega⟩ (aN (by omega) (by simp[aY,fin_at,finA_at,upd_at,HV.men,HV.menL,HV.norm,HV.toC,HV.toCL,aP]) (by simp[aW,fob_at,upd_at,none0_at,bW,HO.men,HV.men,HV.menL,HV.norm,HV.toC,HV.toCL,aT5])) ?_;rintro⟨i,hi,hlg⟩;refine aC fun K hK=>?_;by_cases hlt:i<ps.length
  ·
   have hprt:=uE hlt;refine aC fun K hK=>Rg ?_;clear F;have F:=aI @Int.natCast_nonneg (aI @Int.ofNat_lt (aI hlt (aI @List.length_map.{0,0} (aI (nM hlt) (aI decide_true (aI @Pt.cells (aI @Pt.isAgg @Pt.getAll)))))));iterate 9 refine SF ?_
   refine aV (g:=some (35,true)) rfl rfl fun K' hK'=>T6 ?_;refine C1 (aD4 ps[i]) ?_;rintro u rfl;refine AX (hK' _ _ ?_);clear hK' K';refine SF ?_;refine T2 (hK _ _ _ ?_);clear hK K;refine aJ (b:=ps[i].long) rfl (fun hb=>?_) (fun hb=>?_)
   ·
    have hl:(prt ps i).long=true:=by rw[hprt];exact hb
    have hw1:IntKind.i64.wrap ((i:Int)+1)=((i+1:Nat):Int):=by rw[IntWalk.i64_in _ (by omega)];rfl
    have hi1:i+1<ps.length+1:=by omega
    refine aK ?_;refine T0 (hK _ _ _ ?_);clear hK K;refine aC fun K hK=>?_;refine aL ?_;refine Rg ?_;iterate 5 refine S0 ?_ (e:=fun _ h_=>by simp only[sH,↓sP,sA,tyS,simprocAttr,Int.natCast_nonneg,Int.ofNat_lt,hw1,hi1,aP,aT hi1,Int.toNat_natCast];exact AX h_)
    refine T2 (hK _ _ _ ?_);clear hK K;refine aM (by kernel_rfl) ?_;refine TQ hw1 ?_;refine⟨⟨i+1,hlt,fun t ht=>(show t<i∨t=i by omega).elim (hlg t) (fun h=>h▸hl)⟩,aN (by omega) (by simp[aY,fin_at,finA_at,upd_at,HV.men,HV.menL,HV.norm,HV.toC,HV.toCL,aP]) (by simp[aW,fob_at,upd_at,none0_at,bW,HO.men,HV.men,HV.menL,HV.norm,HV.toC,HV.toCL,aT6]),?_⟩;show ps.length-(i+1)<ps.length-i;omega
   refine bA (T3 ?_);clear hK K;have hrow:bB (ps.length+1) (fun j=>decide (j≤i))=bB (ps.length+1) (fun j=>mN ps s j 0):=wU hlg (.inr (by rw[hprt];exact hb));exact key _ _ _ (aN (by omega) (by simp[aY,fin_at,finA_at,upd_at,HV.men,HV.menL,HV.norm,HV.toC,HV.toCL,aP]) (by simp[aW,fob_at,upd_at,none0_at,bW,HO.men,HV.men,HV.menL,HV.norm,HV.toC,HV.toCL,hrow]))
  have hdi:decide ((i:Int)<((ps.length:Nat):Int))=false:=by simp;omega
  refine aC fun K hK=>Rg ?_;clear F;have F:=aI @List.length_map.{0,0} hdi;iterate 11 refine SF ?_
  refine T2 (hK _ _ _ ?_);clear hK K;refine CF rfl ?_;refine bA (T3 ?_);clear hK K;have hrow:bB (ps.length+1) (fun j=>decide (j≤i))=bB (ps.length+1) (fun j=>mN ps s j 0):=wU hlg (.inl (by omega));exact key _ _ _ (aN (by omega) (by simp[aY,fin_at,finA_at,upd_at,HV.men,HV.menL,HV.norm,HV.toC,HV.toCL,aP]) (by simp[aW,fob_at,upd_at,none0_at,bW,HO.men,HV.men,HV.menL,HV.norm,HV.toC,HV.toCL,hrow]))
 rename_i ps;have hs0:iD s=false:=by simpa using hs
 refine aC fun K hK=>Rg ?_;iterate 4 refine S0 ?_ (e:=fun _ h_=>by simp only[sH,↓sP,sA,tyS,simprocAttr,Option.isSome_some,Bool.not_true,hs0,Bool.not_false,Option.getD_some];exact AX h_)
 refine aV (g:=some (20,false)) rfl rfl fun K' hK'=>?_;simp only[sH,↓sP,sA,tyS,simprocAttr,Option.isSome_some,Bool.not_true,hs0,Bool.not_false,Option.getD_some];refine C1 (aM8 s) ?_;rintro u rfl;refine AX (hK' _ _ ?_);clear hK' K';iterate 2 refine S0 ?_ (e:=fun _ h_=>by simp only[sH,↓sP,sA,tyS,simprocAttr,Option.isSome_some,Bool.not_true,hs0,Bool.not_false,Option.getD_some];exact AX h_)
 refine T2 (hK _ _ _ ?_);clear hK K;refine CT rfl ?_;refine R0 ?_;refine aF (RT Tryz.results73 ?_);exact aG [] (.bool false) rfl (by rw[tJ hs0])
end Go.Proofs.YtlldglbooaefhaaGreatDoor
namespace Go.Pl
open Go Go.Hl
variable {q:Rq}
theorem bO7 (h:(q.k==1||(q.k==3||q.k==5))=true):dB q=(inB q.n 1 32&&eY q ⟨q.k,q.n,0,[]⟩):=by grind[dB,eY]
theorem aN3 (h:q.k=4):dB q=((inB q.n 1 32&&inB q.m 0 32)&&eY q ⟨q.k,q.n,q.m,[]⟩):=by simp[dB,h,eY,Bool.and_assoc]
theorem bO8 (h:q.k=2):dB q=(cU q.t&&eY q ⟨q.k,0,0,q.t⟩):=by simp[dB,h,eY]
theorem bO9 (h:q.k=6):dB q=(inB q.n 1 10&&eY q ⟨q.k,q.n,0,[]⟩):=by simp[dB,h,eY]
theorem bP0 (h:q.k=7):dB q=(inB q.n 0 rF&&eY q ⟨q.k,q.n,0,[]⟩):=by simp[dB,h,eY]
theorem bP1 (h:q.k=8):dB q=(true&&eY q ⟨q.k,0,0,[]⟩):=by simp[dB,h,eY]
theorem aZ1 (h:(q.k==1||(q.k==3||q.k==5))=false)(h4:q.k≠4)(h2:q.k≠2)(h6:q.k≠6)(h7:q.k≠7)(h8:q.k≠8):dB q=false:=by simp_all[dB,if_neg]
theorem wV (h:(q.k==1||(q.k==3||q.k==5))=true):dB q=(inB q.n 1 32&&(q.m==0&&q.t==[])):=by simp_all[dB,if_pos]
theorem qL (h:(q.k==4)=true):dB q=(inB q.n 1 32&&(decide (0≤q.m)&&(decide (q.m≤32)&&q.t==[]))):=by grind[dB,inB,Bool.and_assoc]
theorem wW (h:(q.k==2)=true):dB q=(q.n==0&&(q.m==0&&cU q.t)):=by grind[dB,cU]
theorem qM (h:(q.k==6)=true):dB q=(decide (1≤q.n)&&(decide (q.n≤10)&&(q.m==0&&q.t==[]))):=by grind[dB,inB,Bool.and_assoc]
theorem wX (h:(q.k==7)=true):dB q=(inN q.n&&(q.m==0&&q.t==[])):=by
 have h':q.k=7:=by simpa using h
 have e:inB q.n 0 rF=inN q.n:=rfl;simp[dB,h',e]
theorem wY (h:(q.k==8)=true):dB q=(q.n==0&&(q.m==0&&q.t==[])):=by grind[dB]
def nJ (n:Nd):Bool:=
 if n.k=1 then n.c==0&&(n.n==0&&dB n.q)
 else if n.k=2∨n.k=3 then decide (1≤n.c)&&(n.n==0&&eY n.q rq0)
 else if n.k=4 then decide (1≤n.c)&&(decide (1≤n.n)&&(decide (n.n≤n.c)&&eY n.q rq0))
 else false
theorem aE1 (n:Nd):bP n=(nJ n&&!decide (60<n.c)):=by
 unfold bP nJ inB;have e:(!decide (60<n.c))=decide (n.c≤60):=by
  by_cases h:n.c≤60
  · rw[decide_eq_true h,decide_eq_false (by omega)];rfl
  · rw[decide_eq_false h,decide_eq_true (by omega)];rfl
 rw[e];split
 ·
  by_cases h:n.c=0
  · simp[h]
  · simp[h]
 ·
  split
  · generalize decide (1≤n.c)=A;generalize decide (n.c≤60)=B;generalize eY n.q rq0=C;generalize (n.n==0)=D;cases A<;>cases B<;>cases C<;>cases D<;>rfl
  ·
   split
   · generalize decide (1≤n.c)=A;generalize decide (n.c≤60)=B;generalize eY n.q rq0=C;generalize decide (1≤n.n)=D;generalize decide (n.n≤n.c)=E;cases A<;>cases B<;>cases C<;>cases D<;>cases E<;>rfl
   · rfl
variable {n:Nd}
theorem oZ (h:n.k=1):bP n=(n.c==0&&(n.n==0&&dB n.q)):=by simp only[bP,if_pos h]
theorem zU (h:(n.k==2||n.k==3)=true):bP n=((inB n.c 1 60&&eY n.q rq0)&&n.n==0):=by
 have h':n.k=2∨n.k=3:=by simpa using h
 have h1:n.k≠1:=by omega
 simp_all[bP,if_neg,if_pos,Bool.and_assoc]
theorem pA (h:n.k=4):bP n=((inB n.c 1 60&&eY n.q rq0)&&inB n.n 1 n.c):=by simp_all[bP,if_neg,if_pos,Bool.and_assoc]
theorem bP2 (h1:n.k≠1)(h:(n.k==2||n.k==3)=false)(h4:n.k≠4):bP n=false:=by simp_all[bP,if_neg]
theorem pB (h:n.k=1):nJ n=(n.c==0&&(n.n==0&&dB n.q)):=by simp only[nJ,if_pos h]
theorem rY (h:(n.k==2||n.k==3)=true):nJ n=(decide (1≤n.c)&&(n.n==0&&eY n.q rq0)):=by
 have h':n.k=2∨n.k=3:=by simpa using h
 have h1:n.k≠1:=by omega
 simp_all[nJ,if_neg,if_pos]
theorem lT (h:n.k=4):nJ n=(decide (1≤n.c)&&(decide (1≤n.n)&&(decide (n.n≤n.c)&&eY n.q rq0))):=by simp_all[nJ,if_neg,if_pos]
theorem bP3 (h1:n.k≠1)(h:(n.k==2||n.k==3)=false)(h4:n.k≠4):nJ n=false:=by simp_all[nJ,if_neg]
structure ScSt (l:List Nd)(i:Nat)(m v:Int):Prop where
 le:i≤l.length
 eq:pQ l 1 0=pQ (l.drop i) m v
 m0:0≤m
 m1:m≤1+60*i
 v0:0≤v
 v1:v≤i
theorem ScSt.init (l:List Nd):ScSt l 0 1 0:=⟨by omega,rfl,by omega,by omega,by omega,by omega⟩
variable {m v:Int}{i:Nat}{l:List Nd}
theorem ScSt.stop (h:ScSt l i m v)(hi:i<l.length)(hb:m=0∨bP l[i]=false):cW l=false:=by
 have:pQ l 1 0=none:=by
  rw[h.eq,List.drop_eq_getElem_cons hi,pQ];rcases hb with hb|hb
  · rw[if_pos hb]
  · grind
 simp[cW,this]
theorem ScSt.next (h:ScSt l i m v)(hi:i<l.length)(hm:m≠0)(hb:bP l[i]=true):ScSt l (i+1) (m+(l[i].c-1)) (if l[i].k=1 then v+1 else v):=by
 obtain⟨c1,c2,_,_⟩:=dO hb;have h0:=h.m0;have h1:=h.m1;have h2:=h.v0;have h3:=h.v1;refine⟨hi,?_,by omega,by omega,?_,?_⟩
 · rw[h.eq,List.drop_eq_getElem_cons hi,pQ,if_neg hm,if_pos hb]
 all_goals grind
theorem ScSt.fin (h:ScSt l l.length m v)(h1:1≤l.length)(h2:l.length≤60):cW l=(m==0&&decide (v≤16)):=by
 have:pQ l 1 0=some (m,v):=by rw[h.eq,List.drop_length];rfl
 grind[cW]
theorem jX (h:l.length<1∨60<l.length):cW l=false:=by grind[cW]
theorem pC {l:List Nd}{i:Int}(h:cW l=false∨i<0∨(l.length:Int)≤i):rS l i=[]:=by
 unfold rS;grind
theorem bF4 (h:cW l=true)(hi:i<l.length):rS l i=jV l l[i].c.toNat (i+1):=by simp_all[rS,if_pos,bL9]
theorem tL (h:cW l=false):iR l=[]:=by simp[iR,h]
theorem pD (h:cW l=true):iR l=gG 0 l:=by simp[iR,h]
theorem oP : ∀{l:List Bool} {k:Nat},k<l.length→cnt (l.take (k+1))=cnt (l.take k)+(if l.getD k false=true then 1 else 0)
 |x::l,0,_=>by cases x<;>simp[cnt]
 |x::l,k+1,h=>by
  have h':k<l.length:=by simpa using h
  have e: ∀m,cnt ((x::l).take (m+1))=(if x=true then 1 else 0)+cnt (l.take m):=fun m=>by grind[cnt]
  rw[e,e,oP h'];grind
theorem aZ2 (h:i<l.length):lv (l.take (i+1))=lv (l.take i)+(if l[i].k=1 then 1 else 0):=by grind[List.take_succ_eq_append_getElem,rG,lv]
theorem aT7 (l:List Nd)(i:Nat):lv (l.take i)≤i:=by grind[cB0]
def bwL (l:List Nd):List (List CV):=(List.range l.length).map fun j=>[.int .i64 (l.length-1-j:Nat),(l.getD (l.length-1-j) nd0).cv]
theorem qN (l:List Nd):(bwL l).length=l.length:=by simp[bwL]
theorem bP4 {l:List Nd}{j:Nat}(h:j<(bwL l).length)(h2:l.length-1-j<l.length):(bwL l)[j]=[.int .i64 (l.length-1-j:Nat),(l[l.length-1-j]).cv]:=by simp[bwL,h2]
end Go.Pl
