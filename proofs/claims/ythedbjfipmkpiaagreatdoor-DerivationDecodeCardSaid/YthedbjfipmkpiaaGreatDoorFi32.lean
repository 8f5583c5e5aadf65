/- DerivationDecode: for any bytes the law returns true and leaves them as they were: Decode answers as the reference's Decode does. The listed tables of the library are tied to the program's text by the card. By an AI agent. -/
import Derived.Test.YthedbjfipmkpiaaGreatDoorPl02g
import Derived.Test.YthedbjfipmkpiaaGreatDoorPl31k
import Derived.Test.YthedbjfipmkpiaaGreatDoorHdSb
import Derived.Test.YthedbjfipmkpiaaGreatDoorHdX3
import Derived.Test.YthedbjfipmkpiaaGreatDoorHdX6
import Derived.Test.YthedbjfipmkpiaaGreatDoorHdW9
import Derived.Lay
import Derived.SevenTiedAt
import Derived.Test.YthedbjfipmkpiaaGreatDoorRows
import Derived.Test.YthedbjfipmkpiaaGreatDoorCards
import Derived.Test.YthedbjfipmkpiaaGreatDoorTie
set_option linter.unusedSimpArgs false
set_option linter.unusedVariables false
set_option linter.defProp false
namespace Go.Proofs.YthedbjfipmkpiaaGreatDoor
open Go Go.Hl Go.Pl
set_option maxRecDepth 10000
set_option maxHeartbeats 16000000
variable {r:HV}{ob:Ob}
theorem aH4 {n:Int}{R:CV→CV→Prop}(hr:r= .tup [.c (.agg [.agg [.str [],.str [],zd],.int .i64 0,zd,.int .i64 0,.agg [zd,.str [],.str []],.nils]),.c (.int .i64 n)])(hR:R dv0.cv (.int .i64 n)):
  iJ 0 r ob (fun r ob'=> ∃u v,r= .tup [.c u,.c v]∧R u v∧ob'=cZ):=by
 subst hr;refine aR [] dv0.cv (.int .i64 n) ?_ hR;simp[HV.close,HV.closeL,CV.denil,CV.denilL,HV.norm,HV.toC,HV.toCL,eP];rfl
def fpZ :CV:= .agg [.agg [.str [],.str [],zd],.int .i64 0,zd,.int .i64 0,.agg [zd,.str [],.str []],.slc []]
theorem pS :fpZ.denil=fpZ:=by simp[fpZ,CV.denil,CV.denilL,eP]
def fpC (d:Dv)(L:List Ln):List (Nat×HO):=[(0,.box 50 (.c fpZ)),(112,.box 50 (rdV d 488 L.length)),(488,.hrow 41 4 (L.map fun z=>HV.c z.cv))]
def fpO (d:Dv)(l:List Ln)(x:Ln)(N:Nat):List (Nat×HO):=[(0,.box 50 (.c fpZ)),(112,.box 50 (rdV d 488 (l.length+1))),(488,.hrow 41 4 ((l.map fun z=>HV.c z.cv)++[rdE x N])),(N,.row 44 32 (x.d.map dg))]
def Rs.fp (d:Dv)(y:Rs):List (Nat×HO):=match y.x with
 |none=>fpC d []
 |some x=>fpO d y.l x 66
structure RFI (ws:List (List aG))(y:Rs):Prop where
 le:y.i≤ws.length
 run:RunD iA ws y.i y.ls
 hx:y.x=none→y.l=[]
theorem zU {n:Nat}{code:Code}{Q:Exit→Fr→Ob→Nat→Prop}{F:List (Nat×HV)}{d:Dv}{y:Rs}(hx:y.x=none→y.l=[])(hF:aW 20200 (clF (fob (y.fp d)) [66] (fin F)) F)(h:Hw Tryz.prog n 0 code Q (fin F) (fob (fpC d y.ls)) 20200):Hw Tryz.prog n 0 code Q (fin F) (fob (y.fp d)) 20100:=by
 obtain⟨i,l,x⟩:=y;cases x with
 |none=>
  obtain rfl:l=[]:=hx rfl;refine cR [66] (bE (aM (by omega) hF ?_) h);simp[aX,Rs.fp,Rs.ls,fpC,dL,fob_at,rdV,HO.close,HV.close,HV.closeL,HV.norm,HV.toC,HV.toCL,Qs.denil,Og.denil,dg_denil,pS,CV.denil,HO.men,HV.men,HV.menL]
 |some x=>
  refine cR [66] (bE (aM (by omega) hF ?_) h);simp[aX,Rs.fp,Rs.ls,fpC,fpO,dL,fob_at,rdV,rdE,HO.close,HV.close,HV.closeL,kS,iR,HV.norm,HV.toC,HV.toCL,Qs.denil,Og.denil,dg_denil,pS,CV.denil,denilL_dg,denilL_int,HO.men,HV.men,HV.menL,HV.menL_append,bD,sI];rfl
variable {D:Dv}{b:aG}
theorem fE (e0:gA b=if dvE D=0∧dvO D=b then some D else none)(h:(dvE D !=0)=true∨(dvO D !=b)=true):gA b=none:=by
 rw[e0,if_neg];rintro⟨h1,h2⟩;rcases h with h|h
 · rw[h1]at h;exact absurd h (by decide)
 rw[h2]at h;simp at h
theorem jJ (e0:gA b=if dvE D=0∧dvO D=b then some D else none)(h1:(dvE D !=0)=false)(h2:(dvO D !=b)=false):gA b=some D:=by
 rw[e0,if_pos ⟨by simpa using h1,by simpa using h2⟩]
theorem fS (e3:gA b=some D)(e1:ddE b=if(gA b).isSome then 0 else 2)(hr:r= .tup [.c D.cv,.c (.int .i64 0)]):
  iJ 0 r ob (fun r ob'=> ∃u v,r= .tup [.c u,.c v]∧(u=(ddO b).cv∧v= .int .i64 (ddE b))∧ob'=cZ):=by
 subst hr;exact aR [] D.cv (.int .i64 0) (by simp[HV.close,HV.closeL,Dv.denil,CV.denil,HV.norm,HV.toC,HV.toCL]) ⟨by rw[ddO,e3];rfl,by rw[e1,e3];rfl⟩
theorem cE8 (b:aG)(hl:b.length<2^40):eU Tryz.prog 32 [.slc (b.map u8)] (fun u v=>u=(ddO b).cv∧v= .int .i64 (ddE b)):=by
 have hlen:=yZ (b:=b);have hwo:=aK8 (b:=b);refine FW Tryz.func32 ?_;refine R0 ?_;refine aB fun K hK=>Rg ?_;have F:=@denilL_u8;refine SF ?_;refine HS rfl rfl fun K' hK'=>T6 ?_;refine D1 (cM4 b hl) ?_;rintro u v ⟨rfl,rfl⟩;refine AX (hK' _ _ ?_);clear hK' K';iterate 5 refine SF ?_
 refine T2 (hK _ _ _ ?_);clear hK K;refine aB fun K hK=>?_;refine R0 ?_;refine aH (b:=!(eW b==0)) rfl (fun hb=>?_) (fun hb=>?_)
 ·
  have he:eW b≠0:=by simpa using hb
  have e1:ddE b=eW b:=by rw[ddE,if_pos he]
  have e2:ddO b=dv0:=by rw[ddO,gA,if_neg he];rfl
  clear hb;refine aB fun K hK=>Rg ?_;have F:=aI @bH @bI;iterate 4 refine SF ?_
  refine T2 (hK _ _ _ ?_);clear hK K;refine aF (RT Tryz.results32 ?_);exact aH4 (n:=eW b) rfl ⟨by rw[e2],by rw[e1]⟩
 have he:eW b=0:=by simpa using hb
 clear hb;have e0:gA b=(tG (gZ b)).bind fun d=>if dvE d=0∧dvO d=b then some d else none:=by rw[←cQ7,ddF,if_pos he]
 have e1:ddE b=if(gA b).isSome then 0 else 2:=by rw[ddE,if_neg (by simpa using he)]
 have hno:gA b=none→ ∀{ob:Ob} {r:HV},r= .tup [.c (.agg [.agg [.str [],.str [],zd],.int .i64 0,zd,.int .i64 0,.agg [zd,.str [],.str []],.nils]),.c (.int .i64 2)]→iJ 0 r ob (fun r ob'=> ∃u v,r= .tup [.c u,.c v]∧(u=(ddO b).cv∧v= .int .i64 (ddE b))∧ob'=cZ):=fun hn _ _ hr=>aH4 (n:=2) hr ⟨by rw[ddO,hn];rfl,by rw[e1,hn];rfl⟩;obtain⟨ls,hls⟩: ∃ls,ls=gZ b:=⟨_,rfl⟩;rw[←hls]at hlen hwo e0⊢;have hwb: ∀i j,(wd (wd' ls i) j).length<2^40:=fun i j=>by
  by_cases h:i<ls.length
  ·
   have h1:wd' ls i=ls[i]:=by rw[wd',List.getD_eq_getElem?_getD,List.getElem?_eq_getElem h];rfl
   rw[h1];have:=(hwo _ (List.getElem_mem h)).wd j;omega
  have h1:wd' ls i=[]:=by rw[wd',List.getD_eq_getElem?_getD,List.getElem?_eq_none (by omega)];rfl
  rw[h1];simp[wd]
 refine aK ?_;refine T0 (hK _ _ _ ?_);clear hK K;refine aB fun K hK=>?_;by_cases h2:2≤ls.length
 ·
  by_cases h7:(wd' ls 0).length=7
  ·
   by_cases h4:(wd' ls 1).length=4
   ·
    refine aB fun K hK=>Rg ?_;iterate 17 refine S0 ?_ (e:=fun _ h_=>by simp only[sH,↓sP,sA,tyS,simprocAttr,List.length_map,(show decide ((ls.length:Int)<2)=false from decide_eq_false (by omega)),eL (show 0<ls.length by omega),eL (show 1<ls.length by omega),Int.toNat_zero,Int.toNat_one,(show(((wd' ls 0).length:Int) !=7)=false from by rw[h7];rfl),(show(((wd' ls 1).length:Int) !=4)=false from by rw[h4];rfl)];exact AX h_)
    refine T2 (hK _ _ _ ?_);clear hK K;refine CF rfl ?_;refine aK ?_;refine T0 (hK _ _ _ ?_);clear hK K;rw[bC0 h2 h7 h4]at e0;refine R0 ?_;refine aB fun K hK=>DW [(0,[],[]),(1,[],[]),(2,[],[]),(3,[],[]),(4,[],[]),(5,[],[]),(6,[],[]),(7,[],[]),(8,[],[]),(9,[],[]),(10,[],[]),(11,[],[]),(12,[],[]),(13,[],[]),(14,[],[]),(15,[],[]),(16,[],[]),(17,[],[]),(18,[],[]),(19,[],[]),(20,[],[]),(21,[],[]),(22,[],[5,6,7,8,9,10,11,12,13,14,15,16,17,18,19]),(23,[],[]),(24,[],[]),(25,[],[10,11,12,13,14,15,16,17,18,19]),(26,[],[]),(27,[],[]),(28,[],[15,16,17,18,19]),(29,[],[]),(30,[],[]),(31,[],[])] [0,1,3,7,15,0,32,96,224,480,0,1024,3072,7168,15360,0,32768,98304,229376,491520,31,1048607,3145759,7341055,15729663,32506879,66093055,133201919,267419647,536870911,1073741823,2147483647] ?_;iterate 32 refine W0 ?_ (e:=fun _ h_=>by simp only[sH,↓sP,sA,tyS,simprocAttr,List.length_map,eL (show 0<ls.length by omega),eL (show 1<ls.length by omega),Int.toNat_zero,Int.toNat_one,h7,h4,cV (show 1<(wd' ls 0).length by omega),cV (show 2<(wd' ls 0).length by omega),cV (show 2<(wd' ls 1).length by omega),cV (show 3<(wd' ls 1).length by omega),bH,bI];exact AX h_)
    refine T2 (hK _ _ _ ?_);clear hK K;refine aB fun K hK=>Rg ?_;iterate 5 refine S0 ?_ (e:=fun _ h_=>by simp only[sH,↓sP,sA,tyS,simprocAttr,List.length_map,eL (show 0<ls.length by omega),Int.toNat_zero,h7,cV (show 3<(wd' ls 0).length by omega),bH,bI,dJ,dg_cells];exact AX h_)
    refine HS rfl rfl fun K' hK'=>?_;simp only[sH,↓sP,sA,tyS,simprocAttr,List.length_map,eL (show 0<ls.length by omega),Int.toNat_zero,h7,cV (show 3<(wd' ls 0).length by omega),bH,bI,dJ,dg_cells];refine D1 (kV (wd (wd' ls 0) 3)) ?_;rintro u v ⟨rfl,rfl⟩;refine AX (hK' _ _ ?_);clear hK' K';iterate 6 refine S0 ?_ (e:=fun _ h_=>by simp only[sH,↓sP,sA,tyS,simprocAttr,List.length_map,eL (show 0<ls.length by omega),Int.toNat_zero,h7,cV (show 3<(wd' ls 0).length by omega),bH,bI,dJ,dg_cells];exact AX h_)
    refine T2 (hK _ _ _ ?_);clear hK K;refine aB fun K hK=>Rg ?_;iterate 5 refine S0 ?_ (e:=fun _ h_=>by simp only[sH,↓sP,sA,tyS,simprocAttr,List.length_map,eL (show 0<ls.length by omega),Int.toNat_zero,h7,cV (show 4<(wd' ls 0).length by omega),bH,bI,dJ,dg_cells];exact AX h_)
    refine HS rfl rfl fun K' hK'=>?_;simp only[sH,↓sP,sA,tyS,simprocAttr,List.length_map,eL (show 0<ls.length by omega),Int.toNat_zero,h7,cV (show 4<(wd' ls 0).length by omega),bH,bI,dJ,dg_cells];refine D1 (tL (wd (wd' ls 0) 4)) ?_;rintro u v ⟨rfl,rfl⟩;refine AX (hK' _ _ ?_);clear hK' K';iterate 5 refine S0 ?_ (e:=fun _ h_=>by simp only[sH,↓sP,sA,tyS,simprocAttr,List.length_map,eL (show 0<ls.length by omega),Int.toNat_zero,h7,cV (show 4<(wd' ls 0).length by omega),bH,bI,dJ,dg_cells];exact AX h_)
    refine T2 (hK _ _ _ ?_);clear hK K;refine aB fun K hK=>Rg ?_;iterate 5 refine S0 ?_ (e:=fun _ h_=>by simp only[sH,↓sP,sA,tyS,simprocAttr,List.length_map,eL (show 0<ls.length by omega),Int.toNat_zero,h7,cV (show 5<(wd' ls 0).length by omega),bH,bI,dJ,dg_cells];exact AX h_)
    refine HS rfl rfl fun K' hK'=>?_;simp only[sH,↓sP,sA,tyS,simprocAttr,List.length_map,eL (show 0<ls.length by omega),Int.toNat_zero,h7,cV (show 5<(wd' ls 0).length by omega),bH,bI,dJ,dg_cells];refine D1 (kV (wd (wd' ls 0) 5)) ?_;rintro u v ⟨rfl,rfl⟩;refine AX (hK' _ _ ?_);clear hK' K';iterate 5 refine S0 ?_ (e:=fun _ h_=>by simp only[sH,↓sP,sA,tyS,simprocAttr,List.length_map,eL (show 0<ls.length by omega),Int.toNat_zero,h7,cV (show 5<(wd' ls 0).length by omega),bH,bI,dJ,dg_cells];exact AX h_)
    refine T2 (hK _ _ _ ?_);clear hK K;refine aB fun K hK=>Rg ?_;iterate 5 refine S0 ?_ (e:=fun _ h_=>by simp only[sH,↓sP,sA,tyS,simprocAttr,List.length_map,eL (show 0<ls.length by omega),Int.toNat_zero,h7,cV (show 6<(wd' ls 0).length by omega)];exact AX h_)
    refine HS rfl rfl fun K' hK'=>?_;simp only[sH,↓sP,sA,tyS,simprocAttr,List.length_map,eL (show 0<ls.length by omega),Int.toNat_zero,h7,cV (show 6<(wd' ls 0).length by omega)];refine D1 (tL (wd (wd' ls 0) 6)) ?_;rintro u v ⟨rfl,rfl⟩;refine AX (hK' _ _ ?_);clear hK' K';iterate 5 refine S0 ?_ (e:=fun _ h_=>by simp only[sH,↓sP,sA,tyS,simprocAttr,List.length_map,eL (show 0<ls.length by omega),Int.toNat_zero,h7,cV (show 6<(wd' ls 0).length by omega)];exact AX h_)
    refine T2 (hK _ _ _ ?_);clear hK K;have F:=aI @bH (aI @bI (aI @dJ @dg_cells));refine RF ?_;refine aB fun K hK=>Rg ?_;iterate 5 refine S0 ?_ (e:=fun _ h_=>by simp only[sH,↓sP,sA,tyS,simprocAttr,List.length_map,eL (show 1<ls.length by omega),Int.toNat_one,h4,cV (show 1<(wd' ls 1).length by omega),bH,bI,dJ,dg_cells];exact AX h_)
    refine HS rfl rfl fun K' hK'=>?_;simp only[sH,↓sP,sA,tyS,simprocAttr,List.length_map,eL (show 1<ls.length by omega),Int.toNat_one,h4,cV (show 1<(wd' ls 1).length by omega),bH,bI,dJ,dg_cells];refine D1 (kV (wd (wd' ls 1) 1)) ?_;rintro u v ⟨rfl,rfl⟩;refine AX (hK' _ _ ?_);clear hK' K';iterate 6 refine S0 ?_ (e:=fun _ h_=>by simp only[sH,↓sP,sA,tyS,simprocAttr,List.length_map,eL (show 1<ls.length by omega),Int.toNat_one,h4,cV (show 1<(wd' ls 1).length by omega),bH,bI,dJ,dg_cells];exact AX h_)
    refine T2 (hK _ _ _ ?_);clear hK K;refine aB fun K hK=>?_;refine R0 ?_;refine aN ?_;have hws:(ls.drop 2).length=ls.length-2:=List.length_drop;obtain⟨ws,hwe⟩: ∃ws,ws=ls.drop 2:=⟨_,rfl⟩;have hgi: ∀i (h:i<ws.length),ls[i+2]? =some ws[i]:=fun i h=>by
     rw[←List.getElem?_eq_getElem h,hwe,List.getElem?_drop,Nat.add_comm]
    rw[←hwe]at hws e0;have hww: ∀w∈ws,wOk w:=fun w hw=>hwo w (by rw[hwe]at hw;exact List.drop_subset _ _ hw);clear hwe;refine dQ 112 102 41 4 rfl (fC ?_ ?_) rfl (fD ?_ ?_ _) ?_
    · simp[Qs.cv,Og.cv,CV.cells,CV.cellsL,zd,dg_cells]
    · simp[Qs.cv,Og.cv,CV.cells,CV.cellsL,zd,dg_cells]
    · simp[Qs.cv,Og.cv,CV.cells,CV.cellsL,zd,dg_cells]
    · simp[Qs.cv,Og.cv,CV.cells,CV.cellsL,zd,dg_cells]
    refine bD5 488 rfl ?_;refine cR [] ?_;obtain⟨d,hd⟩: ∃d,d=headF ls:=⟨_,rfl⟩;have hdV: ∀n,HV.agg [HV.c (headF ls).q.cv,HV.c (.int .i64 (headF ls).t),HV.c (dg (headF ls).p),HV.c (.int .i64 (headF ls).r),HV.c (headF ls).o.cv,.own 488 n]=rdV d 488 n:=fun n=>by rw[hd];rfl
    refine bF (α:={y:Rs//RFI ws y}) (fun y=>(fin [(0,.c (.slc (b.map u8))),(2,.ptr 0 0),(4,.c (.slc (ls.map lsC))),(6,.ptr 112 0),(9,.c (.int .i64 (y.1.i+2:Nat)))],fob (y.1.fp d))) 20000 (fun y=>ws.length-y.1.i) ⟨⟨0,[],none⟩,⟨Nat.zero_le _,RunD.init,fun _=>rfl⟩⟩ (by simp only[Rs.fp,fpC,←hdV];exact aM (by omega) (by simp[aW,fin_at,finA_at,upd_at,HV.men,HV.menL,HV.norm,HV.toC,HV.toCL,dA,dL,HO.close,HV.close,HV.closeL,CV.denil,CV.denilL,dE,denilL_u8,Qs.denil,Og.denil,dg_denil,eP,headF,fpZ]) (by simp[aX,fob_at,upd_at,none0_at,bT,HO.men,HV.men,HV.menL,HV.norm,HV.toC,HV.toCL,dA,dL,HO.close,HV.close,HV.closeL,CV.denil,CV.denilL,dE,denilL_u8,Qs.denil,Og.denil,dg_denil,eP,headF,fpZ])) ?_;rintro⟨⟨i,l,z⟩,hy⟩;have hy1:=hy.le;have hrun:=hy.run;have hyx:=hy.hx;simp only at hy1 hrun hyx⊢;clear hy hdV;refine aB fun K hK=>?_;refine aB fun K hK=>Rg ?_;have F:=@List.length_map.{0,0};iterate 4 refine SF ?_
    refine T2 (hK _ _ _ ?_);clear hK K;refine aH (b:=decide (((i+2:Nat):Int)<ls.length)) rfl (fun hb=>?_) (fun hb=>?_)
    ·
     have hlt:i<ws.length:=by have:=of_decide_eq_true hb;omega
     have hlt2:i+2<ls.length:=by omega
     have hw:=hww _ (List.getElem_mem hlt);have hw0:0<ws[i].length:=List.length_pos_iff.2 hw.1;have hlr:=bB9 (fun w h=>(hww w h).2.1) hy1 hrun;have hgw:nth (ls.map lsC) (i+2)= .slc (ws[i].map .str):=by
      rw[bP hlt2];have:=hgi i hlt;rw[List.getElem?_eq_getElem hlt2]at this;rw[Option.some.inj this];rfl
     clear hb;refine aK ?_;refine T0 (hK _ _ _ ?_);clear hK K;refine aB fun K hK=>?_;refine aN ?_;by_cases hdc:wd ws[i] 0=jW
     ·
      by_cases hzn:z=none
      ·
       subst hzn;obtain rfl:l=[]:=hyx rfl;simp only[Rs.fp,fpC];have hno2:gA b=none:=by
        rw[e0,hrun.bad hlt (by unfold iA;rw[if_pos hdc];rfl)];rfl
       refine aB fun K hK=>DW [(0,[],[]),(1,[],[]),(2,[],[]),(3,[],[]),(4,[],[]),(9,[],[]),(5,[9],[9]),(6,[9],[]),(7,[9],[]),(8,[9],[]),(10,[],[8]),(11,[],[])] [0,0,0,6,14,31,63,127,127,0,767,2047] ?_;iterate 6 refine W0 ?_ (e:=fun _ h_=>by simp only[sH,↓sP,sA,tyS,simprocAttr,rdV,List.length_map,Int.natCast_nonneg,Int.ofNat_lt,hlt2,Int.toNat_natCast,hgw,eE,CV.denil,denilL_str];exact AX h_)
       refine bL (g:=none) rfl rfl fun K' hK'=>?_;simp only[sH,↓sP,sA,tyS,simprocAttr,rdV,List.length_map,Int.natCast_nonneg,Int.ofNat_lt,hlt2,Int.toNat_natCast,hgw,eE,CV.denil,denilL_str];refine fV [488] (bQ9 ws[i] hw.2.1 hw0 hdc d) rfl ⟨rfl,trivial⟩ (by simp) (by simp) ⟨rfl,rfl,rfl,rfl⟩ (by simp[eH,HO.men,HV.menL]) (by simp[rdV,HV.menL,HV.men]) ?_;rintro u os' ⟨rfl,rfl⟩;simp only[HV.ren,HV.renL,kL,HO.ren,List.map_nil,Nat.zero_add,rdV,show sub [488] 20036 0=488 from rfl];refine AX (hK' _ _ ?_);clear hK' K';iterate 5 refine W0 ?_ (e:=fun _ h_=>by simp only[sH,↓sP,sA,tyS,simprocAttr,rdV,List.length_map,Int.natCast_nonneg,Int.ofNat_lt,hlt2,Int.toNat_natCast,hgw,eE,CV.denil,denilL_str];exact AX h_)
       refine T2 (hK _ _ _ ?_);clear hK K;refine aB fun K hK=>?_;refine R0 ?_;refine CT rfl ?_;have F:=aI @bH @bI;refine RF ?_;refine aF (RT Tryz.results32 ?_);first
       |exact hno hsh rfl
       |exact hno hno2 rfl
       |(refine⟨rfl,?_⟩;exact hno hsh rfl)
       |(refine⟨rfl,?_⟩;exact hno hno2 rfl)
       |exact hno (fE e0 (by first|exact .inl h22_147|exact .inr h22_153)) rfl
       |(refine⟨rfl,?_⟩;exact hno (fE e0 (by first|exact .inl h22_147|exact .inr h22_153)) rfl)
       |exact fS (jJ e0 h22_147 h22_153) e1 rfl
      obtain⟨q,rfl⟩:=Option.ne_none_iff_exists'.1 hzn;clear hzn hyx;simp only[Rs.fp,fpO];have hll:=hlr.len;have hqd:=hlr.d q (by simp[Rs.ls]);simp only[Rs.ls,Option.toList_some,List.length_append,List.length_cons,List.length_nil]at hll;have hstp:iA (Rs.ls ⟨i,l,some q⟩) ws[i]=lX (l++[q]) ws[i]:=by unfold iA;rw[if_pos hdc];rfl
      refine aB fun K hK=>DW [(0,[],[]),(1,[],[]),(2,[],[]),(3,[],[]),(4,[],[]),(9,[],[]),(5,[9],[9]),(6,[9],[]),(7,[9],[]),(8,[9],[]),(10,[],[8]),(11,[],[])] [0,0,0,6,14,31,63,127,127,0,767,2047] ?_;iterate 6 refine W0 ?_ (e:=fun _ h_=>by simp only[sH,↓sP,sA,tyS,simprocAttr,rdV,List.length_map,Int.natCast_nonneg,Int.ofNat_lt,hlt2,Int.toNat_natCast,hgw,eE,CV.denil,denilL_str];exact AX h_)
      refine bL (g:=none) rfl rfl fun K' hK'=>?_;simp only[sH,↓sP,sA,tyS,simprocAttr,rdV,List.length_map,Int.natCast_nonneg,Int.ofNat_lt,hlt2,Int.toNat_natCast,hgw,eE,CV.denil,denilL_str];refine fV [488,66] (cE6 ws[i] hw.2.1 hw0 hdc d l q (by omega) (by omega)) rfl ⟨?_,?_,trivial⟩ (by simp) (by simp) ⟨rfl,rfl,rfl,rfl⟩ (by simp[eH,HO.men,HV.menL,HV.men,HV.menL_append,bD,rdE,rlH]) (by simp[rdV,HV.menL,HV.men]) ?_
      · simp[HO.ren,gG,fY,rdE,HV.ren,HV.renL,sub,fob_at,upd_at,rlH]
      · rfl
      rintro u os' ⟨q',rfl,rfl,hq'⟩;simp only[rlH,rdE,HV.ren,HV.renL,kL,HO.ren,gG,fY,Nat.zero_add,rdV,show sub [488,66] 20036 0=488 from rfl,show sub [488,66] 20036 1=66 from rfl];refine AX (hK' _ _ ?_);clear hK' K';iterate 5 refine W0 ?_ (e:=fun _ h_=>by simp only[sH,↓sP,sA,tyS,simprocAttr,rdV,List.length_map,Int.natCast_nonneg,Int.ofNat_lt,hlt2,Int.toNat_natCast,hgw,eE,CV.denil,denilL_str];exact AX h_)
      refine T2 (hK _ _ _ ?_);clear hK K;refine aB fun K hK=>?_;refine R0 ?_;refine aH (b:=!(lX (l++[q]) ws[i]).isSome) rfl (fun hb=>?_) (fun hb=>?_)
      ·
       have hno2:gA b=none:=by
        rw[e0,hrun.bad hlt (by rw[hstp];simpa using hb)];rfl
       have F:=aI @bH @bI;refine RF ?_;refine aF (RT Tryz.results32 ?_);first
       |exact hno hsh rfl
       |exact hno hno2 rfl
       |(refine⟨rfl,?_⟩;exact hno hsh rfl)
       |(refine⟨rfl,?_⟩;exact hno hno2 rfl)
       |exact hno (fE e0 (by first|exact .inl h22_147|exact .inr h22_153)) rfl
       |(refine⟨rfl,?_⟩;exact hno (fE e0 (by first|exact .inl h22_147|exact .inr h22_153)) rfl)
       |exact fS (jJ e0 h22_147 h22_153) e1 rfl
      obtain⟨M,hM⟩:=Option.isSome_iff_exists.1 (show(lX (l++[q]) ws[i]).isSome=true by simpa using hb);have hMe:=hq' M hM;clear hb;refine aK ?_;refine T0 (hK _ _ _ ?_);clear hK K;refine aD (by kernel_rfl) ?_;simp only[↓sP,sA,tyS,simprocAttr,rdV,rdE];refine AX (hK _ _ _ ?_);clear hK K;refine aD (by kernel_rfl) ?_;refine TQ (show IntKind.i64.wrap (((i+2:Nat):Int)+1)=((i+1+2:Nat):Int)from by rw[IntWalk.i64_in _ (by omega)];omega) ?_;refine⟨⟨⟨i+1,l,some q'⟩,⟨hlt,?_,fun h=>by cases h⟩⟩,?_,?_⟩
      · exact hrun.next hlt (by rw[hstp,hM,hMe];rfl)
      · simp only[Rs.fp,fpO];exact aM (by omega) (by simp[aW,fin_at,finA_at,upd_at,HV.men,HV.menL,HV.norm,HV.toC,HV.toCL,rdV,rdE,HV.menL_append,bD]) (by simp[aX,fob_at,upd_at,none0_at,bT,HO.men,HV.men,HV.menL,HV.norm,HV.toC,HV.toCL,rdV,rdE,HV.menL_append,bD])
      show ws.length-(i+1)<ws.length-i;omega
     by_cases hsh:ws[i].length<2
     ·
      have hno2:gA b=none:=by
       rw[e0,hrun.bad hlt (by unfold iA;rw[if_neg hdc,wM hsh];rfl)];rfl
      refine bE (fr2:=fin [(0,.c (.slc (b.map u8))),(2,.ptr 0 0),(4,.c (.slc (ls.map lsC))),(6,.ptr 112 0),(9,.c (.int .i64 (i+2:Nat)))]) (ob2:=fob (Rs.fp d ⟨i,l,z⟩)) (nx2:=20100) (by cases z<;>simp only[Rs.fp,fpC,fpO]<;>exact aM (by omega) (by simp[aW,fin_at,finA_at,upd_at,HV.men,HV.menL,HV.norm,HV.toC,HV.toCL,rdV,rdE,HV.menL_append,bD]) (by simp[aX,fob_at,upd_at,none0_at,bT,HO.men,HV.men,HV.menL,HV.norm,HV.toC,HV.toCL,rdV,rdE,HV.menL_append,bD])) ?_;refine zU (y:=⟨i,l,z⟩) hyx (by simp[aW,dA,fin_at,HV.close,HV.closeL,HV.norm,HV.toC,HV.men,CV.denil,denilL_str,dE,denilL_u8]) ?_;obtain⟨L,hL⟩: ∃L,L=Rs.ls ⟨i,l,z⟩:=⟨_,rfl⟩;rw[←hL]at hrun hlr⊢;have hLl:=hlr.len;simp only[fpC];clear hL hyx;refine aB fun K hK=>DW [(0,[],[]),(1,[],[]),(2,[],[]),(3,[],[]),(4,[],[]),(9,[],[]),(5,[9],[9]),(6,[9],[]),(7,[9],[]),(8,[9],[]),(10,[],[8]),(11,[],[])] [0,0,0,6,14,31,63,127,127,0,767,2047] ?_;iterate 6 refine W0 ?_ (e:=fun _ h_=>by simp only[sH,↓sP,sA,tyS,simprocAttr,rdV,List.length_map,Int.natCast_nonneg,Int.ofNat_lt,hlt2,Int.toNat_natCast,hgw,eE,CV.denil,denilL_str];exact AX h_)
      refine bL (g:=none) rfl rfl fun K' hK'=>?_;simp only[sH,↓sP,sA,tyS,simprocAttr,rdV,List.length_map,Int.natCast_nonneg,Int.ofNat_lt,hlt2,Int.toNat_natCast,hgw,eE,CV.denil,denilL_str];refine fV [488] (aV5 ws[i] hw.2.1 hw0 hdc d L (by omega)) rfl ⟨?_,trivial⟩ (by simp) (by simp) ⟨rfl,rfl,rfl,rfl⟩ (by simp[eH,HO.men,HV.menL,bD]) (by simp[rdV,HV.menL,HV.men]) ?_
      · simp[HO.ren,fY,fob_at,upd_at]
      rintro u os' hR;obtain⟨_,_,rfl,rfl⟩|⟨h',_⟩:=hR
      rotate_left 1
      · omega
      simp only[HV.ren,HV.renL,kL,HO.ren,gG,fY,Nat.zero_add,rdV,show sub [488] 20220 0=488 from rfl];refine AX (hK' _ _ ?_);clear hK' K';iterate 5 refine W0 ?_ (e:=fun _ h_=>by simp only[sH,↓sP,sA,tyS,simprocAttr,rdV,List.length_map,Int.natCast_nonneg,Int.ofNat_lt,hlt2,Int.toNat_natCast,hgw,eE,CV.denil,denilL_str];exact AX h_)
      refine T2 (hK _ _ _ ?_);clear hK K;refine aB fun K hK=>?_;refine R0 ?_;refine CT rfl ?_;have F:=aI @bH @bI;refine RF ?_;refine aF (RT Tryz.results32 ?_);first
      |exact hno hsh rfl
      |exact hno hno2 rfl
      |(refine⟨rfl,?_⟩;exact hno hsh rfl)
      |(refine⟨rfl,?_⟩;exact hno hno2 rfl)
      |exact hno (fE e0 (by first|exact .inl h22_147|exact .inr h22_153)) rfl
      |(refine⟨rfl,?_⟩;exact hno (fE e0 (by first|exact .inl h22_147|exact .inr h22_153)) rfl)
      |exact fS (jJ e0 h22_147 h22_153) e1 rfl
     have hstp:=fun(L:List Ln)=>(show iA L ws[i]=(jA ws[i]).map fun x=>L++[x]by unfold iA;rw[if_neg hdc]);refine bE (fr2:=fin [(0,.c (.slc (b.map u8))),(2,.ptr 0 0),(4,.c (.slc (ls.map lsC))),(6,.ptr 112 0),(9,.c (.int .i64 (i+2:Nat)))]) (ob2:=fob (Rs.fp d ⟨i,l,z⟩)) (nx2:=20100) (by cases z<;>simp only[Rs.fp,fpC,fpO]<;>exact aM (by omega) (by simp[aW,fin_at,finA_at,upd_at,HV.men,HV.menL,HV.norm,HV.toC,HV.toCL,rdV,rdE,HV.menL_append,bD]) (by simp[aX,fob_at,upd_at,none0_at,bT,HO.men,HV.men,HV.menL,HV.norm,HV.toC,HV.toCL,rdV,rdE,HV.menL_append,bD])) ?_;refine zU (y:=⟨i,l,z⟩) hyx (by simp[aW,dA,fin_at,HV.close,HV.closeL,HV.norm,HV.toC,HV.men,CV.denil,denilL_str,dE,denilL_u8]) ?_;obtain⟨L,hL⟩: ∃L,L=Rs.ls ⟨i,l,z⟩:=⟨_,rfl⟩;rw[←hL]at hrun hlr⊢;have hLl:=hlr.len;simp only[fpC];clear hL hyx;refine aB fun K hK=>DW [(0,[],[]),(1,[],[]),(2,[],[]),(3,[],[]),(4,[],[]),(9,[],[]),(5,[9],[9]),(6,[9],[]),(7,[9],[]),(8,[9],[]),(10,[],[8]),(11,[],[])] [0,0,0,6,14,31,63,127,127,0,767,2047] ?_;iterate 6 refine W0 ?_ (e:=fun _ h_=>by simp only[sH,↓sP,sA,tyS,simprocAttr,rdV,List.length_map,Int.natCast_nonneg,Int.ofNat_lt,hlt2,Int.toNat_natCast,hgw,eE,CV.denil,denilL_str];exact AX h_)
     refine bL (g:=none) rfl rfl fun K' hK'=>?_;simp only[sH,↓sP,sA,tyS,simprocAttr,rdV,List.length_map,Int.natCast_nonneg,Int.ofNat_lt,hlt2,Int.toNat_natCast,hgw,eE,CV.denil,denilL_str];refine fV [488] (aV5 ws[i] hw.2.1 hw0 hdc d L (by omega)) rfl ⟨?_,trivial⟩ (by simp) (by simp) ⟨rfl,rfl,rfl,rfl⟩ (by simp[eH,HO.men,HV.menL,bD]) (by simp[rdV,HV.menL,HV.men]) ?_
     · simp[HO.ren,fY,fob_at,upd_at]
     rintro u os' hR;obtain⟨h',_⟩|⟨_,k,n,f,rfl,rfl,hx⟩:=hR
     · exact absurd h' hsh
     simp only[HV.ren,HV.renL,kL,HO.ren,gG,fY,Nat.zero_add,rdV,rdE,List.map_nil,show sub [488] 20220 0=488 from rfl,show sub [488] 20220 1=20220 from rfl];refine AX (hK' _ _ ?_);clear hK' K';iterate 5 refine W0 ?_ (e:=fun _ h_=>by simp only[sH,↓sP,sA,tyS,simprocAttr,rdV,List.length_map,Int.natCast_nonneg,Int.ofNat_lt,hlt2,Int.toNat_natCast,hgw,eE,CV.denil,denilL_str];exact AX h_)
     refine T2 (hK _ _ _ ?_);clear hK K;refine aB fun K hK=>?_;refine R0 ?_;refine aH (b:=!(jA ws[i]).isSome) rfl (fun hb=>?_) (fun hb=>?_)
     ·
      have hno2:gA b=none:=by
       rw[e0,hrun.bad hlt (by rw[hstp,(show jA ws[i]=none by simpa using hb)];rfl)];rfl
      have F:=aI @bH @bI;refine RF ?_;refine aF (RT Tryz.results32 ?_);first
      |exact hno hsh rfl
      |exact hno hno2 rfl
      |(refine⟨rfl,?_⟩;exact hno hsh rfl)
      |(refine⟨rfl,?_⟩;exact hno hno2 rfl)
      |exact hno (fE e0 (by first|exact .inl h22_147|exact .inr h22_153)) rfl
      |(refine⟨rfl,?_⟩;exact hno (fE e0 (by first|exact .inl h22_147|exact .inr h22_153)) rfl)
      |exact fS (jJ e0 h22_147 h22_153) e1 rfl
     obtain⟨q,hq⟩:=Option.isSome_iff_exists.1 (show(jA ws[i]).isSome=true by simpa using hb);obtain rfl:=hx q hq;clear hb hx;refine aK ?_;refine T0 (hK _ _ _ ?_);clear hK K;refine aD (by kernel_rfl) ?_;simp only[↓sP,sA,tyS,simprocAttr,rdV,rdE];refine AX (hK _ _ _ ?_);clear hK K;refine cA3 20220 66 20400 [(0,.c (.slc (b.map u8))),(2,.ptr 0 0),(4,.c (.slc (ls.map lsC))),(6,.ptr 112 0),(9,.c (.int .i64 (i+2:Nat)))] (fpO d L ⟨k,n,[],f⟩ 20220) (by simp[aW,fin_at,finA_at,upd_at,HV.men,HV.menL]) (by simp[fpO,rdV,rdE,aX,fob_at,upd_at,none0_at,bT,HO.men,HV.men,HV.menL,HV.menL_append,bD]) (by omega) (by omega) (by omega) (by omega) (by omega) (by omega) (by omega) (by simp[HV.men]) (by simp[fpO,rdV,rdE,HO.men,HV.men,HV.menL,HV.menL_append,bD]) (bE (fr2:=fin [(0,.c (.slc (b.map u8))),(2,.ptr 0 0),(4,.c (.slc (ls.map lsC))),(6,.ptr 112 0),(9,.c (.int .i64 (i+2:Nat)))]) (ob2:=fob (fpO d L ⟨k,n,[],f⟩ 66)) (nx2:=20500) (by simp only[fpO];exact aM (by omega) (by simp[aW,fin_at,finA_at,upd_at,HV.men,HV.menL,HV.norm,HV.toC,HV.toCL,mvF,mvO,mvN,HV.ren,HO.ren,HV.renL,gG,fY,HV.menL_append,bD,rdV,rdE]) (by simp[aX,fob_at,upd_at,none0_at,bT,HO.men,HV.men,HV.menL,HV.norm,HV.toC,HV.toCL,mvF,mvO,mvN,HV.ren,HO.ren,HV.renL,gG,fY,HV.menL_append,bD,rdV,rdE])) ?_);simp only[fpO];refine aD (by kernel_rfl) ?_;refine TQ (show IntKind.i64.wrap (((i+2:Nat):Int)+1)=((i+1+2:Nat):Int)from by rw[IntWalk.i64_in _ (by omega)];omega) ?_;refine⟨⟨⟨i+1,L,some ⟨k,n,[],f⟩⟩,⟨hlt,?_,fun h=>by cases h⟩⟩,?_,?_⟩
     · exact hrun.next hlt (by rw[hstp,hq];rfl)
     · simp only[Rs.fp,fpO];exact aM (by omega) (by simp[aW,fin_at,finA_at,upd_at,HV.men,HV.menL,HV.norm,HV.toC,HV.toCL,rdV,rdE,HV.menL_append,bD]) (by simp[aX,fob_at,upd_at,none0_at,bT,HO.men,HV.men,HV.menL,HV.norm,HV.toC,HV.toCL,rdV,rdE,HV.menL_append,bD])
     show ws.length-(i+1)<ws.length-i;omega
    have hie:i=ws.length:=by have:=of_decide_eq_false hb;omega
    clear hb;have hlr:=bB9 (fun w h=>(hww w h).2.1) hy1 hrun;refine bE (fr2:=fin [(0,.c (.slc (b.map u8))),(2,.ptr 0 0),(6,.ptr 112 0)]) (ob2:=fob (Rs.fp d ⟨i,l,z⟩)) (nx2:=20100) (by cases z<;>simp only[Rs.fp,fpC,fpO]<;>exact aM (by omega) (by simp[aW,fin_at,finA_at,upd_at,HV.men,HV.menL,HV.norm,HV.toC,HV.toCL,rdV,rdE,HV.menL_append,bD]) (by simp[aX,fob_at,upd_at,none0_at,bT,HO.men,HV.men,HV.menL,HV.norm,HV.toC,HV.toCL,rdV,rdE,HV.menL_append,bD])) ?_;refine zU (y:=⟨i,l,z⟩) hyx (by simp[aW,dA,fin_at,HV.close,HV.closeL,HV.norm,HV.toC,HV.men,CV.denil,denilL_u8]) ?_;obtain⟨L,hL⟩: ∃L,L=Rs.ls ⟨i,l,z⟩:=⟨_,rfl⟩;rw[←hL]at hrun hlr⊢;rw[hie]at hrun;rw[hrun.fin]at e0;have hDW:=cN6 (cM7 (ls:=ls) (by omega) hlr);obtain⟨D,hD⟩: ∃D:Dv,D={headF ls with l:=L}:=⟨_,rfl⟩;have hDc:D.cv= .agg [d.q.cv,.int .i64 d.t,dg d.p,.int .i64 d.r,d.o.cv,.slc (L.map Ln.cv)]:=by rw[hD,hd];rfl
    rw[←hD]at hDW
    replace e0:gA b=if dvE D=0∧dvO D=b then some D else none:=by rw[e0,hD];rfl
    simp only[fpC];refine mV 488 (L.map Ln.cv) rfl (lI L) (cR [488] (bE (fr2:=fin [(0,.c (.slc (b.map dG))),(2,.ptr 0 0),(6,.ptr 112 0)]) (ob2:=fob [(0,.box 50 (.c fpZ)),(112,.box 50 (.c D.cv))]) (nx2:=20300) (aM (by omega) (by simp[aW,fin_at,finA_at,upd_at,HV.men,HV.menL,HV.norm,HV.toC,HV.toCL,dA,dL,HO.close,HV.close,HV.closeL,CV.denil,CV.denilL,denilL_u8,rdV,Qs.denil,Og.denil,dg_denil,pS,denilL_Ln,hDc,sI,bU,(show b.map u8=b.map dG from rfl)]) (by simp[aX,fob_at,upd_at,none0_at,bT,HO.men,HV.men,HV.menL,HV.norm,HV.toC,HV.toCL,dA,dL,HO.close,HV.close,HV.closeL,CV.denil,CV.denilL,denilL_u8,rdV,Qs.denil,Og.denil,dg_denil,pS,denilL_Ln,hDc,sI,bU,(show b.map u8=b.map dG from rfl)])) ?_));clear hL hyx hie hlr hDc hrun hd;refine bA (T3 ?_);clear hK K;refine AX (hK _ _ _ ?_);clear hK K;refine aB fun K hK=>Rg ?_;refine S0 ?_;refine HS rfl rfl fun K' hK'=>T5 ?_;refine D1 (bQ2 D hDW) ?_;rintro u v ⟨rfl,rfl⟩;refine AX (hK' _ _ ?_);clear hK' K';iterate 5 refine S0 ?_
    refine T2 (hK _ _ _ ?_);clear hK K;refine aB fun K hK=>?_;refine aB fun K hK=>Rg ?_;have F:=aI @bytesC_map @bU;iterate 3 refine SF ?_
    refine aL 147 rfl (fun h22_147=>?_) (fun h22_147=>?_)
    ·
     have F:=aI @bytesC_map (aI @bU h22_147);iterate 6 refine SF ?_
     refine T2 (hK _ _ _ ?_);clear hK K;refine CT rfl ?_;have F:=aI @bH @bI;refine RF ?_;refine aF (RT Tryz.results32 ?_);first
     |exact hno hsh rfl
     |exact hno hno2 rfl
     |(refine⟨rfl,?_⟩;exact hno hsh rfl)
     |(refine⟨rfl,?_⟩;exact hno hno2 rfl)
     |exact hno (fE e0 (by first|exact .inl h22_147|exact .inr h22_153)) rfl
     |(refine⟨rfl,?_⟩;exact hno (fE e0 (by first|exact .inl h22_147|exact .inr h22_153)) rfl)
     |exact fS (jJ e0 h22_147 h22_153) e1 rfl
    have F:=aI @bytesC_map (aI @bU h22_147);iterate 6 refine SF ?_
    refine aL 153 rfl (fun h22_153=>?_) (fun h22_153=>?_)
    ·
     simp only[h22_153];refine T2 (hK _ _ _ ?_);clear hK K;refine CT rfl ?_;have F:=aI @bH @bI;refine RF ?_;refine aF (RT Tryz.results32 ?_);first
     |exact hno hsh rfl
     |exact hno hno2 rfl
     |(refine⟨rfl,?_⟩;exact hno hsh rfl)
     |(refine⟨rfl,?_⟩;exact hno hno2 rfl)
     |exact hno (fE e0 (by first|exact .inl h22_147|exact .inr h22_153)) rfl
     |(refine⟨rfl,?_⟩;exact hno (fE e0 (by first|exact .inl h22_147|exact .inr h22_153)) rfl)
     |exact fS (jJ e0 h22_147 h22_153) e1 rfl
    simp only[h22_153];refine T2 (hK _ _ _ ?_);clear hK K;refine CF rfl ?_;refine aK ?_;refine T0 (hK _ _ _ ?_);clear hK K;refine R0 ?_ (e:=fun _ h_=>by simp only[↓sP,sA,tyS,simprocAttr,fpZ];exact AX h_);refine aF (RT Tryz.results32 ?_);first
    |exact hno hsh rfl
    |exact hno hno2 rfl
    |(refine⟨rfl,?_⟩;exact hno hsh rfl)
    |(refine⟨rfl,?_⟩;exact hno hno2 rfl)
    |exact hno (fE e0 (by first|exact .inl h22_147|exact .inr h22_153)) rfl
    |(refine⟨rfl,?_⟩;exact hno (fE e0 (by first|exact .inl h22_147|exact .inr h22_153)) rfl)
    |exact fS (jJ e0 h22_147 h22_153) e1 rfl
   have hsh:gA b=none:=by rw[e0,rL (.inr (.inr h4))];rfl
   refine aB fun K hK=>Rg ?_;iterate 17 refine S0 ?_ (e:=fun _ h_=>by simp only[sH,↓sP,sA,tyS,simprocAttr,List.length_map,(show decide ((ls.length:Int)<2)=false from decide_eq_false (by omega)),eL (show 0<ls.length by omega),eL (show 1<ls.length by omega),Int.toNat_zero,Int.toNat_one,(show(((wd' ls 0).length:Int) !=7)=false from by rw[h7];rfl),(show(((wd' ls 1).length:Int) !=4)=true from bne_iff_ne.2 (by omega))];exact AX h_)
   refine T2 (hK _ _ _ ?_);clear hK K;refine CT rfl ?_;have F:=aI @bH @bI;refine RF ?_;refine aF (RT Tryz.results32 ?_);first
   |exact hno hsh rfl
   |exact hno hno2 rfl
   |(refine⟨rfl,?_⟩;exact hno hsh rfl)
   |(refine⟨rfl,?_⟩;exact hno hno2 rfl)
   |exact hno (fE e0 (by first|exact .inl h22_147|exact .inr h22_153)) rfl
   |(refine⟨rfl,?_⟩;exact hno (fE e0 (by first|exact .inl h22_147|exact .inr h22_153)) rfl)
   |exact fS (jJ e0 h22_147 h22_153) e1 rfl
  have hsh:gA b=none:=by rw[e0,rL (.inr (.inl h7))];rfl
  refine aB fun K hK=>Rg ?_;iterate 17 refine S0 ?_ (e:=fun _ h_=>by simp only[sH,↓sP,sA,tyS,simprocAttr,List.length_map,(show decide ((ls.length:Int)<2)=false from decide_eq_false (by omega)),eL (show 0<ls.length by omega),Int.toNat_zero,(show(((wd' ls 0).length:Int) !=7)=true from bne_iff_ne.2 (by omega))];exact AX h_)
  refine T2 (hK _ _ _ ?_);clear hK K;refine CT rfl ?_;have F:=aI @bH @bI;refine RF ?_;refine aF (RT Tryz.results32 ?_);first
  |exact hno hsh rfl
  |exact hno hno2 rfl
  |(refine⟨rfl,?_⟩;exact hno hsh rfl)
  |(refine⟨rfl,?_⟩;exact hno hno2 rfl)
  |exact hno (fE e0 (by first|exact .inl h22_147|exact .inr h22_153)) rfl
  |(refine⟨rfl,?_⟩;exact hno (fE e0 (by first|exact .inl h22_147|exact .inr h22_153)) rfl)
  |exact fS (jJ e0 h22_147 h22_153) e1 rfl
 have hsh:gA b=none:=by rw[e0,rL (.inl (by omega))];rfl
 refine aB fun K hK=>Rg ?_;have F:=aI @List.length_map.{0,0} (show decide ((ls.length:Int)<2)=true from decide_eq_true (by omega));iterate 17 refine SF ?_
 refine T2 (hK _ _ _ ?_);clear hK K;refine CT rfl ?_;have F:=aI @bH @bI;refine RF ?_;refine aF (RT Tryz.results32 ?_);first
 |exact hno hsh rfl
 |exact hno hno2 rfl
 |(refine⟨rfl,?_⟩;exact hno hsh rfl)
 |(refine⟨rfl,?_⟩;exact hno hno2 rfl)
 |exact hno (fE e0 (by first|exact .inl h22_147|exact .inr h22_153)) rfl
 |(refine⟨rfl,?_⟩;exact hno (fE e0 (by first|exact .inl h22_147|exact .inr h22_153)) rfl)
 |exact fS (jJ e0 h22_147 h22_153) e1 rfl
theorem rM (x y:Qs):CV.eqv x.cv y.cv=true↔x=y:=by
 cases x;cases y;simp[Qs.cv,CV.eqv,CV.eqvL,aX9];try grind
theorem rO (x y:Og):CV.eqv x.cv y.cv=true↔x=y:=by
 cases x;cases y;simp[Og.cv,CV.eqv,CV.eqvL,aX9];try grind
theorem vJ {x:Qs}(h:CV.eqv x.cv x.cv=false):False:=by rw[(rM x x).2 rfl]at h;cases h
theorem vK {x:Og}(h:CV.eqv x.cv x.cv=false):False:=by rw[(rO x x).2 rfl]at h;cases h
theorem oS (w:aG):CV.ofTy Tryz.prog 7 9 (.str w)=true:=by unfold CV.ofTy;rw[ty9]
theorem oD (d:Dig):CV.ofTy Tryz.prog 7 44 (dg d)=true:=aJ2 (n:=5) ty44 ty5 (by kernel_rfl) d
theorem cS :Tryz.prog.cellsOf 9=1:=by kernel_rfl
theorem cD :Tryz.prog.cellsOf 44=32:=by kernel_rfl
theorem oQ (x:Qs):CV.ofTy Tryz.prog 8 46 x.cv=true:=by
 unfold CV.ofTy;rw[ty46];show CV.ofTyF Tryz.prog 7 [(0,9),(1,9),(2,44)] [.str x.n,.str x.i,dg x.a]=true;simp only[CV.ofTyF,oS,oD,dg_cells,cS,cD,CV.cells,beq_self_eq_true,Bool.and_self]
theorem oO (x:Og):CV.ofTy Tryz.prog 8 48 x.cv=true:=by
 unfold CV.ofTy;rw[ty48];show CV.ofTyF Tryz.prog 7 [(0,44),(32,9),(33,9)] [dg x.v,.str x.l,.str x.r]=true;simp only[CV.ofTyF,oS,oD,dg_cells,cS,cD,CV.cells,beq_self_eq_true,Bool.and_self]
theorem cK (x y:Qs)(K:CV→Prop):jB Tryz.prog .eql 46 (.c x.cv) (.c y.cv) K=K (.bool (CV.eqv x.cv y.cv)):=by
 have h1:=oQ x;have h2:=oQ y;have ha:aB7 Tryz.prog 46=true:=by kernel_rfl
 simp only[Qs.cv]at h1 h2⊢;simp only[jB,ha,h1,h2,and_self,true_and]
theorem cL (x y:Og)(K:CV→Prop):jB Tryz.prog .eql 48 (.c x.cv) (.c y.cv) K=K (.bool (CV.eqv x.cv y.cv)):=by
 have h1:=oO x;have h2:=oO y;have ha:aB7 Tryz.prog 48=true:=by kernel_rfl
 simp only[Og.cv]at h1 h2⊢;simp only[jB,ha,h1,h2,and_self,true_and]
theorem vL {x y:Dv}(h1:x.q=y.q)(h2:(x.t==y.t)=true)(h3:(x.p==y.p)=true)(h4:(x.r==y.r)=true)(h5:x.o=y.o)(h6:x.l=y.l):x=y:=by
 have e2:=eq_of_beq h2;have e3:=eq_of_beq h3;have e4:=eq_of_beq h4;cases x;cases y;simp only at h1 e2 e3 e4 h5 h6;subst h1 e2 e3 e4 h5 h6;rfl
theorem cM8 (x y:Dv)(ha:x.l.length<2^40)(hd: ∀z∈x.l,z.d.length<2^42∧z.f.length<2^40):cJ Tryz.prog 28 [x.cv,y.cv] (fun v=> ∃c,v= .bool c∧(c=true↔x=y)):=by
 refine cI Tryz.func28 rfl (by kernel_rfl) (dT _) (Nat.le_of_ble_eq_true rfl) ?_;refine aB fun K hK=>aD (by kernel_rfl) ?_;simp (maxSteps:=4000000) only[↓sP,sA,tyS,simprocAttr];repeat refine AI ?_
 refine hK _ _ _ ?_;clear hK K;refine aB fun K hK=>aD (by kernel_rfl) ?_;simp only[sR,simprocAttr];iterate 6
  (refine aE (g:=none) rfl rfl fun K' hK'=>?_;simp only[sH,↓sP,sA,tyS,simprocAttr,cK,cL];(repeat refine AI ?_);refine hK' _ _ ?_;clear hK' K')
 refine aL 9 rfl (fun h1_9=>?_) (fun h1_9=>?_)
 ·
  iterate 5
   (refine aE (g:=some (10,true)) rfl rfl fun K' hK'=>?_;simp only[sH,↓sP,sA,tyS,simprocAttr,cK,cL,h1_9];(repeat refine AI ?_);refine hK' _ _ ?_;clear hK' K')
  iterate 2
   (refine aE (g:=none) rfl rfl fun K' hK'=>?_;simp only[sH,↓sP,sA,tyS,simprocAttr,cK,cL,h1_9];(repeat refine AI ?_);refine hK' _ _ ?_;clear hK' K')
  refine aL 15 rfl (fun h1_15=>?_) (fun h1_15=>?_)
  ·
   iterate 5
    (refine aE (g:=some (17,true)) rfl rfl fun K' hK'=>?_;simp only[sH,↓sP,sA,tyS,simprocAttr,cK,cL,h1_9,h1_15];(repeat refine AI ?_);refine hK' _ _ ?_;clear hK' K')
   iterate 2
    (refine aE (g:=none) rfl rfl fun K' hK'=>?_;simp only[sH,↓sP,sA,tyS,simprocAttr,cK,cL,h1_9,h1_15];(repeat refine AI ?_);refine hK' _ _ ?_;clear hK' K')
   refine aL 22 rfl (fun h1_22=>?_) (fun h1_22=>?_)
   ·
    iterate 5
     (refine aE (g:=some (24,true)) rfl rfl fun K' hK'=>?_;simp only[sH,↓sP,sA,tyS,simprocAttr,cK,cL,h1_9,h1_15,h1_22];(repeat refine AI ?_);refine hK' _ _ ?_;clear hK' K')
    iterate 2
     (refine aE (g:=none) rfl rfl fun K' hK'=>?_;simp only[sH,↓sP,sA,tyS,simprocAttr,cK,cL,h1_9,h1_15,h1_22];(repeat refine AI ?_);refine hK' _ _ ?_;clear hK' K')
    refine aL 29 rfl (fun h1_29=>?_) (fun h1_29=>?_)
    ·
     iterate 5
      (refine aE (g:=some (31,true)) rfl rfl fun K' hK'=>?_;simp only[sH,↓sP,sA,tyS,simprocAttr,cK,cL,h1_9,h1_15,h1_22,h1_29];(repeat refine AI ?_);refine hK' _ _ ?_;clear hK' K')
     iterate 2
      (refine aE (g:=none) rfl rfl fun K' hK'=>?_;simp only[sH,↓sP,sA,tyS,simprocAttr,cK,cL,h1_9,h1_15,h1_22,h1_29];(repeat refine AI ?_);refine hK' _ _ ?_;clear hK' K')
     refine aL 36 rfl (fun h1_36=>?_) (fun h1_36=>?_)
     ·
      iterate 4
       (refine aE (g:=some (38,true)) rfl rfl fun K' hK'=>?_;simp only[sH,↓sP,sA,tyS,simprocAttr,cK,cL,h1_9,h1_15,h1_22,h1_29,h1_36];(repeat refine AI ?_);refine hK' _ _ ?_;clear hK' K')
      refine aE (g:=some (38,true)) rfl rfl fun K' hK'=>?_;simp (maxSteps:=4000000) only[sH,↓sP,sA,tyS,simprocAttr,cK,cL,h1_9,h1_15,h1_22,h1_29,h1_36];refine dN (args:=[_,_]) (bO3 x.l y.l ha hd) ⟨rfl,rfl,rfl,rfl⟩ ?_;rintro u ⟨c,rfl,hc⟩;repeat refine AI ?_
      refine hK' _ _ ?_;clear hK' K';iterate 2
       (refine aE (g:=none) rfl rfl fun K' hK'=>?_;simp only[sH,↓sP,sA,tyS,simprocAttr,cK,cL,h1_9,h1_15,h1_22,h1_29,h1_36];(repeat refine AI ?_);refine hK' _ _ ?_;clear hK' K')
      simp only[sE,↓reduceIte,simprocAttr];repeat refine AI ?_
      refine hK _ _ _ ?_;clear hK K;refine aF ?_;simp (maxSteps:=4000000) only[bS,Tryz.results28,bN,bR,bM,↓sP,sA,tyS,simprocAttr];first
       |exact aJ [] (.bool c) rfl ⟨c,rfl,⟨fun h=>vL ((rM _ _).1 h1_9) h1_15 h1_22 h1_29 ((rO _ _).1 h1_36) (hc.1 h),fun h=>hc.2 (by rw[h])⟩⟩
       |skip
        refine aJ [] (.bool false) rfl ⟨false,rfl,⟨fun h=>(by cases h),?_⟩⟩;rintro rfl;exfalso;first|exact vJ h1_9|(simp at h1_15;done)|(simp at h1_22;done)|(simp at h1_29;done)|exact vK h1_36
     iterate 5
      (refine aE (g:=some (38,true)) rfl rfl fun K' hK'=>?_;simp only[sH,↓sP,sA,tyS,simprocAttr,cK,cL,h1_9,h1_15,h1_22,h1_29,h1_36];(repeat refine AI ?_);refine hK' _ _ ?_;clear hK' K')
     iterate 2
      (refine aE (g:=none) rfl rfl fun K' hK'=>?_;simp only[sH,↓sP,sA,tyS,simprocAttr,cK,cL,h1_9,h1_15,h1_22,h1_29,h1_36];(repeat refine AI ?_);refine hK' _ _ ?_;clear hK' K')
     simp only[sE,↓reduceIte,simprocAttr];repeat refine AI ?_
     refine hK _ _ _ ?_;clear hK K;refine aF ?_;simp (maxSteps:=4000000) only[bS,Tryz.results28,bN,bR,bM,↓sP,sA,tyS,simprocAttr];first
      |exact aJ [] (.bool c) rfl ⟨c,rfl,⟨fun h=>vL ((rM _ _).1 h1_9) h1_15 h1_22 h1_29 ((rO _ _).1 h1_36) (hc.1 h),fun h=>hc.2 (by rw[h])⟩⟩
      |skip
       refine aJ [] (.bool false) rfl ⟨false,rfl,⟨fun h=>(by cases h),?_⟩⟩;rintro rfl;exfalso;first|exact vJ h1_9|(simp at h1_15;done)|(simp at h1_22;done)|(simp at h1_29;done)|exact vK h1_36
    iterate 5
     (refine aE (g:=some (31,true)) rfl rfl fun K' hK'=>?_;simp only[sH,↓sP,sA,tyS,simprocAttr,cK,cL,h1_9,h1_15,h1_22,h1_29];(repeat refine AI ?_);refine hK' _ _ ?_;clear hK' K')
    iterate 2
     (refine aE (g:=none) rfl rfl fun K' hK'=>?_;simp only[sH,↓sP,sA,tyS,simprocAttr,cK,cL,h1_9,h1_15,h1_22,h1_29];(repeat refine AI ?_);refine hK' _ _ ?_;clear hK' K')
    iterate 5
     (refine aE (g:=some (38,true)) rfl rfl fun K' hK'=>?_;simp only[sH,↓sP,sA,tyS,simprocAttr,cK,cL,h1_9,h1_15,h1_22,h1_29];(repeat refine AI ?_);refine hK' _ _ ?_;clear hK' K')
    iterate 2
     (refine aE (g:=none) rfl rfl fun K' hK'=>?_;simp only[sH,↓sP,sA,tyS,simprocAttr,cK,cL,h1_9,h1_15,h1_22,h1_29];(repeat refine AI ?_);refine hK' _ _ ?_;clear hK' K')
    simp only[sE,↓reduceIte,simprocAttr];repeat refine AI ?_
    refine hK _ _ _ ?_;clear hK K;refine aF ?_;simp (maxSteps:=4000000) only[bS,Tryz.results28,bN,bR,bM,↓sP,sA,tyS,simprocAttr];first
     |exact aJ [] (.bool c) rfl ⟨c,rfl,⟨fun h=>vL ((rM _ _).1 h1_9) h1_15 h1_22 h1_29 ((rO _ _).1 h1_36) (hc.1 h),fun h=>hc.2 (by rw[h])⟩⟩
     |skip
      refine aJ [] (.bool false) rfl ⟨false,rfl,⟨fun h=>(by cases h),?_⟩⟩;rintro rfl;exfalso;first|exact vJ h1_9|(simp at h1_15;done)|(simp at h1_22;done)|(simp at h1_29;done)|exact vK h1_36
   iterate 5
    (refine aE (g:=some (24,true)) rfl rfl fun K' hK'=>?_;simp only[sH,↓sP,sA,tyS,simprocAttr,cK,cL,h1_9,h1_15,h1_22];(repeat refine AI ?_);refine hK' _ _ ?_;clear hK' K')
   iterate 2
    (refine aE (g:=none) rfl rfl fun K' hK'=>?_;simp only[sH,↓sP,sA,tyS,simprocAttr,cK,cL,h1_9,h1_15,h1_22];(repeat refine AI ?_);refine hK' _ _ ?_;clear hK' K')
   iterate 5
    (refine aE (g:=some (31,true)) rfl rfl fun K' hK'=>?_;simp only[sH,↓sP,sA,tyS,simprocAttr,cK,cL,h1_9,h1_15,h1_22];(repeat refine AI ?_);refine hK' _ _ ?_;clear hK' K')
   iterate 2
    (refine aE (g:=none) rfl rfl fun K' hK'=>?_;simp only[sH,↓sP,sA,tyS,simprocAttr,cK,cL,h1_9,h1_15,h1_22];(repeat refine AI ?_);refine hK' _ _ ?_;clear hK' K')
   iterate 5
    (refine aE (g:=some (38,true)) rfl rfl fun K' hK'=>?_;simp only[sH,↓sP,sA,tyS,simprocAttr,cK,cL,h1_9,h1_15,h1_22];(repeat refine AI ?_);refine hK' _ _ ?_;clear hK' K')
   iterate 2
    (refine aE (g:=none) rfl rfl fun K' hK'=>?_;simp only[sH,↓sP,sA,tyS,simprocAttr,cK,cL,h1_9,h1_15,h1_22];(repeat refine AI ?_);refine hK' _ _ ?_;clear hK' K')
   simp only[sE,↓reduceIte,simprocAttr];repeat refine AI ?_
   refine hK _ _ _ ?_;clear hK K;refine aF ?_;simp (maxSteps:=4000000) only[bS,Tryz.results28,bN,bR,bM,↓sP,sA,tyS,simprocAttr];first
    |exact aJ [] (.bool c) rfl ⟨c,rfl,⟨fun h=>vL ((rM _ _).1 h1_9) h1_15 h1_22 h1_29 ((rO _ _).1 h1_36) (hc.1 h),fun h=>hc.2 (by rw[h])⟩⟩
    |skip
     refine aJ [] (.bool false) rfl ⟨false,rfl,⟨fun h=>(by cases h),?_⟩⟩;rintro rfl;exfalso;first|exact vJ h1_9|(simp at h1_15;done)|(simp at h1_22;done)|(simp at h1_29;done)|exact vK h1_36
  iterate 5
   (refine aE (g:=some (17,true)) rfl rfl fun K' hK'=>?_;simp only[sH,↓sP,sA,tyS,simprocAttr,cK,cL,h1_9,h1_15];(repeat refine AI ?_);refine hK' _ _ ?_;clear hK' K')
  iterate 2
   (refine aE (g:=none) rfl rfl fun K' hK'=>?_;simp only[sH,↓sP,sA,tyS,simprocAttr,cK,cL,h1_9,h1_15];(repeat refine AI ?_);refine hK' _ _ ?_;clear hK' K')
  iterate 5
   (refine aE (g:=some (24,true)) rfl rfl fun K' hK'=>?_;simp only[sH,↓sP,sA,tyS,simprocAttr,cK,cL,h1_9,h1_15];(repeat refine AI ?_);refine hK' _ _ ?_;clear hK' K')
  iterate 2
   (refine aE (g:=none) rfl rfl fun K' hK'=>?_;simp only[sH,↓sP,sA,tyS,simprocAttr,cK,cL,h1_9,h1_15];(repeat refine AI ?_);refine hK' _ _ ?_;clear hK' K')
  iterate 5
   (refine aE (g:=some (31,true)) rfl rfl fun K' hK'=>?_;simp only[sH,↓sP,sA,tyS,simprocAttr,cK,cL,h1_9,h1_15];(repeat refine AI ?_);refine hK' _ _ ?_;clear hK' K')
  iterate 2
   (refine aE (g:=none) rfl rfl fun K' hK'=>?_;simp only[sH,↓sP,sA,tyS,simprocAttr,cK,cL,h1_9,h1_15];(repeat refine AI ?_);refine hK' _ _ ?_;clear hK' K')
  iterate 5
   (refine aE (g:=some (38,true)) rfl rfl fun K' hK'=>?_;simp only[sH,↓sP,sA,tyS,simprocAttr,cK,cL,h1_9,h1_15];(repeat refine AI ?_);refine hK' _ _ ?_;clear hK' K')
  iterate 2
   (refine aE (g:=none) rfl rfl fun K' hK'=>?_;simp only[sH,↓sP,sA,tyS,simprocAttr,cK,cL,h1_9,h1_15];(repeat refine AI ?_);refine hK' _ _ ?_;clear hK' K')
  simp only[sE,↓reduceIte,simprocAttr];repeat refine AI ?_
  refine hK _ _ _ ?_;clear hK K;refine aF ?_;simp (maxSteps:=4000000) only[bS,Tryz.results28,bN,bR,bM,↓sP,sA,tyS,simprocAttr];first
   |exact aJ [] (.bool c) rfl ⟨c,rfl,⟨fun h=>vL ((rM _ _).1 h1_9) h1_15 h1_22 h1_29 ((rO _ _).1 h1_36) (hc.1 h),fun h=>hc.2 (by rw[h])⟩⟩
   |skip
    refine aJ [] (.bool false) rfl ⟨false,rfl,⟨fun h=>(by cases h),?_⟩⟩;rintro rfl;exfalso;first|exact vJ h1_9|(simp at h1_15;done)|(simp at h1_22;done)|(simp at h1_29;done)|exact vK h1_36
 iterate 5
  (refine aE (g:=some (10,true)) rfl rfl fun K' hK'=>?_;simp only[sH,↓sP,sA,tyS,simprocAttr,cK,cL,h1_9];(repeat refine AI ?_);refine hK' _ _ ?_;clear hK' K')
 iterate 2
  (refine aE (g:=none) rfl rfl fun K' hK'=>?_;simp only[sH,↓sP,sA,tyS,simprocAttr,cK,cL,h1_9];(repeat refine AI ?_);refine hK' _ _ ?_;clear hK' K')
 iterate 5
  (refine aE (g:=some (17,true)) rfl rfl fun K' hK'=>?_;simp only[sH,↓sP,sA,tyS,simprocAttr,cK,cL,h1_9];(repeat refine AI ?_);refine hK' _ _ ?_;clear hK' K')
 iterate 2
  (refine aE (g:=none) rfl rfl fun K' hK'=>?_;simp only[sH,↓sP,sA,tyS,simprocAttr,cK,cL,h1_9];(repeat refine AI ?_);refine hK' _ _ ?_;clear hK' K')
 iterate 5
  (refine aE (g:=some (24,true)) rfl rfl fun K' hK'=>?_;simp only[sH,↓sP,sA,tyS,simprocAttr,cK,cL,h1_9];(repeat refine AI ?_);refine hK' _ _ ?_;clear hK' K')
 iterate 2
  (refine aE (g:=none) rfl rfl fun K' hK'=>?_;simp only[sH,↓sP,sA,tyS,simprocAttr,cK,cL,h1_9];(repeat refine AI ?_);refine hK' _ _ ?_;clear hK' K')
 iterate 5
  (refine aE (g:=some (31,true)) rfl rfl fun K' hK'=>?_;simp only[sH,↓sP,sA,tyS,simprocAttr,cK,cL,h1_9];(repeat refine AI ?_);refine hK' _ _ ?_;clear hK' K')
 iterate 2
  (refine aE (g:=none) rfl rfl fun K' hK'=>?_;simp only[sH,↓sP,sA,tyS,simprocAttr,cK,cL,h1_9];(repeat refine AI ?_);refine hK' _ _ ?_;clear hK' K')
 iterate 5
  (refine aE (g:=some (38,true)) rfl rfl fun K' hK'=>?_;simp only[sH,↓sP,sA,tyS,simprocAttr,cK,cL,h1_9];(repeat refine AI ?_);refine hK' _ _ ?_;clear hK' K')
 iterate 2
  (refine aE (g:=none) rfl rfl fun K' hK'=>?_;simp only[sH,↓sP,sA,tyS,simprocAttr,cK,cL,h1_9];(repeat refine AI ?_);refine hK' _ _ ?_;clear hK' K')
 simp only[sE,↓reduceIte,simprocAttr];repeat refine AI ?_
 refine hK _ _ _ ?_;clear hK K;refine aF ?_;simp (maxSteps:=4000000) only[bS,Tryz.results28,bN,bR,bM,↓sP,sA,tyS,simprocAttr];first
  |exact aJ [] (.bool c) rfl ⟨c,rfl,⟨fun h=>vL ((rM _ _).1 h1_9) h1_15 h1_22 h1_29 ((rO _ _).1 h1_36) (hc.1 h),fun h=>hc.2 (by rw[h])⟩⟩
  |skip
   refine aJ [] (.bool false) rfl ⟨false,rfl,⟨fun h=>(by cases h),?_⟩⟩;rintro rfl;exfalso;first|exact vJ h1_9|(simp at h1_15;done)|(simp at h1_22;done)|(simp at h1_29;done)|exact vK h1_36
theorem cS6 (b:aG):(ddO b).l.length≤1000∧ ∀z∈(ddO b).l,z.d.length≤1000∧z.f.length≤120:=by
 unfold ddO;cases h:gA b with
 |none=>exact⟨by simp[dv0],by simp[dv0]⟩
 |some d=>
  unfold gA at h;split at h
  ·
   cases hr:fQ (gZ b)with
   |none=>rw[hr]at h;cases h
   |some e=>
    rw[hr,Option.bind_some]at h;split at h
    · obtain rfl:=Option.some.inj h;have hR:=bH2 aK8 yZ hr;exact⟨hR.ll,fun z hz=>⟨(hR.l z hz).2,(hR.l z hz).1.fl⟩⟩
    cases h
  cases h
theorem bC1 (b:aG):oH Tryz.prog 8 tabs [.slc (b.map u8)] (fun v=>v= .bool true):=by
 refine cI (args:=[.c (.slc (b.map u8))]) Tryz.func8 rfl (by kernel_rfl) (gJ tabs [.slc (b.map u8)]) (Nat.le_of_ble_eq_true rfl) ?_;unfold gE;refine R0 ?_;refine aB fun K hK=>?_;have F:=@List.length_map.{0,0};refine RF ?_;refine aH (b:=decide ((4000:Int)<b.length)) rfl (fun hb=>?_) (fun hb=>?_)
 · refine aB fun K hK=>Rg ?_;refine HS rfl rfl fun K' hK'=>T5 ?_;refine kM (args:=[]) 0 aV1 rfl (by simp) ⟨rfl,rfl,rfl,rfl⟩ ?_;rintro u rfl;refine AX (hK' _ _ ?_);clear hK' K';refine S0 ?_;refine T2 (hK _ _ _ ?_);clear hK K;refine aF (RT Tryz.results8 ?_);exact nC [] (.bool true) rfl rfl (by simp) rfl
 refine aK ?_;refine T0 (hK _ _ _ ?_);clear hK K;have hl:b.length≤4000:=by simp at hb;omega
 obtain⟨hs1,hs2⟩:=cS6 b;clear hb;refine aB fun K hK=>Rg ?_;have F:=@denilL_u8;refine SF ?_;refine HS rfl rfl fun K' hK'=>T6 ?_;refine fL (args:=[_]) 0 (bH3 b (by omega)) rfl (by simp) ⟨rfl,rfl,rfl,rfl⟩ ?_;rintro u v ⟨rfl,rfl⟩;refine AX (hK' _ _ ?_);clear hK' K';iterate 6 refine SF ?_
 refine T2 (hK _ _ _ ?_);clear hK K;refine aB fun K hK=>Rg ?_;refine SF ?_;refine HS rfl rfl fun K' hK'=>T6 ?_;refine D1 (cE8 b (by omega)) ?_;rintro u v ⟨rfl,rfl⟩;refine AX (hK' _ _ ?_);clear hK' K';iterate 6 refine SF ?_
 refine T2 (hK _ _ _ ?_);clear hK K;refine aB fun K hK=>Rg ?_;have F:=@beq_self_eq_true.{0};iterate 6 refine SF ?_
 refine aE (g:=some (24,true)) rfl rfl fun K' hK'=>T6 ?_;refine C2 (cM8 (ddO b) (ddO b) (by omega) (fun z hz=>⟨by have:=(hs2 z hz).1;omega,by have:=(hs2 z hz).2;omega⟩)) ?_;rintro u ⟨c,rfl,hc⟩;obtain rfl:=hc.2 rfl;refine AX (hK' _ _ ?_);clear hK' K';iterate 2 refine SF ?_
 refine aE (g:=some (29,true)) rfl rfl fun K' hK'=>T6 ?_;refine kM (args:=[]) 0 aV1 rfl (by simp) ⟨rfl,rfl,rfl,rfl⟩ ?_;rintro u rfl;refine AX (hK' _ _ ?_);clear hK' K';iterate 2 refine SF ?_
 refine T2 (hK _ _ _ ?_);clear hK K;refine aF (RT Tryz.results8 ?_);exact nC [] (.bool true) rfl rfl (by simp) rfl
set_option maxRecDepth 100000
theorem aB3 {W:World}(h:laidMetH Tryz.prog Rows.derivationDecodeRow.laid W):Lib.TabIs Tryz.prog W "internal/strconv.uint64pow10" .u64 Lib.pow10Tab:=by
  rw[MakeChecks.laidMetH_plain _ _ _ (by kernel_rfl)]at h;have h2:=laidMet.filter (fun x=>x.1== "internal/strconv.uint64pow10") h;have e:(Rows.derivationDecodeRow.laid.filter fun x=>x.1== "internal/strconv.uint64pow10")=[("internal/strconv.uint64pow10",Lib.tabData .u64 Lib.pow10Tab)]:=by kernel_rfl
  rw[e]at h2;exact Lib.tabIs_of_head aK9 (by kernel_rfl) Tryz.underlying199 Tryz.underlying135 (by kernel_rfl) (by kernel_rfl) h2
theorem lA (H:Type)(enc:TypeId×Value→H)(W:World)(args:Array Value)(ds gs:List (DataW H))(before:List MemPlace)
    (hL:laidMetH Tryz.prog Rows.derivationDecodeRow.laid W)
    (hval: ∀(j:Nat) t v,Tryz.f8.params[j]? =some t→args[j]? =some v→Value.okWide Tryz.prog W .any 0 t v)
    (hW:DataW.Whole enc Tryz.prog Tryz.f8.params.toList Rows.derivationDecodeSpec.vars false W args.toList ds gs before):
    Calls Tryz.prog 8 args W fun e W'=> ∃v,e= .returned v∧Rows.derivationDecodeSpec.post enc Tryz.prog Tryz.f8 false true false false W args v W':=by
  refine bK8 (mm:=6) (tb:=4) (tabs:=tabs) (by kernel_rfl) cW6 bB6 rfl (by kernel_rfl) Tryz.underlying4 ?_ ?_ ?_ ?_ (fun j t v h1 h2=>?_) hW
  · rw[Tryz.params8]
    intro H ds h
    match ds,h with
    |[c0],_=>exact⟨rfl,rfl,rfl⟩
  · rw[Tryz.params8]
    intro t ht;simp only[List.mem_cons,List.not_mem_nil,or_false]at ht;rcases ht with rfl
    · exact⟨by kernel_rfl,of_decide_eq_true (by kernel_rfl)⟩
  · rw[Tryz.params8]
    intro cs hn hty
    match cs,hn,hty with
    |[c0],_,hty=>
      obtain⟨b,rfl⟩:=bQ3 (hty 0 _ c0 rfl rfl);exact bC1 b
  · intro x hx
    simp only[tabs,List.mem_cons,List.not_mem_nil,or_false]at hx;rcases hx with rfl
    · exact aA5 aK9 (aB3 hL)
  · exact hval j t v h1 h2
open Go.ChangeShapes Go.WideShapes Go.ChangeAt Go.RowKit in
set_option maxRecDepth 100000 in
theorem mR (os:Os)(started:os.Started)(H:Type)(enc:TypeId×Value→H):
    ReturnsInHanded {} Tryz.checked os 8 .any (fun w args=>(Rows.derivationDecodeSpec.pre enc Tryz.prog Tryz.f8 [] false w args∧laidMetH Tryz.prog Rows.derivationDecodeRow.laid w)∧sizedMet enc Tryz.prog Tryz.f8 (OpenSpec.ofChange Rows.derivationDecodeSpec) false w args)
      (Rows.derivationDecodeSpec.post enc Tryz.prog Tryz.f8 false true false false):=by
  refine returnsInHanded_of_change_and (C:=Tryz.checked) (X:=fun w _=>laidMetH Tryz.prog Rows.derivationDecodeRow.laid w) (fun _ _ _ hh h=>h.of_heap hh) own started (by kernel_rfl) Tryz.func8
    (ChangeSpec.witness_shaped (enc:=enc) (C:=Tryz.checked) (os:=os) (X:=fun w _=>laidMetH Tryz.prog Rows.derivationDecodeRow.laid w) false (World.laidAll Tryz.prog os Rows.derivationDecodeRow.laid) #[.slice none 0 0] 8 (World.laidAll_os _ _ _)
      (World.shaped_of_ZipB (by kernel_rfl) (by kernel_rfl)) (by kernel_rfl) (by kernel_rfl) (by kernel_rfl)
      (by rw[MakeChecks.laidMetH_plain _ _ _ (by kernel_rfl)];exact laidMet_laidAll _ (by kernel_rfl) (by kernel_rfl))) ?_
  intro W base args ds gs before hval hW _ _ hL _;exact lA H enc W args ds gs before hL (fun j t v h1 h2=>(hval j t v h1 h2)) hW
theorem oW :Rows.DerivationDecodeSaid:=
  OpenClaim.holds_of_wide 8 Tryz.f8 rfl rfl rfl rfl rfl rfl rfl ⟨rfl,rfl,rfl,rfl,rfl⟩ rfl rfl rfl rfl rfl (by kernel_rfl) Tryz.func8 (by kernel_rfl)
    (of_decide_eq_true (by kernel_rfl)) (by unfold Func.isWrapper;first|(rw[if_pos (by decide+kernel)];kernel_rfl)|(rw[if_neg (by decide+kernel)];exact⟨rfl,rfl⟩))
    (fun os started H enc _=>mR os started H enc)
theorem derivationDecode_said :Rows.DerivationDecodeCardSaid:=
  Claim7.holds_tied_plain_at .later [] [.data,.data,.data,.data,.pinned] true (true,"21008691179fbc5e685a549e14076cf73832ee6f24894afe5decf201da899196") false oW (fun _ h=>by cases h) (by kernel_rfl) (fun _ h=>by cases h) derivationDecode_row_tie rfl ⟨rfl,rfl⟩ (by kernel_rfl) rfl
    (fun f fn hf hfn=>by
      obtain rfl:f=8:=Option.some.inj ((show Tryz.prog.funcNamed "admission/admissionlaw31.DerivationDecode" =some 8 by kernel_rfl).symm.trans hf)|>.symm;obtain rfl:fn=Tryz.f8:=(Option.some.inj (Tryz.func8.symm.trans hfn)).symm;exact⟨by kernel_rfl,fun j t ht=>by
        rw[Tryz.params8]at ht;have hm:t∈[52]:=by simpa using Array.mem_of_getElem? ht
        have hall:([52].all fun u=>!Tryz.prog.wantsStandIn u)=true:=by kernel_rfl
        exact(show Tryz.prog.wantsStandIn t=false by simpa using List.all_eq_true.1 hall t hm)⟩)
    (by kernel_rfl)
#print axioms derivationDecode_said
end Go.Proofs.YthedbjfipmkpiaaGreatDoor
