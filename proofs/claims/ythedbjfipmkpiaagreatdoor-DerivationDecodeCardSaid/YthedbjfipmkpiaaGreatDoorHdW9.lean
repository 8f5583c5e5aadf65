/- Part of a proof: walks of functions of the program, by contracts, and the rules they use. By an AI agent. -/
import Derived.Test.YthedbjfipmkpiaaGreatDoorPl31g
import Derived.Test.YthedbjfipmkpiaaGreatDoorHdSb
import Derived.Test.YthedbjfipmkpiaaGreatDoorPl02g
import Derived.Test.YthedbjfipmkpiaaGreatDoorPl31
set_option linter.unusedSimpArgs false
set_option linter.unusedVariables false
set_option linter.defProp false
namespace Go.Proofs.YthedbjfipmkpiaaGreatDoor
open Go Go.Hl Go.Pl
set_option maxRecDepth 10000
set_option maxHeartbeats 16000000
structure Rs where
 i:Nat
 l:List Ln
 x:Option Ln
def Rs.ls (y:Rs):List Ln:=y.l++y.x.toList
structure RI (ws:List (List aG))(y:Rs):Prop where
 le:y.i≤ws.length
 run:jD (ws.take y.i)=some y.ls
 hx:y.x=none→y.l=[]
def rdB (d:Dv)(n:Nat):HV:= .agg [.c d.q.cv,.c (.int .i64 d.t),.c (dg d.p),.c (.int .i64 d.r),.c d.o.cv,.own 12 n]
def rdE (x:Ln)(N:Nat):HV:= .agg [.c (.int .i64 x.k),.c (.int .i64 x.n),.own N x.d.length,.c (.slc (x.f.map (CV.int .i64)))]
def hpC (d:Dv)(L:List Ln):List (Nat×HO):=[(0,.box 50 (.c dv0.cv)),(28,.box 50 (rdB d L.length)),(12,.hrow 41 4 (L.map fun z=>HV.c z.cv))]
def hpO (d:Dv)(l:List Ln)(x:Ln)(N:Nat):List (Nat×HO):=[(0,.box 50 (.c dv0.cv)),(28,.box 50 (rdB d (l.length+1))),(12,.hrow 41 4 ((l.map fun z=>HV.c z.cv)++[rdE x N])),(N,.row 44 32 (x.d.map dg))]
def Rs.hp (d:Dv)(y:Rs):List (Nat×HO):=match y.x with
 |none=>hpC d []
 |some x=>hpO d y.l x 66
theorem iR (ob:Ob)(cl:List Nat): ∀l:List Ln,HV.closeL ob cl (l.map fun z=>HV.c z.cv)=l.map fun z=>HV.c z.cv
 |[]=>rfl
 |x::l=>by rw[List.map_cons,HV.closeL,iR ob cl l,HV.close,Ln.denil];rfl
theorem kS (ob:Ob)(cl:List Nat): ∀a b:List HV,HV.closeL ob cl (a++b)=HV.closeL ob cl a++HV.closeL ob cl b
 |[],b=>rfl
 |x::a,b=>by simp only[List.cons_append,HV.closeL,kS ob cl a b]
theorem lI : ∀l:List Ln,HV.toCL (l.map fun z=>HV.c z.cv)=some (l.map Ln.cv)
 |[]=>rfl
 |x::l=>by rw[List.map_cons,HV.toCL,lI l];rfl
theorem bD {M:Nat→Prop}(l:List Ln):HV.menL M (l.map fun z=>HV.c z.cv):=by
 have:=HV.menL_c (M:=M) (l:=l.map Ln.cv)
 rwa [List.map_map]at this
theorem fY (M:Nat→Nat): ∀l:List Ln,HV.renL M (l.map fun z=>HV.c z.cv)=l.map fun z=>HV.c z.cv
 |[]=>rfl
 |x::l=>by rw[List.map_cons,HV.renL,fY M l];rfl
theorem gG (M:Nat→Nat): ∀a b:List HV,HV.renL M (a++b)=HV.renL M a++HV.renL M b
 |[],b=>rfl
 |x::a,b=>by simp only[List.cons_append,HV.renL,gG M a b]
theorem bV (l:List Ln)(x:HV):pT ((l.map fun z=>HV.c z.cv)++[x]) l.length=x:=by
 have:=bI7 (l.map fun z=>HV.c z.cv) x
 rwa [List.length_map]at this
theorem gS (l:List Ln)(x y:HV):((l.map fun z=>HV.c z.cv)++[x]).set l.length y=(l.map fun z=>HV.c z.cv)++[y]:=by
 rw[List.set_append_right _ _ (by simp)];simp
theorem cA4 (w:List aG):(lsC w).denil=lsC w:=by simp[lsC,CV.denil,denilL_str]
theorem aG1 :dv0.cv.denil=dv0.cv:=Dv.denil _
theorem mJ {n:Nat}{code:Code}{Q:Exit→Fr→Ob→Nat→Prop}{F:List (Nat×HV)}{d:Dv}{y:Rs}(hx:y.x=none→y.l=[])(hF:aW 20200 (clF (fob (y.hp d)) [66] (fin F)) F)(h:Hw Tryz.prog n 0 code Q (fin F) (fob (hpC d y.ls)) 20200):Hw Tryz.prog n 0 code Q (fin F) (fob (y.hp d)) 20100:=by
 obtain⟨i,l,x⟩:=y;cases x with
 |none=>
  obtain rfl:l=[]:=hx rfl;refine cR [66] (bE (aM (by omega) hF ?_) h);simp[aX,Rs.hp,Rs.ls,hpC,dL,fob_at,rdB,HO.close,HV.close,HV.closeL,HV.norm,HV.toC,HV.toCL,Qs.denil,Og.denil,dg_denil,aG1,CV.denil,HO.men,HV.men,HV.menL]
 |some x=>
  refine cR [66] (bE (aM (by omega) hF ?_) h);simp[aX,Rs.hp,Rs.ls,hpC,hpO,dL,fob_at,rdB,rdE,HO.close,HV.close,HV.closeL,kS,iR,HV.norm,HV.toC,HV.toCL,Qs.denil,Og.denil,dg_denil,aG1,CV.denil,denilL_dg,denilL_int,HO.men,HV.men,HV.menL,HV.menL_append,bD,sI];rfl
theorem pP {ls:List (List aG)}{ob:Ob}{r:HV}{d:Dv}{L:List Ln}{b:Bool}(hr:r= .tup [rdB d L.length,.c (.bool b)])(h12:ob 12=some (.row 41 4 (L.map Ln.cv)))(hs:(fQ ls).isSome=b)(hd: ∀x,fQ ls=some x→x={d with l:=L}):
  iJ 0 r ob (fun r ob'=> ∃u v,r= .tup [.c u,.c v]∧(v= .bool (fQ ls).isSome∧ ∃x:Dv,u=x.cv∧ ∀d,fQ ls=some d→x=d)∧ob'=cZ):=by
 subst hr;refine aR [12] ({d with l:=L}:Dv).cv (.bool b) ?_ ⟨by rw[hs],_,rfl,fun x hx=>(hd x hx).symm⟩;simp[rdB,HV.close,HV.closeL,CV.denil,HV.norm,HV.toC,HV.toCL,Dv.cv,Qs.denil,Og.denil,dg_denil,h12,denilL_Ln]
theorem cK0 (ls:List (List aG))(hl:ls.length<2^38)(hn: ∀l∈ls,0<l.length∧l.length<2^38)(hb: ∀l∈ls,∀w∈l,w.length<2^40):eU Tryz.prog 62 [.slc (ls.map lsC)] (fun u v=>v= .bool (fQ ls).isSome∧ ∃x:Dv,u=x.cv∧ ∀d,fQ ls=some d→x=d):=by
 refine cI Tryz.func62 rfl (by kernel_rfl) (dT _) (Nat.le_of_ble_eq_true rfl) ?_;refine aB fun K hK=>aD (by kernel_rfl) ?_;simp (maxSteps:=4000000) only[↓sP,sA,tyS,simprocAttr];repeat refine AI ?_
 refine hK _ _ _ ?_;clear hK K;refine aB fun K hK=>aD (by kernel_rfl) ?_;simp only[sR,simprocAttr];refine aE (g:=none) rfl rfl fun K' hK'=>?_;simp (maxSteps:=4000000) only[sH,↓sP,sA,tyS,simprocAttr];repeat refine AI ?_
 refine hK' _ _ ?_;clear hK' K';refine aE (g:=none) rfl rfl fun K' hK'=>?_;simp (maxSteps:=4000000) only[sH,↓sP,sA,tyS,simprocAttr];rw[show CV.denilL (ls.map lsC)=ls.map lsC from cE (fun w=>by simp[lsC,CV.denil,denilL_str]) ls];refine fV [] (head_ok ls hb) rfl trivial (by simp) (by simp) ⟨rfl,rfl,rfl,rfl⟩ (by simp[eH]) (by simp[HV.menL,HV.men]) ?_;rintro u os' ⟨x,hxl,rfl,rfl,hxx⟩;simp only[HV.ren,HV.renL,kL,HO.ren,List.map_nil,Nat.zero_add,show sub [] 12 0=12 from rfl];repeat refine AI ?_
 refine hK' _ _ ?_;clear hK' K';iterate 6
  (refine aE (g:=none) rfl rfl fun K' hK'=>?_;simp only[sH,↓sP,sA,tyS,simprocAttr];(repeat refine AI ?_);refine hK' _ _ ?_;clear hK' K')
 simp only[sE,↓reduceIte,simprocAttr];repeat refine AI ?_
 refine hK _ _ _ ?_;clear hK K;refine aB fun K hK=>?_;refine aB fun K hK=>aD (by kernel_rfl) ?_;simp (maxSteps:=4000000) only[↓sP,sA,tyS,simprocAttr];repeat refine AI ?_
 refine hK _ _ _ ?_;clear hK K;refine aH (b:=!(gO ls).isSome) rfl (fun hb=>?_) (fun hb=>?_)
 ·
  have hrn:fQ ls=none:=by
   rw[rB];cases h:gO ls with
   |none=>rfl
   |some d=>rw[h]at hb;cases hb
  refine aB fun K hK=>aD (by kernel_rfl) ?_;simp (maxSteps:=4000000) only[↓sP,sA,tyS,simprocAttr];repeat refine AI ?_
  refine hK _ _ _ ?_;clear hK K
  skip
  refine aF ?_;simp (maxSteps:=4000000) only[bS,Tryz.results62,bN,bR,bM,↓sP,sA,tyS,simprocAttr];refine⟨rfl,?_⟩;refine aR [12] ({x with l:=[]}:Dv).cv (.bool false) ?_ ⟨by rw[hrn];rfl,_,rfl,fun d hd=>by rw[hrn]at hd;cases hd⟩;simp[HV.close,HV.closeL,CV.denil,HV.norm,HV.toC,HV.toCL,Dv.cv,Qs.denil,Og.denil,dg_denil,fob_at,upd_at]
 obtain⟨d,hhd⟩:=Option.isSome_iff_exists.1 (show(gO ls).isSome=true by simpa using hb);obtain rfl:=hxx d hhd;clear hxx hb;have h2:2≤ls.length:=by
  unfold gO at hhd;split at hhd
  · cases hhd
  omega
 have hdr:List.drop 2 (ls.map lsC)=(ls.drop 2).map lsC:=by rw[List.map_drop]
 have htk:List.take (ls.length-2) ((ls.drop 2).map lsC)=(ls.drop 2).map lsC:=List.take_of_length_le (by simp);have hwl:ls.length-2=(ls.drop 2).length:=by simp
 have hrd:=rB ls;rw[hhd]at hrd;simp only[Option.bind_some]at hrd;have hn2: ∀l∈ls.drop 2,0<l.length∧l.length<2^38:=fun l h=>hn l (List.drop_subset _ _ h);have hb2: ∀l∈ls.drop 2,∀w∈l,w.length<2^40:=fun l h=>hb l (List.drop_subset _ _ h);have hcl: ∀v∈ls.map lsC,v.cells=1:=by intro v hv;obtain⟨w,_,rfl⟩:=List.mem_map.1 hv;rfl
 refine aK ?_;simp (maxSteps:=4000000) only[↓sP,sA,tyS,simprocAttr];repeat refine AI ?_
 refine hK _ _ _ ?_;clear hK K;refine aB fun K hK=>?_;refine aB fun K hK=>aD (by kernel_rfl) ?_;simp only[sR,simprocAttr];iterate 4
  (refine aE (g:=none) rfl rfl fun K' hK'=>?_;simp only[sH,↓sP,sA,tyS,simprocAttr,List.length_map,hdr,htk];(repeat refine AI ?_);refine hK' _ _ ?_;clear hK' K')
 simp only[sE,↓reduceIte,simprocAttr];repeat refine AI ?_
 refine hK _ _ _ ?_;clear hK K;refine aN ?_;obtain⟨ws,hws⟩: ∃ws,ws=ls.drop 2:=⟨_,rfl⟩;rw[←hws]at hdr htk hwl hrd hn2 hb2⊢;refine bD5 12 rfl ?_;refine cR [] ?_;refine bF (α:={y:Rs//RI ws y}) (fun y=>(fin [(2,.ptr 0 0),(4,.ptr 28 0),(22,.c (.slc (ws.map lsC))),(23,.c (.int .i64 ws.length)),(24,.c (.int .i64 y.1.i))],fob (y.1.hp d))) 20000 (fun y=>ws.length-y.1.i) ⟨⟨0,[],none⟩,⟨Nat.zero_le _,rfl,fun _=>rfl⟩⟩ (by simp only[Rs.hp,hpC];exact aM (by omega) (by simp[aW,fin_at,finA_at,upd_at,HV.men,HV.menL,HV.norm,HV.toC,HV.toCL,dA,dL,HO.close,HV.close,HV.closeL,CV.denil,CV.denilL,dE,rdB,Qs.denil,Og.denil,dg_denil,hwl,eP,(show CV.agg [CV.agg [CV.str [],CV.str [],zd],CV.int IntKind.i64 0,zd,CV.int IntKind.i64 0,CV.agg [zd,CV.str [],CV.str []],CV.slc []]=dv0.cv from rfl)]) (by simp[aX,fob_at,upd_at,none0_at,bT,HO.men,HV.men,HV.menL,HV.norm,HV.toC,HV.toCL,dA,dL,HO.close,HV.close,HV.closeL,CV.denil,CV.denilL,dE,rdB,Qs.denil,Og.denil,dg_denil,hwl,eP,(show CV.agg [CV.agg [CV.str [],CV.str [],zd],CV.int IntKind.i64 0,zd,CV.int IntKind.i64 0,CV.agg [zd,CV.str [],CV.str []],CV.slc []]=dv0.cv from rfl)])) ?_;rintro⟨⟨i,l,z⟩,hy⟩;have hy1:=hy.le;have hrun:=hy.run;have hyx:=hy.hx;simp only at hy1 hrun hyx⊢;clear hy;refine aB fun K hK=>aD (by kernel_rfl) ?_;simp (maxSteps:=4000000) only[↓sP,sA,tyS,simprocAttr,List.length_map];repeat refine AI ?_
 refine hK _ _ _ ?_;clear hK K;refine aB fun K hK=>?_;refine aH (b:=decide ((i:Int)<ws.length)) rfl (fun hb=>?_) (fun hb=>?_)
 ·
  have hlt:i<ws.length:=by simpa using hb
  have hw:=hn2 _ (List.getElem_mem hlt);have hlen:=vG hy1 hrun;clear hb;refine aK ?_;simp (maxSteps:=4000000) only[↓sP,sA,tyS,simprocAttr];repeat refine AI ?_
  refine hK _ _ _ ?_;clear hK K;refine aB fun K hK=>?_;refine aN ?_;refine aB fun K hK=>aD (by kernel_rfl) ?_;simp (maxSteps:=4000000) only[↓sP,sA,tyS,simprocAttr,Int.natCast_nonneg,Int.ofNat_lt,hlt,bP hlt,List.length_map,eE,cA4,Int.toNat_natCast,lsC];repeat refine AI ?_
  refine hK _ _ _ ?_;clear hK K;refine aB fun K hK=>?_;refine aB fun K hK=>aD (by kernel_rfl) ?_;simp only[sR,simprocAttr];iterate 4
   (refine aE (g:=none) rfl rfl fun K' hK'=>?_;simp only[sH,↓sP,sA,tyS,simprocAttr,List.length_map,cV hw.1,Int.toNat_zero];(repeat refine AI ?_);refine hK' _ _ ?_;clear hK' K')
  simp only[sE,↓reduceIte,simprocAttr];repeat refine AI ?_
  refine hK _ _ _ ?_;clear hK K;refine aH (b:=!(wd ws[i] 0==jW)) rfl (fun hb=>?_) (fun hb=>?_)
  ·
   have hnd:wd ws[i] 0≠jW:=by simpa using hb
   clear hb;refine bE (fr2:=fin [(2,.ptr 0 0),(4,.ptr 28 0),(7,.c (.slc (ws[i].map .str))),(22,.c (.slc (ws.map lsC))),(23,.c (.int .i64 ws.length)),(24,.c (.int .i64 i))]) (ob2:=fob (Rs.hp d ⟨i,l,z⟩)) (nx2:=20100) (by cases z<;>simp only[Rs.hp,hpC,hpO]<;>exact aM (by omega) (by simp[aW,fin_at,finA_at,upd_at,HV.men,HV.menL,HV.norm,HV.toC,HV.toCL,rdB,rdE,HV.menL_append,bD]) (by simp[aX,fob_at,upd_at,none0_at,bT,HO.men,HV.men,HV.menL,HV.norm,HV.toC,HV.toCL,rdB,rdE,HV.menL_append,bD])) ?_;refine mJ (y:=⟨i,l,z⟩) hyx (by simp[aW,dA,fin_at,HV.close,HV.closeL,HV.norm,HV.toC,HV.men,CV.denil,denilL_str,dE]) ?_;obtain⟨L,hL⟩: ∃L,L=Rs.ls ⟨i,l,z⟩:=⟨_,rfl⟩;rw[←hL]at hrun hlen⊢;simp only[hpC];clear hL hyx;refine aB fun K hK=>aD (by kernel_rfl) ?_;simp only[sR,simprocAttr];refine aE (g:=none) rfl rfl fun K' hK'=>?_;simp (maxSteps:=4000000) only[sH,↓sP,sA,tyS,simprocAttr];repeat refine AI ?_
   refine hK' _ _ ?_;clear hK' K';refine aE (g:=none) rfl rfl fun K' hK'=>?_;simp (maxSteps:=4000000) only[sH,↓sP,sA,tyS,simprocAttr];refine fV [] (cJ8 ws[i] hw.2 hw.1) rfl trivial (by simp) (by simp) ⟨rfl,rfl,rfl,rfl⟩ (by simp[eH]) (by simp[HV.menL,HV.men]) ?_;rintro u os' ⟨k,n,f,rfl,rfl,hk⟩;simp only[HV.ren,HV.renL,kL,HO.ren,List.map_nil,Nat.zero_add,show sub [] 20204 0=20204 from rfl];repeat refine AI ?_
   refine hK' _ _ ?_;clear hK' K';iterate 6
    (refine aE (g:=none) rfl rfl fun K' hK'=>?_;simp only[sH,↓sP,sA,tyS,simprocAttr];(repeat refine AI ?_);refine hK' _ _ ?_;clear hK' K')
   simp only[sE,↓reduceIte,simprocAttr];repeat refine AI ?_
   refine hK _ _ _ ?_;clear hK K;refine aB fun K hK=>?_;refine aB fun K hK=>aD (by kernel_rfl) ?_;simp (maxSteps:=4000000) only[↓sP,sA,tyS,simprocAttr];repeat refine AI ?_
   refine hK _ _ _ ?_;clear hK K;refine aH (b:=!(eX ws[i]).isSome) rfl (fun hb=>?_) (fun hb=>?_)
   ·
    have hno:fQ ls=none:=by
     rw[hrd,kR hlt hrun]
     · rfl
     rw[zH hnd];cases h:eX ws[i]with
     |none=>rfl
     |some x=>rw[h]at hb;cases hb
    refine aB fun K hK=>aD (by kernel_rfl) ?_;simp (maxSteps:=4000000) only[↓sP,sA,tyS,simprocAttr,rdB];repeat refine AI ?_
    refine hK _ _ _ ?_;clear hK K;refine mV 12 (L.map Ln.cv) rfl (lI L) ?_;refine aF ?_;simp (maxSteps:=4000000) only[bS,Tryz.results62,bN,bR,bM,↓sP,sA,tyS,simprocAttr];refine⟨rfl,?_⟩;exact pP (d:=d) (L:=L) rfl rfl (by rw[hno];rfl) (fun x hx=>by rw[hno]at hx;cases hx)
   obtain⟨q,hq⟩:=Option.isSome_iff_exists.1 (show(eX ws[i]).isSome=true by simpa using hb);obtain rfl:=hk q hq;clear hb hk;have hstep:dK L ws[i]=some (L++[⟨k,n,[],f⟩]):=by rw[zH hnd,hq];rfl
   refine aK ?_;simp (maxSteps:=4000000) only[↓sP,sA,tyS,simprocAttr];repeat refine AI ?_
   refine hK _ _ _ ?_;clear hK K;refine aB fun K hK=>bY (by kernel_rfl) ?_;simp only[sR,simprocAttr];iterate 3
    (refine aZ (g:=none) rfl rfl fun K' hK'=>?_;simp only[sH,↓sP,sA,tyS,simprocAttr,rdB,List.length_map,List.length_nil];(repeat refine AI ?_);refine hK' _ _ ?_;clear hK' K')
   refine cA (g:=none) rfl rfl fun K' hK'=>?_;simp (maxSteps:=4000000) only[sN,↓hopH.eq_def,sH,↓sP,sA,tyS,simprocAttr,rdB,List.length_map,List.length_nil];repeat refine AI ?_
   refine hK' _ _ ?_;clear hK' K';refine cA (g:=none) rfl rfl fun K' hK'=>?_;simp (maxSteps:=4000000) only[sN,↓hopH.eq_def,sH,↓sP,sA,tyS,simprocAttr,rdB,List.length_map,List.length_nil];repeat refine AI ?_
   refine hK' _ _ ?_;clear hK' K';iterate 2
    (refine aZ (g:=none) rfl rfl fun K' hK'=>?_;simp only[sH,↓sP,sA,tyS,simprocAttr,rdB,List.length_map,List.length_nil];(repeat refine AI ?_);refine hK' _ _ ?_;clear hK' K')
   simp only[sE,↓reduceIte,simprocAttr];repeat refine AI ?_
   refine hK _ _ _ ?_;clear hK K;refine bA ?_;simp (maxSteps:=4000000) only[↓sP,sA,tyS,simprocAttr];clear hK K;repeat refine AI ?_
   refine hK _ _ _ ?_;clear hK K;refine cA3 20204 66 20400 [(2,.ptr 0 0),(4,.ptr 28 0),(22,.c (.slc (ws.map lsC))),(23,.c (.int .i64 ws.length)),(24,.c (.int .i64 i))] (hpO d L ⟨k,n,[],f⟩ 20204) (by simp[aW,fin_at,finA_at,upd_at,HV.men,HV.menL]) (by simp[hpO,rdB,rdE,aX,fob_at,upd_at,none0_at,bT,HO.men,HV.men,HV.menL,HV.menL_append,bD]) (by omega) (by omega) (by omega) (by omega) (by omega) (by omega) (by omega) (by simp[HV.men]) (by simp[hpO,rdB,rdE,HO.men,HV.men,HV.menL,HV.menL_append,bD]) (bE (fr2:=fin [(2,.ptr 0 0),(4,.ptr 28 0),(22,.c (.slc (ws.map lsC))),(23,.c (.int .i64 ws.length)),(24,.c (.int .i64 i))]) (ob2:=fob (hpO d L ⟨k,n,[],f⟩ 66)) (nx2:=20500) (by simp only[hpO];exact aM (by omega) (by simp[aW,fin_at,finA_at,upd_at,HV.men,HV.menL,HV.norm,HV.toC,HV.toCL,mvF,mvO,mvN,HV.ren,HO.ren,HV.renL,gG,fY,HV.menL_append,bD,rdB,rdE]) (by simp[aX,fob_at,upd_at,none0_at,bT,HO.men,HV.men,HV.menL,HV.norm,HV.toC,HV.toCL,mvF,mvO,mvN,HV.ren,HO.ren,HV.renL,gG,fY,HV.menL_append,bD,rdB,rdE])) ?_);simp only[hpO];refine aD (by kernel_rfl) ?_;simp (maxSteps:=4000000) only[↓sP,sA,tyS,simprocAttr,(show IntKind.i64.wrap ((i:Int)+1)=((i+1:Nat):Int)from by rw[IntWalk.i64_in _ (by omega)];rfl)];refine⟨⟨⟨i+1,L,some ⟨k,n,[],f⟩⟩,⟨hlt,?_,fun h=>by cases h⟩⟩,?_,?_⟩
   · show jD (ws.take (i+1))=some (Rs.ls ⟨i+1,L,some ⟨k,n,[],f⟩⟩);rw[kQ hlt hrun];exact hstep
   · simp only[Rs.hp,hpO];exact aM (by omega) (by simp[aW,fin_at,finA_at,upd_at,HV.men,HV.menL,HV.norm,HV.toC,HV.toCL,rdB,rdE,HV.menL_append,bD]) (by simp[aX,fob_at,upd_at,none0_at,bT,HO.men,HV.men,HV.menL,HV.norm,HV.toC,HV.toCL,rdB,rdE,HV.menL_append,bD])
   show ws.length-(i+1)<ws.length-i;omega
  have hdc:wd ws[i] 0=jW:=by simpa using hb
  clear hb;refine aK ?_;simp (maxSteps:=4000000) only[↓sP,sA,tyS,simprocAttr];repeat refine AI ?_
  refine hK _ _ _ ?_;clear hK K;by_cases hzn:z=none
  ·
   subst hzn;obtain rfl:l=[]:=hyx rfl;simp only[Rs.hp,hpC];have hno:fQ ls=none:=by rw[hrd,kR hlt hrun (aT0 hdc)];rfl
   refine aB fun K hK=>bY (by kernel_rfl) ?_;simp only[sR,simprocAttr];iterate 2
    (refine aZ (g:=none) rfl rfl fun K' hK'=>?_;simp only[sH,↓sP,sA,tyS,simprocAttr,rdB,List.length_nil,List.map_nil,(show IntKind.i64.wrap (((0:Nat):Int)-1)= -1 from rfl),(show IntKind.i64.wrap (-1)= -1 from rfl)];(repeat refine AI ?_);refine hK' _ _ ?_;clear hK' K')
   refine cA (g:=none) rfl rfl fun K' hK'=>?_;simp (maxSteps:=4000000) only[sN,↓hopH.eq_def,sH,↓sP,sA,tyS,simprocAttr,rdB,List.length_nil,List.map_nil,(show IntKind.i64.wrap (((0:Nat):Int)-1)= -1 from rfl),(show IntKind.i64.wrap (-1)= -1 from rfl)];repeat refine AI ?_
   refine hK' _ _ ?_;clear hK' K';iterate 2
    (refine aZ (g:=none) rfl rfl fun K' hK'=>?_;simp only[sH,↓sP,sA,tyS,simprocAttr,rdB,List.length_nil,List.map_nil,(show IntKind.i64.wrap (((0:Nat):Int)-1)= -1 from rfl),(show IntKind.i64.wrap (-1)= -1 from rfl)];(repeat refine AI ?_);refine hK' _ _ ?_;clear hK' K')
   simp only[sE,↓reduceIte,simprocAttr];repeat refine AI ?_
   refine hK _ _ _ ?_;clear hK K;refine aB fun K hK=>?_;refine aB fun K hK=>bY (by kernel_rfl) ?_;simp only[sR,simprocAttr];iterate 3
    (refine aZ (g:=none) rfl rfl fun K' hK'=>?_;simp only[sH,↓sP,sA,tyS,simprocAttr,(show decide ((-1:Int)<0)=true from rfl),(show((-1:Int)<0)=True from by simp),(show IntKind.i64.wrap (-1)= -1 from rfl),↓reduceIte];(repeat refine AI ?_);refine hK' _ _ ?_;clear hK' K')
   iterate 7
    (refine aZ (g:=some (52,false)) rfl rfl fun K' hK'=>?_;simp only[sH,↓sP,sA,tyS,simprocAttr,(show decide ((-1:Int)<0)=true from rfl),(show((-1:Int)<0)=True from by simp),(show IntKind.i64.wrap (-1)= -1 from rfl),↓reduceIte];(repeat refine AI ?_);refine hK' _ _ ?_;clear hK' K')
   iterate 2
    (refine aZ (g:=none) rfl rfl fun K' hK'=>?_;simp only[sH,↓sP,sA,tyS,simprocAttr,(show decide ((-1:Int)<0)=true from rfl),(show((-1:Int)<0)=True from by simp),(show IntKind.i64.wrap (-1)= -1 from rfl),↓reduceIte];(repeat refine AI ?_);refine hK' _ _ ?_;clear hK' K')
   iterate 3
    (refine aZ (g:=some (61,false)) rfl rfl fun K' hK'=>?_;simp only[sH,↓sP,sA,tyS,simprocAttr,(show decide ((-1:Int)<0)=true from rfl),(show((-1:Int)<0)=True from by simp),(show IntKind.i64.wrap (-1)= -1 from rfl),↓reduceIte];(repeat refine AI ?_);refine hK' _ _ ?_;clear hK' K')
   refine aZ (g:=none) rfl rfl fun K' hK'=>?_;simp (maxSteps:=4000000) only[sH,↓sP,sA,tyS,simprocAttr,(show decide ((-1:Int)<0)=true from rfl),(show((-1:Int)<0)=True from by simp),(show IntKind.i64.wrap (-1)= -1 from rfl),↓reduceIte];repeat refine AI ?_
   refine hK' _ _ ?_;clear hK' K';simp only[sE,↓reduceIte,simprocAttr];repeat refine AI ?_
   refine hK _ _ _ ?_;clear hK K;refine aH (b:=true) rfl (fun hb=>?_) (fun hb=>?_)
   ·
    refine bE (fr2:=fin [(2,.ptr 0 0),(4,.ptr 28 0)]) (ob2:=fob (Rs.hp d ⟨i,[],none⟩)) (nx2:=20100) (by simp only[Rs.hp,hpC];exact aM (by omega) (by simp[aW,fin_at,finA_at,upd_at,HV.men,HV.menL,HV.norm,HV.toC,HV.toCL,rdB,rdE,HV.menL_append,bD]) (by simp[aX,fob_at,upd_at,none0_at,bT,HO.men,HV.men,HV.menL,HV.norm,HV.toC,HV.toCL,rdB,rdE,HV.menL_append,bD])) ?_;refine mJ (y:=⟨i,[],none⟩) (fun _=>rfl) (by simp[aW,dA,fin_at,HV.close,HV.closeL,HV.norm,HV.toC,HV.men,CV.denil]) ?_;obtain⟨L,hL⟩: ∃L,L=Rs.ls ⟨i,[],none⟩:=⟨_,rfl⟩;rw[←hL];simp only[hpC];refine aB fun K hK=>aD (by kernel_rfl) ?_;simp (maxSteps:=4000000) only[↓sP,sA,tyS,simprocAttr,rdB];repeat refine AI ?_
    refine hK _ _ _ ?_;clear hK K;refine mV 12 (L.map Ln.cv) rfl (lI L) ?_;refine aF ?_;simp (maxSteps:=4000000) only[bS,Tryz.results62,bN,bR,bM,↓sP,sA,tyS,simprocAttr];refine⟨rfl,?_⟩;exact pP (d:=d) (L:=L) rfl rfl (by rw[hno];rfl) (fun x hx=>by rw[hno]at hx;cases hx)
   cases hb
  obtain⟨q,rfl⟩:=Option.ne_none_iff_exists'.1 hzn;clear hzn hyx;simp only[Rs.hp,hpO];have hql:=hlen.2 q (by simp[Rs.ls]);have hll:l.length+1≤i:=by have:=hlen.1;simpa[Rs.ls]using this
  refine aB fun K hK=>bY (by kernel_rfl) ?_;simp only[sR,simprocAttr];iterate 2
   (refine aZ (g:=none) rfl rfl fun K' hK'=>?_;simp only[sH,↓sP,sA,tyS,simprocAttr,rdB,List.length_append,List.length_map,List.length_cons,List.length_nil,Nat.zero_add,(show IntKind.i64.wrap (((l.length+1:Nat):Int)-1)=(l.length:Int)from by rw[IntWalk.i64_in _ (by omega)];omega)];(repeat refine AI ?_);refine hK' _ _ ?_;clear hK' K')
  refine cA (g:=none) rfl rfl fun K' hK'=>?_;simp (maxSteps:=4000000) only[sN,↓hopH.eq_def,sH,↓sP,sA,tyS,simprocAttr,rdB,List.length_append,List.length_map,List.length_cons,List.length_nil,Nat.zero_add,(show IntKind.i64.wrap (((l.length+1:Nat):Int)-1)=(l.length:Int)from by rw[IntWalk.i64_in _ (by omega)];omega)];repeat refine AI ?_
  refine hK' _ _ ?_;clear hK' K';iterate 2
   (refine aZ (g:=none) rfl rfl fun K' hK'=>?_;simp only[sH,↓sP,sA,tyS,simprocAttr,rdB,List.length_append,List.length_map,List.length_cons,List.length_nil,Nat.zero_add,(show IntKind.i64.wrap (((l.length+1:Nat):Int)-1)=(l.length:Int)from by rw[IntWalk.i64_in _ (by omega)];omega)];(repeat refine AI ?_);refine hK' _ _ ?_;clear hK' K')
  simp only[sE,↓reduceIte,simprocAttr];repeat refine AI ?_
  refine hK _ _ _ ?_;clear hK K;refine aB fun K hK=>?_;by_cases hk:q.k=1
  ·
   have hkf:(q.k !=1)=false:=by rw[hk];rfl
   refine aB fun K hK=>bY (by kernel_rfl) ?_;simp only[sR,simprocAttr];iterate 3
    (refine aZ (g:=none) rfl rfl fun K' hK'=>?_;simp only[sH,↓sP,sA,tyS,simprocAttr,rdB,rdE,(show decide ((l.length:Int)<0)=false from decide_eq_false (by omega)),bV,List.length_append,List.length_map,List.length_cons,List.length_nil,Nat.zero_add,Int.natCast_nonneg,Int.ofNat_lt,Nat.lt_succ_self,Int.toNat_natCast,hkf];(repeat refine AI ?_);refine hK' _ _ ?_;clear hK' K')
   iterate 3
    (refine aZ (g:=some (52,false)) rfl rfl fun K' hK'=>?_;simp only[sH,↓sP,sA,tyS,simprocAttr,rdB,rdE,(show decide ((l.length:Int)<0)=false from decide_eq_false (by omega)),bV,List.length_append,List.length_map,List.length_cons,List.length_nil,Nat.zero_add,Int.natCast_nonneg,Int.ofNat_lt,Nat.lt_succ_self,Int.toNat_natCast,hkf];(repeat refine AI ?_);refine hK' _ _ ?_;clear hK' K')
   refine cA (g:=some (52,false)) rfl rfl fun K' hK'=>?_;simp (maxSteps:=4000000) only[sN,↓hopH.eq_def,sH,↓sP,sA,tyS,simprocAttr,rdB,rdE,(show decide ((l.length:Int)<0)=false from decide_eq_false (by omega)),bV,List.length_append,List.length_map,List.length_cons,List.length_nil,Nat.zero_add,Int.natCast_nonneg,Int.ofNat_lt,Nat.lt_succ_self,Int.toNat_natCast,hkf];repeat refine AI ?_
   refine hK' _ _ ?_;clear hK' K';refine cA (g:=some (52,false)) rfl rfl fun K' hK'=>?_;simp (maxSteps:=4000000) only[sN,↓hopH.eq_def,sH,↓sP,sA,tyS,simprocAttr,rdB,rdE,(show decide ((l.length:Int)<0)=false from decide_eq_false (by omega)),bV,List.length_append,List.length_map,List.length_cons,List.length_nil,Nat.zero_add,Int.natCast_nonneg,Int.ofNat_lt,Nat.lt_succ_self,Int.toNat_natCast,hkf];repeat refine AI ?_
   refine hK' _ _ ?_;clear hK' K';refine cA (g:=some (52,false)) rfl rfl fun K' hK'=>?_;simp (maxSteps:=4000000) only[sN,↓hopH.eq_def,sH,↓sP,sA,tyS,simprocAttr,rdB,rdE,(show decide ((l.length:Int)<0)=false from decide_eq_false (by omega)),bV,List.length_append,List.length_map,List.length_cons,List.length_nil,Nat.zero_add,Int.natCast_nonneg,Int.ofNat_lt,Nat.lt_succ_self,Int.toNat_natCast,hkf];repeat refine AI ?_
   refine hK' _ _ ?_;clear hK' K';refine aZ (g:=some (52,false)) rfl rfl fun K' hK'=>?_;simp (maxSteps:=4000000) only[sH,↓sP,sA,tyS,simprocAttr,rdB,rdE,(show decide ((l.length:Int)<0)=false from decide_eq_false (by omega)),bV,List.length_append,List.length_map,List.length_cons,List.length_nil,Nat.zero_add,Int.natCast_nonneg,Int.ofNat_lt,Nat.lt_succ_self,Int.toNat_natCast,hkf];repeat refine AI ?_
   refine hK' _ _ ?_;clear hK' K';iterate 2
    (refine aZ (g:=none) rfl rfl fun K' hK'=>?_;simp only[sH,↓sP,sA,tyS,simprocAttr,rdB,rdE,(show decide ((l.length:Int)<0)=false from decide_eq_false (by omega)),bV,List.length_append,List.length_map,List.length_cons,List.length_nil,Nat.zero_add,Int.natCast_nonneg,Int.ofNat_lt,Nat.lt_succ_self,Int.toNat_natCast,hkf];(repeat refine AI ?_);refine hK' _ _ ?_;clear hK' K')
   iterate 3
    (refine aZ (g:=some (61,false)) rfl rfl fun K' hK'=>?_;simp only[sH,↓sP,sA,tyS,simprocAttr,rdB,rdE,(show decide ((l.length:Int)<0)=false from decide_eq_false (by omega)),bV,List.length_append,List.length_map,List.length_cons,List.length_nil,Nat.zero_add,Int.natCast_nonneg,Int.ofNat_lt,Nat.lt_succ_self,Int.toNat_natCast,hkf];(repeat refine AI ?_);refine hK' _ _ ?_;clear hK' K')
   refine aZ (g:=none) rfl rfl fun K' hK'=>?_;simp (maxSteps:=4000000) only[sH,↓sP,sA,tyS,simprocAttr,rdB,rdE,(show decide ((l.length:Int)<0)=false from decide_eq_false (by omega)),bV,List.length_append,List.length_map,List.length_cons,List.length_nil,Nat.zero_add,Int.natCast_nonneg,Int.ofNat_lt,Nat.lt_succ_self,Int.toNat_natCast,hkf];repeat refine AI ?_
   refine hK' _ _ ?_;clear hK' K';simp only[sE,↓reduceIte,simprocAttr];repeat refine AI ?_
   refine hK _ _ _ ?_;clear hK K;refine aH (b:=((ws[i].length:Int) !=2)) rfl (fun hb=>?_) (fun hb=>?_)
   ·
    have hw2:ws[i].length≠2:=by intro e;rw[e]at hb;exact absurd hb (by decide)
    clear hb;have hno:fQ ls=none:=by rw[hrd,kR hlt hrun (oT hdc (.inr (.inl hw2)))];rfl
    refine bE (fr2:=fin [(2,.ptr 0 0),(4,.ptr 28 0)]) (ob2:=fob (Rs.hp d ⟨i,l,some q⟩)) (nx2:=20100) (by simp only[Rs.hp,hpO];exact aM (by omega) (by simp[aW,fin_at,finA_at,upd_at,HV.men,HV.menL,HV.norm,HV.toC,HV.toCL,rdB,rdE,HV.menL_append,bD]) (by simp[aX,fob_at,upd_at,none0_at,bT,HO.men,HV.men,HV.menL,HV.norm,HV.toC,HV.toCL,rdB,rdE,HV.menL_append,bD])) ?_;refine mJ (y:=⟨i,l,some q⟩) (fun h=>by cases h) (by simp[aW,dA,fin_at,HV.close,HV.closeL,HV.norm,HV.toC,HV.men,CV.denil]) ?_;obtain⟨L,hL⟩: ∃L,L=Rs.ls ⟨i,l,some q⟩:=⟨_,rfl⟩;rw[←hL];simp only[hpC];refine aB fun K hK=>aD (by kernel_rfl) ?_;simp (maxSteps:=4000000) only[↓sP,sA,tyS,simprocAttr,rdB];repeat refine AI ?_
    refine hK _ _ _ ?_;clear hK K;refine mV 12 (L.map Ln.cv) rfl (lI L) ?_;refine aF ?_;simp (maxSteps:=4000000) only[bS,Tryz.results62,bN,bR,bM,↓sP,sA,tyS,simprocAttr];refine⟨rfl,?_⟩;exact pP (d:=d) (L:=L) rfl rfl (by rw[hno];rfl) (fun x hx=>by rw[hno]at hx;cases hx)
   have hw2:ws[i].length=2:=by
    have: ¬((ws[i].length:Int)≠2):=fun h=>by rw[bne_iff_ne.2 h]at hb;cases hb
    omega
   clear hb;have hwd:(wd ws[i] 1).length<2^40:=by
    unfold wd;rw[List.getD_eq_getElem?_getD,List.getElem?_eq_getElem (by omega)];exact hb2 _ (List.getElem_mem hlt) _ (List.getElem_mem _)
   refine aK ?_;simp (maxSteps:=4000000) only[↓sP,sA,tyS,simprocAttr];repeat refine AI ?_
   refine hK _ _ _ ?_;clear hK K;refine aB fun K hK=>aD (by kernel_rfl) ?_;simp only[sR,simprocAttr];iterate 3
    (refine aE (g:=none) rfl rfl fun K' hK'=>?_;simp only[sH,↓sP,sA,tyS,simprocAttr,List.length_map,cV (show 1<ws[i].length by omega),Int.toNat_one];(repeat refine AI ?_);refine hK' _ _ ?_;clear hK' K')
   refine aE (g:=none) rfl rfl fun K' hK'=>?_;simp (maxSteps:=4000000) only[sH,↓sP,sA,tyS,simprocAttr,List.length_map,cV (show 1<ws[i].length by omega),Int.toNat_one];refine iK (args:=[_]) (pM (wd ws[i] 1) hwd) ⟨rfl,rfl,rfl,rfl⟩ ?_;rintro u v ⟨rfl,rfl⟩;repeat refine AI ?_
   refine hK' _ _ ?_;clear hK' K';iterate 6
    (refine aE (g:=none) rfl rfl fun K' hK'=>?_;simp only[sH,↓sP,sA,tyS,simprocAttr,List.length_map,cV (show 1<ws[i].length by omega),Int.toNat_one];(repeat refine AI ?_);refine hK' _ _ ?_;clear hK' K')
   simp only[sE,↓reduceIte,simprocAttr];repeat refine AI ?_
   refine hK _ _ _ ?_;clear hK K;refine aB fun K hK=>?_;refine aB fun K hK=>aD (by kernel_rfl) ?_;simp (maxSteps:=4000000) only[↓sP,sA,tyS,simprocAttr];repeat refine AI ?_
   refine hK _ _ _ ?_;clear hK K;refine aH (b:=!(eK (wd ws[i] 1)).isSome) rfl (fun hb=>?_) (fun hb=>?_)
   ·
    have hdn:(eK (wd ws[i] 1)).isSome=false:=by simpa using hb
    clear hb;have hno:fQ ls=none:=by rw[hrd,kR hlt hrun (oT hdc (.inr (.inr hdn)))];rfl
    refine bE (fr2:=fin [(2,.ptr 0 0),(4,.ptr 28 0)]) (ob2:=fob (Rs.hp d ⟨i,l,some q⟩)) (nx2:=20100) (by simp only[Rs.hp,hpO];exact aM (by omega) (by simp[aW,fin_at,finA_at,upd_at,HV.men,HV.menL,HV.norm,HV.toC,HV.toCL,rdB,rdE,HV.menL_append,bD]) (by simp[aX,fob_at,upd_at,none0_at,bT,HO.men,HV.men,HV.menL,HV.norm,HV.toC,HV.toCL,rdB,rdE,HV.menL_append,bD])) ?_;refine mJ (y:=⟨i,l,some q⟩) (fun h=>by cases h) (by simp[aW,dA,fin_at,HV.close,HV.closeL,HV.norm,HV.toC,HV.men,CV.denil]) ?_;obtain⟨L,hL⟩: ∃L,L=Rs.ls ⟨i,l,some q⟩:=⟨_,rfl⟩;rw[←hL];simp only[hpC];refine aB fun K hK=>aD (by kernel_rfl) ?_;simp (maxSteps:=4000000) only[↓sP,sA,tyS,simprocAttr,rdB];repeat refine AI ?_
    refine hK _ _ _ ?_;clear hK K;refine mV 12 (L.map Ln.cv) rfl (lI L) ?_;refine aF ?_;simp (maxSteps:=4000000) only[bS,Tryz.results62,bN,bR,bM,↓sP,sA,tyS,simprocAttr];refine⟨rfl,?_⟩;exact pP (d:=d) (L:=L) rfl rfl (by rw[hno];rfl) (fun x hx=>by rw[hno]at hx;cases hx)
   obtain⟨dd,hdd⟩:=Option.isSome_iff_exists.1 (show(eK (wd ws[i] 1)).isSome=true by simpa using hb);rw[hdd];clear hb;refine aK ?_;simp (maxSteps:=4000000) only[↓sP,sA,tyS,simprocAttr];repeat refine AI ?_
   refine hK _ _ _ ?_;clear hK K;refine dM mixed [(0,[],[]),(1,[],[]),(2,[],[]),(3,[],[]),(4,[],[]),(5,[],[]),(6,[],[]),(7,[],[]),(8,[],[]),(9,[],[]),(10,[],[]),(11,[],[0,1,2]),(12,[],[]),(13,[],[]),(14,[],[])] [0,1,0,0,8,0,56,120,248,0,512,2040,4095,8191,16383] (by kernel_rfl) (by kernel_rfl) (by kernel_rfl) (by kernel_rfl) rfl (by kernel_rfl) ?_;iterate 6
    (refine cF (g:=none) rfl rfl fun K' hK'=>?_;simp only[sH,↓sP,sA,tyS,simprocAttr,rdB,rdE,bV,gS,List.length_append,List.length_map,List.length_cons,List.length_nil,Nat.zero_add,Int.natCast_nonneg,Int.ofNat_lt,Nat.lt_succ_self,Int.toNat_natCast,Option.getD_some];(repeat refine AI ?_);refine hK' _ _ ?_;clear hK' K')
   refine bO (g:=none) rfl rfl fun K' hK'=>?_;simp (maxSteps:=4000000) only[sN,↓hopH.eq_def,sH,↓sP,sA,tyS,simprocAttr,rdB,rdE,bV,gS,List.length_append,List.length_map,List.length_cons,List.length_nil,Nat.zero_add,Int.natCast_nonneg,Int.ofNat_lt,Nat.lt_succ_self,Int.toNat_natCast,Option.getD_some];repeat refine AI ?_
   refine hK' _ _ ?_;clear hK' K';refine bO (g:=none) rfl rfl fun K' hK'=>?_;simp (maxSteps:=4000000) only[sN,↓hopH.eq_def,sH,↓sP,sA,tyS,simprocAttr,rdB,rdE,bV,gS,List.length_append,List.length_map,List.length_cons,List.length_nil,Nat.zero_add,Int.natCast_nonneg,Int.ofNat_lt,Nat.lt_succ_self,Int.toNat_natCast,Option.getD_some];repeat refine AI ?_
   refine hK' _ _ ?_;clear hK' K';refine bO (g:=none) rfl rfl fun K' hK'=>?_;simp (maxSteps:=4000000) only[sN,↓hopH.eq_def,sH,↓sP,sA,tyS,simprocAttr,rdB,rdE,bV,gS,List.length_append,List.length_map,List.length_cons,List.length_nil,Nat.zero_add,Int.natCast_nonneg,Int.ofNat_lt,Nat.lt_succ_self,Int.toNat_natCast,Option.getD_some];repeat refine AI ?_
   refine hK' _ _ ?_;clear hK' K';iterate 3
    (refine cF (g:=none) rfl rfl fun K' hK'=>?_;simp only[sH,↓sP,sA,tyS,simprocAttr,rdB,rdE,bV,gS,List.length_append,List.length_map,List.length_cons,List.length_nil,Nat.zero_add,Int.natCast_nonneg,Int.ofNat_lt,Nat.lt_succ_self,Int.toNat_natCast,Option.getD_some];(repeat refine AI ?_);refine hK' _ _ ?_;clear hK' K')
   refine bO (g:=none) rfl rfl fun K' hK'=>?_;simp (maxSteps:=4000000) only[sN,↓hopH.eq_def,sH,↓sP,sA,tyS,simprocAttr,rdB,rdE,bV,gS,List.length_append,List.length_map,List.length_cons,List.length_nil,Nat.zero_add,Int.natCast_nonneg,Int.ofNat_lt,Nat.lt_succ_self,Int.toNat_natCast,Option.getD_some];repeat refine AI ?_
   refine hK' _ _ ?_;clear hK' K';refine bO (g:=none) rfl rfl fun K' hK'=>?_;simp (maxSteps:=4000000) only[sN,↓hopH.eq_def,sH,↓sP,sA,tyS,simprocAttr,rdB,rdE,bV,gS,List.length_append,List.length_map,List.length_cons,List.length_nil,Nat.zero_add,Int.natCast_nonneg,Int.ofNat_lt,Nat.lt_succ_self,Int.toNat_natCast,Option.getD_some];repeat refine AI ?_
   refine hK' _ _ ?_;clear hK' K';refine bO (g:=none) rfl rfl fun K' hK'=>?_;simp (maxSteps:=4000000) only[sN,↓hopH.eq_def,sH,↓sP,sA,tyS,simprocAttr,rdB,rdE,bV,gS,List.length_append,List.length_map,List.length_cons,List.length_nil,Nat.zero_add,Int.natCast_nonneg,Int.ofNat_lt,Nat.lt_succ_self,Int.toNat_natCast,Option.getD_some];repeat refine AI ?_
   refine hK' _ _ ?_;clear hK' K';simp only[sE,↓reduceIte,simprocAttr];repeat refine AI ?_
   refine hK _ _ _ ?_;clear hK K;refine aD (by kernel_rfl) ?_;simp (maxSteps:=4000000) only[↓sP,sA,tyS,simprocAttr,(show IntKind.i64.wrap ((i:Int)+1)=((i+1:Nat):Int)from by rw[IntWalk.i64_in _ (by omega)];rfl)];refine⟨⟨⟨i+1,l,some (jX q dd)⟩,⟨hlt,?_,fun h=>by cases h⟩⟩,?_,?_⟩
   · show jD (ws.take (i+1))=some (Rs.ls ⟨i+1,l,some (jX q dd)⟩);rw[kQ hlt hrun];exact aT1 hdc hk hw2 hdd
   · simp only[Rs.hp,hpO];exact aM (by omega) (by simp[aW,fin_at,finA_at,upd_at,HV.men,HV.menL,HV.norm,HV.toC,HV.toCL,rdB,rdE,jX,HV.menL_append,bD]) (by simp[aX,fob_at,upd_at,none0_at,bT,HO.men,HV.men,HV.menL,HV.norm,HV.toC,HV.toCL,rdB,rdE,jX,HV.menL_append,bD])
   show ws.length-(i+1)<ws.length-i;omega
  have hkf:(q.k !=1)=true:=bne_iff_ne.2 hk;have hno:fQ ls=none:=by rw[hrd,kR hlt hrun (oT hdc (.inl hk))];rfl
  refine aB fun K hK=>bY (by kernel_rfl) ?_;simp only[sR,simprocAttr];iterate 3
   (refine aZ (g:=none) rfl rfl fun K' hK'=>?_;simp only[sH,↓sP,sA,tyS,simprocAttr,rdB,rdE,(show decide ((l.length:Int)<0)=false from decide_eq_false (by omega)),bV,List.length_append,List.length_map,List.length_cons,List.length_nil,Nat.zero_add,Int.natCast_nonneg,Int.ofNat_lt,Nat.lt_succ_self,Int.toNat_natCast,hkf];(repeat refine AI ?_);refine hK' _ _ ?_;clear hK' K')
  iterate 3
   (refine aZ (g:=some (52,false)) rfl rfl fun K' hK'=>?_;simp only[sH,↓sP,sA,tyS,simprocAttr,rdB,rdE,(show decide ((l.length:Int)<0)=false from decide_eq_false (by omega)),bV,List.length_append,List.length_map,List.length_cons,List.length_nil,Nat.zero_add,Int.natCast_nonneg,Int.ofNat_lt,Nat.lt_succ_self,Int.toNat_natCast,hkf];(repeat refine AI ?_);refine hK' _ _ ?_;clear hK' K')
  refine cA (g:=some (52,false)) rfl rfl fun K' hK'=>?_;simp (maxSteps:=4000000) only[sN,↓hopH.eq_def,sH,↓sP,sA,tyS,simprocAttr,rdB,rdE,(show decide ((l.length:Int)<0)=false from decide_eq_false (by omega)),bV,List.length_append,List.length_map,List.length_cons,List.length_nil,Nat.zero_add,Int.natCast_nonneg,Int.ofNat_lt,Nat.lt_succ_self,Int.toNat_natCast,hkf];repeat refine AI ?_
  refine hK' _ _ ?_;clear hK' K';refine cA (g:=some (52,false)) rfl rfl fun K' hK'=>?_;simp (maxSteps:=4000000) only[sN,↓hopH.eq_def,sH,↓sP,sA,tyS,simprocAttr,rdB,rdE,(show decide ((l.length:Int)<0)=false from decide_eq_false (by omega)),bV,List.length_append,List.length_map,List.length_cons,List.length_nil,Nat.zero_add,Int.natCast_nonneg,Int.ofNat_lt,Nat.lt_succ_self,Int.toNat_natCast,hkf];repeat refine AI ?_
  refine hK' _ _ ?_;clear hK' K';refine cA (g:=some (52,false)) rfl rfl fun K' hK'=>?_;simp (maxSteps:=4000000) only[sN,↓hopH.eq_def,sH,↓sP,sA,tyS,simprocAttr,rdB,rdE,(show decide ((l.length:Int)<0)=false from decide_eq_false (by omega)),bV,List.length_append,List.length_map,List.length_cons,List.length_nil,Nat.zero_add,Int.natCast_nonneg,Int.ofNat_lt,Nat.lt_succ_self,Int.toNat_natCast,hkf];repeat refine AI ?_
  refine hK' _ _ ?_;clear hK' K';refine aZ (g:=some (52,false)) rfl rfl fun K' hK'=>?_;simp (maxSteps:=4000000) only[sH,↓sP,sA,tyS,simprocAttr,rdB,rdE,(show decide ((l.length:Int)<0)=false from decide_eq_false (by omega)),bV,List.length_append,List.length_map,List.length_cons,List.length_nil,Nat.zero_add,Int.natCast_nonneg,Int.ofNat_lt,Nat.lt_succ_self,Int.toNat_natCast,hkf];repeat refine AI ?_
  refine hK' _ _ ?_;clear hK' K';iterate 2
   (refine aZ (g:=none) rfl rfl fun K' hK'=>?_;simp only[sH,↓sP,sA,tyS,simprocAttr,rdB,rdE,(show decide ((l.length:Int)<0)=false from decide_eq_false (by omega)),bV,List.length_append,List.length_map,List.length_cons,List.length_nil,Nat.zero_add,Int.natCast_nonneg,Int.ofNat_lt,Nat.lt_succ_self,Int.toNat_natCast,hkf];(repeat refine AI ?_);refine hK' _ _ ?_;clear hK' K')
  iterate 3
   (refine aZ (g:=some (61,false)) rfl rfl fun K' hK'=>?_;simp only[sH,↓sP,sA,tyS,simprocAttr,rdB,rdE,(show decide ((l.length:Int)<0)=false from decide_eq_false (by omega)),bV,List.length_append,List.length_map,List.length_cons,List.length_nil,Nat.zero_add,Int.natCast_nonneg,Int.ofNat_lt,Nat.lt_succ_self,Int.toNat_natCast,hkf];(repeat refine AI ?_);refine hK' _ _ ?_;clear hK' K')
  refine aZ (g:=none) rfl rfl fun K' hK'=>?_;simp (maxSteps:=4000000) only[sH,↓sP,sA,tyS,simprocAttr,rdB,rdE,(show decide ((l.length:Int)<0)=false from decide_eq_false (by omega)),bV,List.length_append,List.length_map,List.length_cons,List.length_nil,Nat.zero_add,Int.natCast_nonneg,Int.ofNat_lt,Nat.lt_succ_self,Int.toNat_natCast,hkf];repeat refine AI ?_
  refine hK' _ _ ?_;clear hK' K';simp only[sE,↓reduceIte,simprocAttr];repeat refine AI ?_
  refine hK _ _ _ ?_;clear hK K;refine aH (b:=true) rfl (fun hb=>?_) (fun hb=>?_)
  ·
   refine bE (fr2:=fin [(2,.ptr 0 0),(4,.ptr 28 0)]) (ob2:=fob (Rs.hp d ⟨i,l,some q⟩)) (nx2:=20100) (by simp only[Rs.hp,hpO];exact aM (by omega) (by simp[aW,fin_at,finA_at,upd_at,HV.men,HV.menL,HV.norm,HV.toC,HV.toCL,rdB,rdE,HV.menL_append,bD]) (by simp[aX,fob_at,upd_at,none0_at,bT,HO.men,HV.men,HV.menL,HV.norm,HV.toC,HV.toCL,rdB,rdE,HV.menL_append,bD])) ?_;refine mJ (y:=⟨i,l,some q⟩) (fun h=>by cases h) (by simp[aW,dA,fin_at,HV.close,HV.closeL,HV.norm,HV.toC,HV.men,CV.denil]) ?_;obtain⟨L,hL⟩: ∃L,L=Rs.ls ⟨i,l,some q⟩:=⟨_,rfl⟩;rw[←hL];simp only[hpC];refine aB fun K hK=>aD (by kernel_rfl) ?_;simp (maxSteps:=4000000) only[↓sP,sA,tyS,simprocAttr,rdB];repeat refine AI ?_
   refine hK _ _ _ ?_;clear hK K;refine mV 12 (L.map Ln.cv) rfl (lI L) ?_;refine aF ?_;simp (maxSteps:=4000000) only[bS,Tryz.results62,bN,bR,bM,↓sP,sA,tyS,simprocAttr];refine⟨rfl,?_⟩;exact pP (d:=d) (L:=L) rfl rfl (by rw[hno];rfl) (fun x hx=>by rw[hno]at hx;cases hx)
  cases hb
 have hie:i=ws.length:=by
  have: ¬(i<ws.length):=by simpa using hb
  omega
 clear hb;refine bE (fr2:=fin [(2,.ptr 0 0),(4,.ptr 28 0)]) (ob2:=fob (Rs.hp d ⟨i,l,z⟩)) (nx2:=20100) (by cases z<;>simp only[Rs.hp,hpC,hpO]<;>exact aM (by omega) (by simp[aW,fin_at,finA_at,upd_at,HV.men,HV.menL,HV.norm,HV.toC,HV.toCL,rdB,rdE,HV.menL_append,bD]) (by simp[aX,fob_at,upd_at,none0_at,bT,HO.men,HV.men,HV.menL,HV.norm,HV.toC,HV.toCL,rdB,rdE,HV.menL_append,bD])) ?_;refine mJ (y:=⟨i,l,z⟩) hyx (by simp[aW,dA,fin_at,HV.close,HV.closeL,HV.norm,HV.toC,HV.men,CV.denil]) ?_;obtain⟨L,hL⟩: ∃L,L=Rs.ls ⟨i,l,z⟩:=⟨_,rfl⟩;rw[←hL];simp only[hpC];rw[←hL,hie,List.take_length]at hrun;rw[hrun]at hrd;refine bA ?_;simp (maxSteps:=4000000) only[↓sP,sA,tyS,simprocAttr];clear hK K;repeat refine AI ?_
 refine hK _ _ _ ?_;clear hK K;refine aB fun K hK=>aD (by kernel_rfl) ?_;simp (maxSteps:=4000000) only[↓sP,sA,tyS,simprocAttr,rdB];repeat refine AI ?_
 refine hK _ _ _ ?_;clear hK K;refine mV 12 (L.map Ln.cv) rfl (lI L) ?_;refine aF ?_;simp (maxSteps:=4000000) only[bS,Tryz.results62,bN,bR,bM,↓sP,sA,tyS,simprocAttr];refine⟨rfl,?_⟩;exact pP (d:=d) (L:=L) rfl rfl (by rw[hrd];rfl) (fun x hx=>by rw[hrd]at hx;exact(Option.some.inj hx).symm)
variable {α:Type}
theorem zI {a b:List α}{i:Nat}(h1:i<a.length)(h2:i<b.length)(h:a.take i=b.take i)(e:a[i]=b[i]):a.take (i+1)=b.take (i+1):=by
 rw[List.take_succ_eq_append_getElem h1,List.take_succ_eq_append_getElem h2,h,e]
theorem zJ {a b:List α}(hl:a.length=b.length)(h:a.take a.length=b.take a.length):a=b:=by
 rw[List.take_length,hl,List.take_length]at h;exact h
theorem cR4 {x y:Ln}(h1:(x.k !=y.k)=false)(h2:(x.n !=y.n)=false)(h3:(x.d==y.d)=true)(h4:(x.f==y.f)=true):x=y:=by
 have e1:x.k=y.k:=by simpa using h1
 have e2:x.n=y.n:=by simpa using h2
 have e3:=eq_of_beq h3;have e4:=eq_of_beq h4;cases x;cases y;simp only at e1 e2 e3 e4;subst e1 e2 e3 e4;rfl
theorem bO2 (a b:aG):cJ Tryz.prog 63 [.slc (a.map dG),.slc (b.map dG)] (fun v=>v= .bool (a==b)):=by
 refine FW Tryz.func63 ?_;refine R0 ?_;refine aB fun K hK=>Rg ?_;have F:=@bytesC_map;iterate 6 refine SF ?_
 refine T2 (hK _ _ _ ?_);clear hK K;refine aF (RT Tryz.results63 ?_);exact aJ [] (.bool (a==b)) rfl rfl
theorem cA5 (a b:List Int)(ha:a.length<2^40):cJ Tryz.prog 41 [.slc (a.map (CV.int .i64)),.slc (b.map (CV.int .i64))] (fun v=>v= .bool (a==b)):=by
 refine FW Tryz.func41 ?_;refine R0 ?_;refine aB fun K hK=>?_;refine aB fun K hK=>Rg ?_;iterate 5 refine S0 ?_
 refine T2 (hK _ _ _ ?_);clear hK K;refine aH (b:=!((a.length:Int)==(b.length:Int))) rfl (fun hb=>?_) (fun hb=>?_)
 ·
  refine R0 ?_;refine aF (RT Tryz.results41 ?_);have hne:a≠b:=by rintro rfl;simp at hb
  exact aJ [] (.bool false) rfl (by rw[beq_false_of_ne hne])
 have hlen0:(a.length:Int)=b.length:=by simpa using hb
 have hlen:a.length=b.length:=by omega
 clear hb;refine aK ?_;refine T0 (hK _ _ _ ?_);clear hK K;refine aB fun K hK=>?_;refine R0 ?_;refine aN ?_;refine bF (α:={i:Nat//i≤a.length∧a.take i=b.take i}) (fun i=>(fin [(0,.c (.slc (a.map (CV.int .i64)))),(1,.c (.slc (b.map (CV.int .i64)))),(5,.c (.int .i64 i.1))],fob [])) 100 (fun i=>a.length-i.1) ⟨0,by omega,by simp⟩ (fF) ?_;rintro⟨i,hi,hpre⟩;refine aB fun K hK=>?_;refine aB fun K hK=>Rg ?_;iterate 4 refine S0 ?_
 refine T2 (hK _ _ _ ?_);clear hK K;refine aH (b:=decide ((i:Int)<a.length)) rfl (fun hb=>?_) (fun hb=>?_)
 ·
  have hlt:i<a.length:=by simpa using hb
  have hlt2:i<b.length:=by omega
  clear hb;refine aK ?_;refine T0 (hK _ _ _ ?_);clear hK K;refine aB fun K hK=>?_;refine aN ?_;refine aB fun K hK=>QR ?_;have F:=aI @Int.natCast_nonneg (aI @Int.ofNat_lt (aI hlt (aI (nM hlt) (aI hlt2 (nM hlt2)))));iterate 9 refine SF ?_
  refine T2 (hK _ _ _ ?_);clear hK K;refine aH (b:=!(a[i]==b[i])) rfl (fun hb=>?_) (fun hb=>?_)
  ·
   refine R0 ?_;refine aF (RT Tryz.results41 ?_);have hne:a≠b:=by rintro rfl;simp at hb
   exact aJ [] (.bool false) rfl (by rw[beq_false_of_ne hne])
  refine aK ?_;refine T0 (hK _ _ _ ?_);clear hK K;refine aD (by kernel_rfl) ?_;refine TQ (fA i) ?_;refine⟨⟨i+1,hlt,zI hlt hlt2 hpre (by simpa using hb)⟩,fF,?_⟩;show a.length-(i+1)<a.length-i;omega
 refine bA (T3 ?_);clear hK K;refine AX (hK _ _ _ ?_);clear hK K;refine R0 ?_;refine aF (RT Tryz.results41 ?_);have hei:i=a.length:=by simp only[decide_eq_false_iff_not]at hb;omega
 subst hei;have hab:a=b:=zJ hlen hpre;exact aJ [] (.bool true) rfl (by rw[hab,beq_self_eq_true])
theorem cA6 (a b:List Dig)(ha:a.length<2^42):cJ Tryz.prog 23 [.slc (a.map dg),.slc (b.map dg)] (fun v=>v= .bool (a==b)):=by
 refine FW Tryz.func23 ?_;refine R0 ?_;refine aB fun K hK=>?_;refine aB fun K hK=>Rg ?_;iterate 5 refine S0 ?_
 refine T2 (hK _ _ _ ?_);clear hK K;refine aH (b:=!((a.length:Int)==(b.length:Int))) rfl (fun hb=>?_) (fun hb=>?_)
 ·
  refine R0 ?_;refine aF (RT Tryz.results23 ?_);have hne:a≠b:=by rintro rfl;simp at hb
  exact aJ [] (.bool false) rfl (by rw[beq_false_of_ne hne])
 have hlen0:(a.length:Int)=b.length:=by simpa using hb
 have hlen:a.length=b.length:=by omega
 clear hb;refine aK ?_;refine T0 (hK _ _ _ ?_);clear hK K;refine aB fun K hK=>?_;refine R0 ?_;refine aN ?_;refine bF (α:={i:Nat//i≤a.length∧a.take i=b.take i}) (fun i=>(fin [(0,.c (.slc (a.map dg))),(1,.c (.slc (b.map dg))),(5,.c (.int .i64 i.1))],fob [])) 100 (fun i=>a.length-i.1) ⟨0,by omega,by simp⟩ (fF) ?_;rintro⟨i,hi,hpre⟩;refine aB fun K hK=>?_;refine aB fun K hK=>Rg ?_;iterate 4 refine S0 ?_
 refine T2 (hK _ _ _ ?_);clear hK K;refine aH (b:=decide ((i:Int)<a.length)) rfl (fun hb=>?_) (fun hb=>?_)
 ·
  have hlt:i<a.length:=by simpa using hb
  have hlt2:i<b.length:=by omega
  clear hb;refine aK ?_;refine T0 (hK _ _ _ ?_);clear hK K;refine aB fun K hK=>?_;refine aN ?_;refine aB fun K hK=>QR ?_;have F:=aI @Int.natCast_nonneg (aI @Int.ofNat_lt (aI hlt (aI (nM hlt) (aI hlt2 (nM hlt2)))));iterate 9 refine SF ?_
  refine T2 (hK _ _ _ ?_);clear hK K;refine aH (b:=!(a[i]==b[i])) rfl (fun hb=>?_) (fun hb=>?_)
  ·
   refine R0 ?_;refine aF (RT Tryz.results23 ?_);have hne:a≠b:=by rintro rfl;simp at hb
   exact aJ [] (.bool false) rfl (by rw[beq_false_of_ne hne])
  refine aK ?_;refine T0 (hK _ _ _ ?_);clear hK K;refine aD (by kernel_rfl) ?_;refine TQ (fA i) ?_;refine⟨⟨i+1,hlt,zI hlt hlt2 hpre (by simpa[Subtype.ext_iff]using hb)⟩,fF,?_⟩;show a.length-(i+1)<a.length-i;omega
 refine bA (T3 ?_);clear hK K;refine AX (hK _ _ _ ?_);clear hK K;refine R0 ?_;refine aF (RT Tryz.results23 ?_);have hei:i=a.length:=by simp only[decide_eq_false_iff_not]at hb;omega
 subst hei;have hab:a=b:=zJ hlen hpre;exact aJ [] (.bool true) rfl (by rw[hab,beq_self_eq_true])
theorem bO3 (a b:List Ln)(ha:a.length<2^40)(hd: ∀x∈a,x.d.length<2^42∧x.f.length<2^40):cJ Tryz.prog 16 [.slc (a.map Ln.cv),.slc (b.map Ln.cv)] (fun v=> ∃c,v= .bool c∧(c=true↔a=b)):=by
 refine FW Tryz.func16 ?_;refine R0 ?_;refine aB fun K hK=>?_;refine aB fun K hK=>Rg ?_;iterate 5 refine S0 ?_
 refine T2 (hK _ _ _ ?_);clear hK K;refine aH (b:=!((a.length:Int)==(b.length:Int))) rfl (fun hb=>?_) (fun hb=>?_)
 ·
  refine R0 ?_;refine aF (RT Tryz.results16 ?_);have hne:a≠b:=by rintro rfl;simp at hb
  exact aJ [] (.bool false) rfl ⟨false,rfl,by simp[hne]⟩
 have hlen0:(a.length:Int)=b.length:=by simpa using hb
 have hlen:a.length=b.length:=by omega
 clear hb;refine aK ?_;refine T0 (hK _ _ _ ?_);clear hK K;refine aB fun K hK=>?_;refine R0 ?_;refine aN ?_;refine bF (α:={i:Nat//i≤a.length∧a.take i=b.take i}) (fun i=>(fin [(0,.c (.slc (a.map Ln.cv))),(1,.c (.slc (b.map Ln.cv))),(5,.c (.int .i64 i.1))],fob [])) 100 (fun i=>a.length-i.1) ⟨0,by omega,by simp⟩ (fF) ?_;rintro⟨i,hi,hpre⟩;refine aB fun K hK=>?_;refine aB fun K hK=>Rg ?_;iterate 4 refine S0 ?_
 refine T2 (hK _ _ _ ?_);clear hK K;refine aH (b:=decide ((i:Int)<a.length)) rfl (fun hb=>?_) (fun hb=>?_)
 ·
  have hlt:i<a.length:=by simpa using hb
  have hlt2:i<b.length:=by omega
  clear hb;have hdi:=hd a[i] (List.getElem_mem hlt);refine aK ?_;refine T0 (hK _ _ _ ?_);clear hK K;refine aB fun K hK=>?_;refine aN ?_;refine aB fun K hK=>DW [(0,[],[]),(1,[],[]),(2,[],[]),(3,[],[]),(4,[],[]),(5,[],[]),(6,[],[]),(7,[],[]),(8,[],[]),(9,[],[]),(10,[],[]),(11,[],[]),(12,[],[]),(13,[],[]),(14,[],[]),(15,[],[]),(16,[],[]),(17,[],[]),(18,[],[]),(19,[],[]),(20,[],[]),(21,[],[]),(22,[],[]),(23,[],[]),(24,[],[]),(25,[],[]),(26,[],[]),(27,[],[]),(28,[],[]),(29,[],[]),(30,[],[]),(31,[],[]),(32,[],[]),(33,[],[]),(34,[],[]),(35,[],[]),(36,[],[]),(37,[],[]),(38,[],[]),(39,[],[]),(40,[],[]),(41,[],[]),(42,[],[]),(43,[],[]),(44,[],[]),(45,[],[]),(46,[],[]),(47,[],[]),(48,[],[]),(49,[],[]),(50,[],[]),(51,[],[])] [0,0,3,7,15,0,0,96,224,480,1023,2047,4095,4095,16383,32767,65535,4095,4095,397311,921599,1970175,4194303,8388607,16777215,33554431,33554431,134217727,268435455,536870911,33554431,33554431,3254779903,7549747199,16139681791,34359738367,68719476735,137438953471,274877906943,549755813887,549755813887,2199023255551,4398046511103,8796093022207,549755813887,549755813887,53326313947135,123695058124799,264432546480127,562949953421311,1125899906842623,2251799813685247] ?_;have F:=aI @Int.natCast_nonneg (aI @Int.ofNat_lt (aI hlt (aI (nM hlt) (aI hlt2 (nM hlt2)))));iterate 12 refine WF ?_
  refine iV 27 rfl (fun h6_27=>?_) (fun h6_27=>?_)
  ·
   have F:=aI @Int.natCast_nonneg (aI @Int.ofNat_lt (aI hlt (aI (nM hlt) (aI hlt2 (aI (nM hlt2) h6_27)))));iterate 40 refine WF ?_
   refine T2 (hK _ _ _ ?_);clear hK K;refine CT rfl ?_;refine R0 ?_;refine aF (RT Tryz.results16 ?_);refine aJ [] (.bool false) rfl ⟨false,rfl,⟨fun h=>(by cases h),?_⟩⟩;rintro rfl;exfalso;first|(simp at h6_27;done)|(simp at h6_39;done)|(simp at h6_52;done)|(simp at h6_66;done)
  have F:=aI @Int.natCast_nonneg (aI @Int.ofNat_lt (aI hlt (aI (nM hlt) (aI hlt2 (aI (nM hlt2) h6_27)))));iterate 13 refine WF ?_
  refine iV 39 rfl (fun h6_39=>?_) (fun h6_39=>?_)
  ·
   have F:=aI @Int.natCast_nonneg (aI @Int.ofNat_lt (aI hlt (aI (nM hlt) (aI hlt2 (aI (nM hlt2) (aI h6_27 h6_39))))));iterate 27 refine WF ?_
   refine T2 (hK _ _ _ ?_);clear hK K;refine CT rfl ?_;refine R0 ?_;refine aF (RT Tryz.results16 ?_);refine aJ [] (.bool false) rfl ⟨false,rfl,⟨fun h=>(by cases h),?_⟩⟩;rintro rfl;exfalso;first|(simp at h6_27;done)|(simp at h6_39;done)|(simp at h6_52;done)|(simp at h6_66;done)
  have F:=aI @Int.natCast_nonneg (aI @Int.ofNat_lt (aI hlt (aI (nM hlt) (aI hlt2 (aI (nM hlt2) (aI h6_27 h6_39))))));iterate 10 refine WF ?_
  refine bL (g:=some (41,false)) rfl rfl fun K' hK'=>T6 ?_;refine C2 (cA6 a[i].d b[i].d hdi.1) ?_;rintro u rfl;refine AX (hK' _ _ ?_);clear hK' K';iterate 3 refine WF ?_
  refine iV 52 rfl (fun h6_52=>?_) (fun h6_52=>?_)
  ·
   have F:=aI @Int.natCast_nonneg (aI @Int.ofNat_lt (aI hlt (aI (nM hlt) (aI hlt2 (aI (nM hlt2) (aI h6_27 (aI h6_39 h6_52)))))));iterate 10 refine WF ?_
   refine bL (g:=some (55,false)) rfl rfl fun K' hK'=>T6 ?_;refine C2 (cA5 a[i].f b[i].f hdi.2) ?_;rintro u rfl;refine AX (hK' _ _ ?_);clear hK' K';iterate 2 refine WF ?_
   refine iV 66 rfl (fun h6_66=>?_) (fun h6_66=>?_)
   · simp only[h6_66];refine T2 (hK _ _ _ ?_);clear hK K;refine CF rfl ?_;refine aK ?_;refine T0 (hK _ _ _ ?_);clear hK K;refine aD (by kernel_rfl) ?_;refine TQ (fA i) ?_;refine⟨⟨i+1,hlt,zI hlt hlt2 hpre (cR4 h6_27 h6_39 h6_52 h6_66)⟩,fF,?_⟩;show a.length-(i+1)<a.length-i;omega
   simp only[h6_66];refine T2 (hK _ _ _ ?_);clear hK K;refine CT rfl ?_;refine R0 ?_;refine aF (RT Tryz.results16 ?_);refine aJ [] (.bool false) rfl ⟨false,rfl,⟨fun h=>(by cases h),?_⟩⟩;rintro rfl;exfalso;first|(simp at h6_27;done)|(simp at h6_39;done)|(simp at h6_52;done)|(simp at h6_66;done)
  have F:=aI @Int.natCast_nonneg (aI @Int.ofNat_lt (aI hlt (aI (nM hlt) (aI hlt2 (aI (nM hlt2) (aI h6_27 (aI h6_39 h6_52)))))));iterate 13 refine WF ?_
  refine T2 (hK _ _ _ ?_);clear hK K;refine CT rfl ?_;refine R0 ?_;refine aF (RT Tryz.results16 ?_);refine aJ [] (.bool false) rfl ⟨false,rfl,⟨fun h=>(by cases h),?_⟩⟩;rintro rfl;exfalso;first|(simp at h6_27;done)|(simp at h6_39;done)|(simp at h6_52;done)|(simp at h6_66;done)
 refine bA (T3 ?_);clear hK K;refine AX (hK _ _ _ ?_);clear hK K;refine R0 ?_;refine aF (RT Tryz.results16 ?_);have hei:i=a.length:=by simp only[decide_eq_false_iff_not]at hb;omega
 subst hei;have hab:a=b:=zJ hlen hpre;exact aJ [] (.bool true) rfl ⟨true,rfl,by simp[hab]⟩
end Go.Proofs.YthedbjfipmkpiaaGreatDoor
