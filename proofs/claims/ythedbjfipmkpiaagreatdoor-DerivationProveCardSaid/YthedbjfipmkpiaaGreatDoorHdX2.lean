/- Part of a proof: walks of functions of the program, by contracts, and the rules they use. By an AI agent. -/
import Derived.Test.YthedbjfipmkpiaaGreatDoorPl31g
import Derived.Test.YthedbjfipmkpiaaGreatDoorHlTop
set_option linter.unusedSimpArgs false
set_option linter.unusedVariables false
set_option linter.defProp false
namespace Go.Proofs.YthedbjfipmkpiaaGreatDoor
open Go Go.Hl Go.Pl
set_option maxRecDepth 10000
set_option maxHeartbeats 16000000
structure Rs where
 i:Nat
 l:List Ln
 x:Option Ln
def Rs.ls (y:Rs):List Ln:=y.l++y.x.toList
structure RI (ws:List (List aL))(y:Rs):Prop where
 le:y.i≤ws.length
 run:iG (ws.take y.i)=some y.ls
 hx:y.x=none→y.l=[]
def rdB (d:Dv)(n:Nat):HV:= .agg [.c d.q.cv,.c (.int .i64 d.t),.c (dg d.p),.c (.int .i64 d.r),.c d.o.cv,.own 12 n]
def rdE (x:Ln)(N:Nat):HV:= .agg [.c (.int .i64 x.k),.c (.int .i64 x.n),.own N x.d.length,.c (.slc (x.f.map (CV.int .i64)))]
def hpC (d:Dv)(L:List Ln):List (Nat×HO):=[(0,.box 50 (.c dv0.cv)),(28,.box 50 (rdB d L.length)),(12,.hrow 41 4 (L.map fun z=>HV.c z.cv))]
def hpO (d:Dv)(l:List Ln)(x:Ln)(N:Nat):List (Nat×HO):=[(0,.box 50 (.c dv0.cv)),(28,.box 50 (rdB d (l.length+1))),(12,.hrow 41 4 ((l.map fun z=>HV.c z.cv)++[rdE x N])),(N,.row 44 32 (x.d.map dg))]
def Rs.hp (d:Dv)(y:Rs):List (Nat×HO):=match y.x with
 |none=>hpC d []
 |some x=>hpO d y.l x 66
theorem aD5 (ob:Ob)(cl:List Nat): ∀l:List Ln,HV.closeL ob cl (l.map fun z=>HV.c z.cv)=l.map fun z=>HV.c z.cv
 |[]=>rfl
 |x::l=>by rw[List.map_cons,HV.closeL,aD5 ob cl l,HV.close,Ln.denil];rfl
theorem yA (ob:Ob)(cl:List Nat): ∀a b:List HV,HV.closeL ob cl (a++b)=HV.closeL ob cl a++HV.closeL ob cl b
 |[],b=>rfl
 |x::a,b=>by simp only[List.cons_append,HV.closeL,yA ob cl a b]
theorem mO : ∀l:List Ln,HV.toCL (l.map fun z=>HV.c z.cv)=some (l.map Ln.cv)
 |[]=>rfl
 |x::l=>by rw[List.map_cons,HV.toCL,mO l];rfl
theorem dF {M:Nat→Prop}(l:List Ln):HV.menL M (l.map fun z=>HV.c z.cv):=by
 have:=HV.menL_c (M:=M) (l:=l.map Ln.cv)
 rwa [List.map_map]at this
theorem aH7 (M:Nat→Nat): ∀l:List Ln,HV.renL M (l.map fun z=>HV.c z.cv)=l.map fun z=>HV.c z.cv
 |[]=>rfl
 |x::l=>by rw[List.map_cons,HV.renL,aH7 M l];rfl
theorem yB (M:Nat→Nat): ∀a b:List HV,HV.renL M (a++b)=HV.renL M a++HV.renL M b
 |[],b=>rfl
 |x::a,b=>by simp only[List.cons_append,HV.renL,yB M a b]
theorem cQ (l:List Ln)(x:HV):oZ ((l.map fun z=>HV.c z.cv)++[x]) l.length=x:=by
 have:=bE4 (l.map fun z=>HV.c z.cv) x
 rwa [List.length_map]at this
theorem oB (l:List Ln)(x y:HV):((l.map fun z=>HV.c z.cv)++[x]).set l.length y=(l.map fun z=>HV.c z.cv)++[y]:=by
 rw[List.set_append_right _ _ (by simp)];simp
theorem bW0 (w:List aL):(lsC w).denil=lsC w:=by simp[lsC,CV.denil,denilL_str]
theorem aD6 :dv0.cv.denil=dv0.cv:=Dv.denil _
theorem lW {n:Nat}{code:Code}{Q:Exit→Fr→Ob→Nat→Prop}{F:List (Nat×HV)}{d:Dv}{y:Rs}(hx:y.x=none→y.l=[])(hF:aW 20200 (clF (fob (y.hp d)) [66] (fin F)) F)(h:Hw Tryz.prog n 0 code Q (fin F) (fob (hpC d y.ls)) 20200):Hw Tryz.prog n 0 code Q (fin F) (fob (y.hp d)) 20100:=by
 obtain⟨i,l,x⟩:=y;cases x with
 |none=>
  obtain rfl:l=[]:=hx rfl;refine fC [66] (bO (aM (by omega) hF ?_) h);simp[aX,Rs.hp,Rs.ls,hpC,gZ,fob_at,rdB,HO.close,HV.close,HV.closeL,HV.norm,HV.toC,HV.toCL,Qs.denil,Og.denil,dg_denil,aD6,CV.denil,HO.men,HV.men,HV.menL]
 |some x=>
  refine fC [66] (bO (aM (by omega) hF ?_) h);simp[aX,Rs.hp,Rs.ls,hpC,hpO,gZ,fob_at,rdB,rdE,HO.close,HV.close,HV.closeL,yA,aD5,HV.norm,HV.toC,HV.toCL,Qs.denil,Og.denil,dg_denil,aD6,CV.denil,denilL_dg,denilL_int,HO.men,HV.men,HV.menL,HV.menL_append,dF,aM8];rfl
theorem oT {ls:List (List aL)}{ob:Ob}{r:HV}{d:Dv}{L:List Ln}{b:Bool}(hr:r= .tup [rdB d L.length,.c (.bool b)])(h12:ob 12=some (.row 41 4 (L.map Ln.cv)))(hs:(gM ls).isSome=b)(hd: ∀x,gM ls=some x→x={d with l:=L}):
  iK 0 r ob (fun r ob'=> ∃u v,r= .tup [.c u,.c v]∧(v= .bool (gM ls).isSome∧ ∃x:Dv,u=x.cv∧ ∀d,gM ls=some d→x=d)∧ob'=cZ):=by
 subst hr;refine bF [12] ({d with l:=L}:Dv).cv (.bool b) ?_ ⟨by rw[hs],_,rfl,fun x hx=>(hd x hx).symm⟩;simp[rdB,HV.close,HV.closeL,CV.denil,HV.norm,HV.toC,HV.toCL,Dv.cv,Qs.denil,Og.denil,dg_denil,h12,denilL_Ln]
theorem cE6 (ls:List (List aL))(hl:ls.length<2^38)(hn: ∀l∈ls,0<l.length∧l.length<2^38)(hb: ∀l∈ls,∀w∈l,w.length<2^40):iA Tryz.prog 62 [.slc (ls.map lsC)] (fun u v=>v= .bool (gM ls).isSome∧ ∃x:Dv,u=x.cv∧ ∀d,gM ls=some d→x=d):=by
 refine bQ Tryz.func62 rfl (by kernel_rfl) (cR _) (Nat.le_of_ble_eq_true rfl) ?_;refine aC fun K hK=>aD (by kernel_rfl) ?_;simp (maxSteps:=4000000) only[↓sP,sA,tyS,simprocAttr];repeat refine AI ?_
 refine hK _ _ _ ?_;clear hK K;refine aC fun K hK=>aD (by kernel_rfl) ?_;simp only[sR,simprocAttr];refine aE (g:=none) rfl rfl fun K' hK'=>?_;simp (maxSteps:=4000000) only[sH,↓sP,sA,tyS,simprocAttr];repeat refine AI ?_
 refine hK' _ _ ?_;clear hK' K';refine aE (g:=none) rfl rfl fun K' hK'=>?_;simp (maxSteps:=4000000) only[sH,↓sP,sA,tyS,simprocAttr];rw[show CV.denilL (ls.map lsC)=ls.map lsC from bY (fun w=>by simp[lsC,CV.denil,denilL_str]) ls];refine eQ [] (head_ok ls hb) rfl trivial (by simp) (by simp) ⟨rfl,rfl,rfl,rfl⟩ (by simp[dL]) (by simp[HV.menL,HV.men]) ?_;rintro u os' ⟨x,hxl,rfl,rfl,hxx⟩;simp only[HV.ren,HV.renL,iV,HO.ren,List.map_nil,Nat.zero_add,show sub [] 12 0=12 from rfl];repeat refine AI ?_
 refine hK' _ _ ?_;clear hK' K';iterate 6
  (refine aE (g:=none) rfl rfl fun K' hK'=>?_;simp only[sH,↓sP,sA,tyS,simprocAttr];(repeat refine AI ?_);refine hK' _ _ ?_;clear hK' K')
 simp only[sE,↓reduceIte,simprocAttr];repeat refine AI ?_
 refine hK _ _ _ ?_;clear hK K;refine aC fun K hK=>?_;refine aC fun K hK=>aD (by kernel_rfl) ?_;simp (maxSteps:=4000000) only[↓sP,sA,tyS,simprocAttr];repeat refine AI ?_
 refine hK _ _ _ ?_;clear hK K;refine aJ (b:=!(gW ls).isSome) rfl (fun hb=>?_) (fun hb=>?_)
 ·
  have hrn:gM ls=none:=by
   rw[qJ];cases h:gW ls with
   |none=>rfl
   |some d=>rw[h]at hb;cases hb
  refine aC fun K hK=>aD (by kernel_rfl) ?_;simp (maxSteps:=4000000) only[↓sP,sA,tyS,simprocAttr];repeat refine AI ?_
  refine hK _ _ _ ?_;clear hK K
  skip
  refine aH ?_;simp (maxSteps:=4000000) only[bK,Tryz.results62,bH,bJ,bG,↓sP,sA,tyS,simprocAttr];refine⟨rfl,?_⟩;refine bF [12] ({x with l:=[]}:Dv).cv (.bool false) ?_ ⟨by rw[hrn];rfl,_,rfl,fun d hd=>by rw[hrn]at hd;cases hd⟩;simp[HV.close,HV.closeL,CV.denil,HV.norm,HV.toC,HV.toCL,Dv.cv,Qs.denil,Og.denil,dg_denil,fob_at,upd_at]
 obtain⟨d,hhd⟩:=Option.isSome_iff_exists.1 (show(gW ls).isSome=true by simpa using hb);obtain rfl:=hxx d hhd;clear hxx hb;have h2:2≤ls.length:=by
  unfold gW at hhd;split at hhd
  · cases hhd
  omega
 have hdr:List.drop 2 (ls.map lsC)=(ls.drop 2).map lsC:=by rw[List.map_drop]
 have htk:List.take (ls.length-2) ((ls.drop 2).map lsC)=(ls.drop 2).map lsC:=List.take_of_length_le (by simp);have hwl:ls.length-2=(ls.drop 2).length:=by simp
 have hrd:=qJ ls;rw[hhd]at hrd;simp only[Option.bind_some]at hrd;have hn2: ∀l∈ls.drop 2,0<l.length∧l.length<2^38:=fun l h=>hn l (List.drop_subset _ _ h);have hb2: ∀l∈ls.drop 2,∀w∈l,w.length<2^40:=fun l h=>hb l (List.drop_subset _ _ h);have hcl: ∀v∈ls.map lsC,v.cells=1:=by intro v hv;obtain⟨w,_,rfl⟩:=List.mem_map.1 hv;rfl
 refine aN ?_;simp (maxSteps:=4000000) only[↓sP,sA,tyS,simprocAttr];repeat refine AI ?_
 refine hK _ _ _ ?_;clear hK K;refine aC fun K hK=>?_;refine aC fun K hK=>aD (by kernel_rfl) ?_;simp only[sR,simprocAttr];iterate 4
  (refine aE (g:=none) rfl rfl fun K' hK'=>?_;simp only[sH,↓sP,sA,tyS,simprocAttr,List.length_map,hdr,htk];(repeat refine AI ?_);refine hK' _ _ ?_;clear hK' K')
 simp only[sE,↓reduceIte,simprocAttr];repeat refine AI ?_
 refine hK _ _ _ ?_;clear hK K;refine aO ?_;obtain⟨ws,hws⟩: ∃ws,ws=ls.drop 2:=⟨_,rfl⟩;rw[←hws]at hdr htk hwl hrd hn2 hb2⊢;refine cA6 12 rfl ?_;refine fC [] ?_;refine bP (α:={y:Rs//RI ws y}) (fun y=>(fin [(2,.ptr 0 0),(4,.ptr 28 0),(22,.c (.slc (ws.map lsC))),(23,.c (.int .i64 ws.length)),(24,.c (.int .i64 y.1.i))],fob (y.1.hp d))) 20000 (fun y=>ws.length-y.1.i) ⟨⟨0,[],none⟩,⟨Nat.zero_le _,rfl,fun _=>rfl⟩⟩ (by simp only[Rs.hp,hpC];exact aM (by omega) (by simp[aW,fin_at,finA_at,upd_at,HV.men,HV.menL,HV.norm,HV.toC,HV.toCL,fJ,gZ,HO.close,HV.close,HV.closeL,CV.denil,CV.denilL,fY,rdB,Qs.denil,Og.denil,dg_denil,hwl,nP,(show CV.agg [CV.agg [CV.str [],CV.str [],zd],CV.int IntKind.i64 0,zd,CV.int IntKind.i64 0,CV.agg [zd,CV.str [],CV.str []],CV.slc []]=dv0.cv from rfl)]) (by simp[aX,fob_at,upd_at,none0_at,bI,HO.men,HV.men,HV.menL,HV.norm,HV.toC,HV.toCL,fJ,gZ,HO.close,HV.close,HV.closeL,CV.denil,CV.denilL,fY,rdB,Qs.denil,Og.denil,dg_denil,hwl,nP,(show CV.agg [CV.agg [CV.str [],CV.str [],zd],CV.int IntKind.i64 0,zd,CV.int IntKind.i64 0,CV.agg [zd,CV.str [],CV.str []],CV.slc []]=dv0.cv from rfl)])) ?_;rintro⟨⟨i,l,z⟩,hy⟩;have hy1:=hy.le;have hrun:=hy.run;have hyx:=hy.hx;simp only at hy1 hrun hyx⊢;clear hy;refine aC fun K hK=>aD (by kernel_rfl) ?_;simp (maxSteps:=4000000) only[↓sP,sA,tyS,simprocAttr,List.length_map];repeat refine AI ?_
 refine hK _ _ _ ?_;clear hK K;refine aC fun K hK=>?_;refine aJ (b:=decide ((i:Int)<ws.length)) rfl (fun hb=>?_) (fun hb=>?_)
 ·
  have hlt:i<ws.length:=by simpa using hb
  have hw:=hn2 _ (List.getElem_mem hlt);have hlen:=tV hy1 hrun;clear hb;refine aN ?_;simp (maxSteps:=4000000) only[↓sP,sA,tyS,simprocAttr];repeat refine AI ?_
  refine hK _ _ _ ?_;clear hK K;refine aC fun K hK=>?_;refine aO ?_;refine aC fun K hK=>aD (by kernel_rfl) ?_;simp (maxSteps:=4000000) only[↓sP,sA,tyS,simprocAttr,Int.natCast_nonneg,Int.ofNat_lt,hlt,aU hlt,List.length_map,bJ9,bW0,Int.toNat_natCast,lsC];repeat refine AI ?_
  refine hK _ _ _ ?_;clear hK K;refine aC fun K hK=>?_;refine aC fun K hK=>aD (by kernel_rfl) ?_;simp only[sR,simprocAttr];iterate 4
   (refine aE (g:=none) rfl rfl fun K' hK'=>?_;simp only[sH,↓sP,sA,tyS,simprocAttr,List.length_map,gE hw.1,Int.toNat_zero];(repeat refine AI ?_);refine hK' _ _ ?_;clear hK' K')
  simp only[sE,↓reduceIte,simprocAttr];repeat refine AI ?_
  refine hK _ _ _ ?_;clear hK K;refine aJ (b:=!(wd ws[i] 0==pC)) rfl (fun hb=>?_) (fun hb=>?_)
  ·
   have hnd:wd ws[i] 0≠pC:=by simpa using hb
   clear hb;refine bO (fr2:=fin [(2,.ptr 0 0),(4,.ptr 28 0),(7,.c (.slc (ws[i].map .str))),(22,.c (.slc (ws.map lsC))),(23,.c (.int .i64 ws.length)),(24,.c (.int .i64 i))]) (ob2:=fob (Rs.hp d ⟨i,l,z⟩)) (nx2:=20100) (by cases z<;>simp only[Rs.hp,hpC,hpO]<;>exact aM (by omega) (by simp[aW,fin_at,finA_at,upd_at,HV.men,HV.menL,HV.norm,HV.toC,HV.toCL,rdB,rdE,HV.menL_append,dF]) (by simp[aX,fob_at,upd_at,none0_at,bI,HO.men,HV.men,HV.menL,HV.norm,HV.toC,HV.toCL,rdB,rdE,HV.menL_append,dF])) ?_;refine lW (y:=⟨i,l,z⟩) hyx (by simp[aW,fJ,fin_at,HV.close,HV.closeL,HV.norm,HV.toC,HV.men,CV.denil,denilL_str,fY]) ?_;obtain⟨L,hL⟩: ∃L,L=Rs.ls ⟨i,l,z⟩:=⟨_,rfl⟩;rw[←hL]at hrun hlen⊢;simp only[hpC];clear hL hyx;refine aC fun K hK=>aD (by kernel_rfl) ?_;simp only[sR,simprocAttr];refine aE (g:=none) rfl rfl fun K' hK'=>?_;simp (maxSteps:=4000000) only[sH,↓sP,sA,tyS,simprocAttr];repeat refine AI ?_
   refine hK' _ _ ?_;clear hK' K';refine aE (g:=none) rfl rfl fun K' hK'=>?_;simp (maxSteps:=4000000) only[sH,↓sP,sA,tyS,simprocAttr];refine eQ [] (cE4 ws[i] hw.2 hw.1) rfl trivial (by simp) (by simp) ⟨rfl,rfl,rfl,rfl⟩ (by simp[dL]) (by simp[HV.menL,HV.men]) ?_;rintro u os' ⟨k,n,f,rfl,rfl,hk⟩;simp only[HV.ren,HV.renL,iV,HO.ren,List.map_nil,Nat.zero_add,show sub [] 20204 0=20204 from rfl];repeat refine AI ?_
   refine hK' _ _ ?_;clear hK' K';iterate 6
    (refine aE (g:=none) rfl rfl fun K' hK'=>?_;simp only[sH,↓sP,sA,tyS,simprocAttr];(repeat refine AI ?_);refine hK' _ _ ?_;clear hK' K')
   simp only[sE,↓reduceIte,simprocAttr];repeat refine AI ?_
   refine hK _ _ _ ?_;clear hK K;refine aC fun K hK=>?_;refine aC fun K hK=>aD (by kernel_rfl) ?_;simp (maxSteps:=4000000) only[↓sP,sA,tyS,simprocAttr];repeat refine AI ?_
   refine hK _ _ _ ?_;clear hK K;refine aJ (b:=!(fD ws[i]).isSome) rfl (fun hb=>?_) (fun hb=>?_)
   ·
    have hno:gM ls=none:=by
     rw[hrd,kE hlt hrun]
     · rfl
     rw[xZ hnd];cases h:fD ws[i]with
     |none=>rfl
     |some x=>rw[h]at hb;cases hb
    refine aC fun K hK=>aD (by kernel_rfl) ?_;simp (maxSteps:=4000000) only[↓sP,sA,tyS,simprocAttr,rdB];repeat refine AI ?_
    refine hK _ _ _ ?_;clear hK K;refine oM 12 (L.map Ln.cv) rfl (mO L) ?_;refine aH ?_;simp (maxSteps:=4000000) only[bK,Tryz.results62,bH,bJ,bG,↓sP,sA,tyS,simprocAttr];refine⟨rfl,?_⟩;exact oT (d:=d) (L:=L) rfl rfl (by rw[hno];rfl) (fun x hx=>by rw[hno]at hx;cases hx)
   obtain⟨q,hq⟩:=Option.isSome_iff_exists.1 (show(fD ws[i]).isSome=true by simpa using hb);obtain rfl:=hk q hq;clear hb hk;have hstep:eN L ws[i]=some (L++[⟨k,n,[],f⟩]):=by rw[xZ hnd,hq];rfl
   refine aN ?_;simp (maxSteps:=4000000) only[↓sP,sA,tyS,simprocAttr];repeat refine AI ?_
   refine hK _ _ _ ?_;clear hK K;refine aC fun K hK=>cH (by kernel_rfl) ?_;simp only[sR,simprocAttr];iterate 3
    (refine aZ (g:=none) rfl rfl fun K' hK'=>?_;simp only[sH,↓sP,sA,tyS,simprocAttr,rdB,List.length_map,List.length_nil];(repeat refine AI ?_);refine hK' _ _ ?_;clear hK' K')
   refine dA (g:=none) rfl rfl fun K' hK'=>?_;simp (maxSteps:=4000000) only[sN,↓hopH.eq_def,sH,↓sP,sA,tyS,simprocAttr,rdB,List.length_map,List.length_nil];repeat refine AI ?_
   refine hK' _ _ ?_;clear hK' K';refine dA (g:=none) rfl rfl fun K' hK'=>?_;simp (maxSteps:=4000000) only[sN,↓hopH.eq_def,sH,↓sP,sA,tyS,simprocAttr,rdB,List.length_map,List.length_nil];repeat refine AI ?_
   refine hK' _ _ ?_;clear hK' K';iterate 2
    (refine aZ (g:=none) rfl rfl fun K' hK'=>?_;simp only[sH,↓sP,sA,tyS,simprocAttr,rdB,List.length_map,List.length_nil];(repeat refine AI ?_);refine hK' _ _ ?_;clear hK' K')
   simp only[sE,↓reduceIte,simprocAttr];repeat refine AI ?_
   refine hK _ _ _ ?_;clear hK K;refine bB ?_;simp (maxSteps:=4000000) only[↓sP,sA,tyS,simprocAttr];clear hK K;repeat refine AI ?_
   refine hK _ _ _ ?_;clear hK K;refine cM6 20204 66 20400 [(2,.ptr 0 0),(4,.ptr 28 0),(22,.c (.slc (ws.map lsC))),(23,.c (.int .i64 ws.length)),(24,.c (.int .i64 i))] (hpO d L ⟨k,n,[],f⟩ 20204) (by simp[aW,fin_at,finA_at,upd_at,HV.men,HV.menL]) (by simp[hpO,rdB,rdE,aX,fob_at,upd_at,none0_at,bI,HO.men,HV.men,HV.menL,HV.menL_append,dF]) (by omega) (by omega) (by omega) (by omega) (by omega) (by omega) (by omega) (by simp[HV.men]) (by simp[hpO,rdB,rdE,HO.men,HV.men,HV.menL,HV.menL_append,dF]) (bO (fr2:=fin [(2,.ptr 0 0),(4,.ptr 28 0),(22,.c (.slc (ws.map lsC))),(23,.c (.int .i64 ws.length)),(24,.c (.int .i64 i))]) (ob2:=fob (hpO d L ⟨k,n,[],f⟩ 66)) (nx2:=20500) (by simp only[hpO];exact aM (by omega) (by simp[aW,fin_at,finA_at,upd_at,HV.men,HV.menL,HV.norm,HV.toC,HV.toCL,mvF,mvO,mvN,HV.ren,HO.ren,HV.renL,yB,aH7,HV.menL_append,dF,rdB,rdE]) (by simp[aX,fob_at,upd_at,none0_at,bI,HO.men,HV.men,HV.menL,HV.norm,HV.toC,HV.toCL,mvF,mvO,mvN,HV.ren,HO.ren,HV.renL,yB,aH7,HV.menL_append,dF,rdB,rdE])) ?_);simp only[hpO];refine aD (by kernel_rfl) ?_;simp (maxSteps:=4000000) only[↓sP,sA,tyS,simprocAttr,(show IntKind.i64.wrap ((i:Int)+1)=((i+1:Nat):Int)from by rw[IntWalk.i64_in _ (by omega)];rfl)];refine⟨⟨⟨i+1,L,some ⟨k,n,[],f⟩⟩,⟨hlt,?_,fun h=>by cases h⟩⟩,?_,?_⟩
   · show iG (ws.take (i+1))=some (Rs.ls ⟨i+1,L,some ⟨k,n,[],f⟩⟩);rw[kD hlt hrun];exact hstep
   · simp only[Rs.hp,hpO];exact aM (by omega) (by simp[aW,fin_at,finA_at,upd_at,HV.men,HV.menL,HV.norm,HV.toC,HV.toCL,rdB,rdE,HV.menL_append,dF]) (by simp[aX,fob_at,upd_at,none0_at,bI,HO.men,HV.men,HV.menL,HV.norm,HV.toC,HV.toCL,rdB,rdE,HV.menL_append,dF])
   show ws.length-(i+1)<ws.length-i;omega
  have hdc:wd ws[i] 0=pC:=by simpa using hb
  clear hb;refine aN ?_;simp (maxSteps:=4000000) only[↓sP,sA,tyS,simprocAttr];repeat refine AI ?_
  refine hK _ _ _ ?_;clear hK K;by_cases hzn:z=none
  ·
   subst hzn;obtain rfl:l=[]:=hyx rfl;simp only[Rs.hp,hpC];have hno:gM ls=none:=by rw[hrd,kE hlt hrun (aP6 hdc)];rfl
   refine aC fun K hK=>cH (by kernel_rfl) ?_;simp only[sR,simprocAttr];iterate 2
    (refine aZ (g:=none) rfl rfl fun K' hK'=>?_;simp only[sH,↓sP,sA,tyS,simprocAttr,rdB,List.length_nil,List.map_nil,(show IntKind.i64.wrap (((0:Nat):Int)-1)= -1 from rfl),(show IntKind.i64.wrap (-1)= -1 from rfl)];(repeat refine AI ?_);refine hK' _ _ ?_;clear hK' K')
   refine dA (g:=none) rfl rfl fun K' hK'=>?_;simp (maxSteps:=4000000) only[sN,↓hopH.eq_def,sH,↓sP,sA,tyS,simprocAttr,rdB,List.length_nil,List.map_nil,(show IntKind.i64.wrap (((0:Nat):Int)-1)= -1 from rfl),(show IntKind.i64.wrap (-1)= -1 from rfl)];repeat refine AI ?_
   refine hK' _ _ ?_;clear hK' K';iterate 2
    (refine aZ (g:=none) rfl rfl fun K' hK'=>?_;simp only[sH,↓sP,sA,tyS,simprocAttr,rdB,List.length_nil,List.map_nil,(show IntKind.i64.wrap (((0:Nat):Int)-1)= -1 from rfl),(show IntKind.i64.wrap (-1)= -1 from rfl)];(repeat refine AI ?_);refine hK' _ _ ?_;clear hK' K')
   simp only[sE,↓reduceIte,simprocAttr];repeat refine AI ?_
   refine hK _ _ _ ?_;clear hK K;refine aC fun K hK=>?_;refine aC fun K hK=>cH (by kernel_rfl) ?_;simp only[sR,simprocAttr];iterate 3
    (refine aZ (g:=none) rfl rfl fun K' hK'=>?_;simp only[sH,↓sP,sA,tyS,simprocAttr,(show decide ((-1:Int)<0)=true from rfl),(show((-1:Int)<0)=True from by simp),(show IntKind.i64.wrap (-1)= -1 from rfl),↓reduceIte];(repeat refine AI ?_);refine hK' _ _ ?_;clear hK' K')
   iterate 7
    (refine aZ (g:=some (52,false)) rfl rfl fun K' hK'=>?_;simp only[sH,↓sP,sA,tyS,simprocAttr,(show decide ((-1:Int)<0)=true from rfl),(show((-1:Int)<0)=True from by simp),(show IntKind.i64.wrap (-1)= -1 from rfl),↓reduceIte];(repeat refine AI ?_);refine hK' _ _ ?_;clear hK' K')
   iterate 2
    (refine aZ (g:=none) rfl rfl fun K' hK'=>?_;simp only[sH,↓sP,sA,tyS,simprocAttr,(show decide ((-1:Int)<0)=true from rfl),(show((-1:Int)<0)=True from by simp),(show IntKind.i64.wrap (-1)= -1 from rfl),↓reduceIte];(repeat refine AI ?_);refine hK' _ _ ?_;clear hK' K')
   iterate 3
    (refine aZ (g:=some (61,false)) rfl rfl fun K' hK'=>?_;simp only[sH,↓sP,sA,tyS,simprocAttr,(show decide ((-1:Int)<0)=true from rfl),(show((-1:Int)<0)=True from by simp),(show IntKind.i64.wrap (-1)= -1 from rfl),↓reduceIte];(repeat refine AI ?_);refine hK' _ _ ?_;clear hK' K')
   refine aZ (g:=none) rfl rfl fun K' hK'=>?_;simp (maxSteps:=4000000) only[sH,↓sP,sA,tyS,simprocAttr,(show decide ((-1:Int)<0)=true from rfl),(show((-1:Int)<0)=True from by simp),(show IntKind.i64.wrap (-1)= -1 from rfl),↓reduceIte];repeat refine AI ?_
   refine hK' _ _ ?_;clear hK' K';simp only[sE,↓reduceIte,simprocAttr];repeat refine AI ?_
   refine hK _ _ _ ?_;clear hK K;refine aJ (b:=true) rfl (fun hb=>?_) (fun hb=>?_)
   ·
    refine bO (fr2:=fin [(2,.ptr 0 0),(4,.ptr 28 0)]) (ob2:=fob (Rs.hp d ⟨i,[],none⟩)) (nx2:=20100) (by simp only[Rs.hp,hpC];exact aM (by omega) (by simp[aW,fin_at,finA_at,upd_at,HV.men,HV.menL,HV.norm,HV.toC,HV.toCL,rdB,rdE,HV.menL_append,dF]) (by simp[aX,fob_at,upd_at,none0_at,bI,HO.men,HV.men,HV.menL,HV.norm,HV.toC,HV.toCL,rdB,rdE,HV.menL_append,dF])) ?_;refine lW (y:=⟨i,[],none⟩) (fun _=>rfl) (by simp[aW,fJ,fin_at,HV.close,HV.closeL,HV.norm,HV.toC,HV.men,CV.denil]) ?_;obtain⟨L,hL⟩: ∃L,L=Rs.ls ⟨i,[],none⟩:=⟨_,rfl⟩;rw[←hL];simp only[hpC];refine aC fun K hK=>aD (by kernel_rfl) ?_;simp (maxSteps:=4000000) only[↓sP,sA,tyS,simprocAttr,rdB];repeat refine AI ?_
    refine hK _ _ _ ?_;clear hK K;refine oM 12 (L.map Ln.cv) rfl (mO L) ?_;refine aH ?_;simp (maxSteps:=4000000) only[bK,Tryz.results62,bH,bJ,bG,↓sP,sA,tyS,simprocAttr];refine⟨rfl,?_⟩;exact oT (d:=d) (L:=L) rfl rfl (by rw[hno];rfl) (fun x hx=>by rw[hno]at hx;cases hx)
   cases hb
  obtain⟨q,rfl⟩:=Option.ne_none_iff_exists'.1 hzn;clear hzn hyx;simp only[Rs.hp,hpO];have hql:=hlen.2 q (by simp[Rs.ls]);have hll:l.length+1≤i:=by have:=hlen.1;simpa[Rs.ls]using this
  refine aC fun K hK=>cH (by kernel_rfl) ?_;simp only[sR,simprocAttr];iterate 2
   (refine aZ (g:=none) rfl rfl fun K' hK'=>?_;simp only[sH,↓sP,sA,tyS,simprocAttr,rdB,List.length_append,List.length_map,List.length_cons,List.length_nil,Nat.zero_add,(show IntKind.i64.wrap (((l.length+1:Nat):Int)-1)=(l.length:Int)from by rw[IntWalk.i64_in _ (by omega)];omega)];(repeat refine AI ?_);refine hK' _ _ ?_;clear hK' K')
  refine dA (g:=none) rfl rfl fun K' hK'=>?_;simp (maxSteps:=4000000) only[sN,↓hopH.eq_def,sH,↓sP,sA,tyS,simprocAttr,rdB,List.length_append,List.length_map,List.length_cons,List.length_nil,Nat.zero_add,(show IntKind.i64.wrap (((l.length+1:Nat):Int)-1)=(l.length:Int)from by rw[IntWalk.i64_in _ (by omega)];omega)];repeat refine AI ?_
  refine hK' _ _ ?_;clear hK' K';iterate 2
   (refine aZ (g:=none) rfl rfl fun K' hK'=>?_;simp only[sH,↓sP,sA,tyS,simprocAttr,rdB,List.length_append,List.length_map,List.length_cons,List.length_nil,Nat.zero_add,(show IntKind.i64.wrap (((l.length+1:Nat):Int)-1)=(l.length:Int)from by rw[IntWalk.i64_in _ (by omega)];omega)];(repeat refine AI ?_);refine hK' _ _ ?_;clear hK' K')
  simp only[sE,↓reduceIte,simprocAttr];repeat refine AI ?_
  refine hK _ _ _ ?_;clear hK K;refine aC fun K hK=>?_;by_cases hk:q.k=1
  ·
   have hkf:(q.k !=1)=false:=by rw[hk];rfl
   refine aC fun K hK=>cH (by kernel_rfl) ?_;simp only[sR,simprocAttr];iterate 3
    (refine aZ (g:=none) rfl rfl fun K' hK'=>?_;simp only[sH,↓sP,sA,tyS,simprocAttr,rdB,rdE,(show decide ((l.length:Int)<0)=false from decide_eq_false (by omega)),cQ,List.length_append,List.length_map,List.length_cons,List.length_nil,Nat.zero_add,Int.natCast_nonneg,Int.ofNat_lt,Nat.lt_succ_self,Int.toNat_natCast,hkf];(repeat refine AI ?_);refine hK' _ _ ?_;clear hK' K')
   iterate 3
    (refine aZ (g:=some (52,false)) rfl rfl fun K' hK'=>?_;simp only[sH,↓sP,sA,tyS,simprocAttr,rdB,rdE,(show decide ((l.length:Int)<0)=false from decide_eq_false (by omega)),cQ,List.length_append,List.length_map,List.length_cons,List.length_nil,Nat.zero_add,Int.natCast_nonneg,Int.ofNat_lt,Nat.lt_succ_self,Int.toNat_natCast,hkf];(repeat refine AI ?_);refine hK' _ _ ?_;clear hK' K')
   refine dA (g:=some (52,false)) rfl rfl fun K' hK'=>?_;simp (maxSteps:=4000000) only[sN,↓hopH.eq_def,sH,↓sP,sA,tyS,simprocAttr,rdB,rdE,(show decide ((l.length:Int)<0)=false from decide_eq_false (by omega)),cQ,List.length_append,List.length_map,List.length_cons,List.length_nil,Nat.zero_add,Int.natCast_nonneg,Int.ofNat_lt,Nat.lt_succ_self,Int.toNat_natCast,hkf];repeat refine AI ?_
   refine hK' _ _ ?_;clear hK' K';refine dA (g:=some (52,false)) rfl rfl fun K' hK'=>?_;simp (maxSteps:=4000000) only[sN,↓hopH.eq_def,sH,↓sP,sA,tyS,simprocAttr,rdB,rdE,(show decide ((l.length:Int)<0)=false from decide_eq_false (by omega)),cQ,List.length_append,List.length_map,List.length_cons,List.length_nil,Nat.zero_add,Int.natCast_nonneg,Int.ofNat_lt,Nat.lt_succ_self,Int.toNat_natCast,hkf];repeat refine AI ?_
   refine hK' _ _ ?_;clear hK' K';refine dA (g:=some (52,false)) rfl rfl fun K' hK'=>?_;simp (maxSteps:=4000000) only[sN,↓hopH.eq_def,sH,↓sP,sA,tyS,simprocAttr,rdB,rdE,(show decide ((l.length:Int)<0)=false from decide_eq_false (by omega)),cQ,List.length_append,List.length_map,List.length_cons,List.length_nil,Nat.zero_add,Int.natCast_nonneg,Int.ofNat_lt,Nat.lt_succ_self,Int.toNat_natCast,hkf];repeat refine AI ?_
   refine hK' _ _ ?_;clear hK' K';refine aZ (g:=some (52,false)) rfl rfl fun K' hK'=>?_;simp (maxSteps:=4000000) only[sH,↓sP,sA,tyS,simprocAttr,rdB,rdE,(show decide ((l.length:Int)<0)=false from decide_eq_false (by omega)),cQ,List.length_append,List.length_map,List.length_cons,List.length_nil,Nat.zero_add,Int.natCast_nonneg,Int.ofNat_lt,Nat.lt_succ_self,Int.toNat_natCast,hkf];repeat refine AI ?_
   refine hK' _ _ ?_;clear hK' K';iterate 2
    (refine aZ (g:=none) rfl rfl fun K' hK'=>?_;simp only[sH,↓sP,sA,tyS,simprocAttr,rdB,rdE,(show decide ((l.length:Int)<0)=false from decide_eq_false (by omega)),cQ,List.length_append,List.length_map,List.length_cons,List.length_nil,Nat.zero_add,Int.natCast_nonneg,Int.ofNat_lt,Nat.lt_succ_self,Int.toNat_natCast,hkf];(repeat refine AI ?_);refine hK' _ _ ?_;clear hK' K')
   iterate 3
    (refine aZ (g:=some (61,false)) rfl rfl fun K' hK'=>?_;simp only[sH,↓sP,sA,tyS,simprocAttr,rdB,rdE,(show decide ((l.length:Int)<0)=false from decide_eq_false (by omega)),cQ,List.length_append,List.length_map,List.length_cons,List.length_nil,Nat.zero_add,Int.natCast_nonneg,Int.ofNat_lt,Nat.lt_succ_self,Int.toNat_natCast,hkf];(repeat refine AI ?_);refine hK' _ _ ?_;clear hK' K')
   refine aZ (g:=none) rfl rfl fun K' hK'=>?_;simp (maxSteps:=4000000) only[sH,↓sP,sA,tyS,simprocAttr,rdB,rdE,(show decide ((l.length:Int)<0)=false from decide_eq_false (by omega)),cQ,List.length_append,List.length_map,List.length_cons,List.length_nil,Nat.zero_add,Int.natCast_nonneg,Int.ofNat_lt,Nat.lt_succ_self,Int.toNat_natCast,hkf];repeat refine AI ?_
   refine hK' _ _ ?_;clear hK' K';simp only[sE,↓reduceIte,simprocAttr];repeat refine AI ?_
   refine hK _ _ _ ?_;clear hK K;refine aJ (b:=((ws[i].length:Int) !=2)) rfl (fun hb=>?_) (fun hb=>?_)
   ·
    have hw2:ws[i].length≠2:=by intro e;rw[e]at hb;exact absurd hb (by decide)
    clear hb;have hno:gM ls=none:=by rw[hrd,kE hlt hrun (oA hdc (.inr (.inl hw2)))];rfl
    refine bO (fr2:=fin [(2,.ptr 0 0),(4,.ptr 28 0)]) (ob2:=fob (Rs.hp d ⟨i,l,some q⟩)) (nx2:=20100) (by simp only[Rs.hp,hpO];exact aM (by omega) (by simp[aW,fin_at,finA_at,upd_at,HV.men,HV.menL,HV.norm,HV.toC,HV.toCL,rdB,rdE,HV.menL_append,dF]) (by simp[aX,fob_at,upd_at,none0_at,bI,HO.men,HV.men,HV.menL,HV.norm,HV.toC,HV.toCL,rdB,rdE,HV.menL_append,dF])) ?_;refine lW (y:=⟨i,l,some q⟩) (fun h=>by cases h) (by simp[aW,fJ,fin_at,HV.close,HV.closeL,HV.norm,HV.toC,HV.men,CV.denil]) ?_;obtain⟨L,hL⟩: ∃L,L=Rs.ls ⟨i,l,some q⟩:=⟨_,rfl⟩;rw[←hL];simp only[hpC];refine aC fun K hK=>aD (by kernel_rfl) ?_;simp (maxSteps:=4000000) only[↓sP,sA,tyS,simprocAttr,rdB];repeat refine AI ?_
    refine hK _ _ _ ?_;clear hK K;refine oM 12 (L.map Ln.cv) rfl (mO L) ?_;refine aH ?_;simp (maxSteps:=4000000) only[bK,Tryz.results62,bH,bJ,bG,↓sP,sA,tyS,simprocAttr];refine⟨rfl,?_⟩;exact oT (d:=d) (L:=L) rfl rfl (by rw[hno];rfl) (fun x hx=>by rw[hno]at hx;cases hx)
   have hw2:ws[i].length=2:=by
    have: ¬((ws[i].length:Int)≠2):=fun h=>by rw[bne_iff_ne.2 h]at hb;cases hb
    omega
   clear hb;have hwd:(wd ws[i] 1).length<2^40:=by
    unfold wd;rw[List.getD_eq_getElem?_getD,List.getElem?_eq_getElem (by omega)];exact hb2 _ (List.getElem_mem hlt) _ (List.getElem_mem _)
   refine aN ?_;simp (maxSteps:=4000000) only[↓sP,sA,tyS,simprocAttr];repeat refine AI ?_
   refine hK _ _ _ ?_;clear hK K;refine aC fun K hK=>aD (by kernel_rfl) ?_;simp only[sR,simprocAttr];iterate 3
    (refine aE (g:=none) rfl rfl fun K' hK'=>?_;simp only[sH,↓sP,sA,tyS,simprocAttr,List.length_map,gE (show 1<ws[i].length by omega),Int.toNat_one];(repeat refine AI ?_);refine hK' _ _ ?_;clear hK' K')
   refine aE (g:=none) rfl rfl fun K' hK'=>?_;simp (maxSteps:=4000000) only[sH,↓sP,sA,tyS,simprocAttr,List.length_map,gE (show 1<ws[i].length by omega),Int.toNat_one];refine eP (args:=[_]) (oQ (wd ws[i] 1) hwd) ⟨rfl,rfl,rfl,rfl⟩ ?_;rintro u v ⟨rfl,rfl⟩;repeat refine AI ?_
   refine hK' _ _ ?_;clear hK' K';iterate 6
    (refine aE (g:=none) rfl rfl fun K' hK'=>?_;simp only[sH,↓sP,sA,tyS,simprocAttr,List.length_map,gE (show 1<ws[i].length by omega),Int.toNat_one];(repeat refine AI ?_);refine hK' _ _ ?_;clear hK' K')
   simp only[sE,↓reduceIte,simprocAttr];repeat refine AI ?_
   refine hK _ _ _ ?_;clear hK K;refine aC fun K hK=>?_;refine aC fun K hK=>aD (by kernel_rfl) ?_;simp (maxSteps:=4000000) only[↓sP,sA,tyS,simprocAttr];repeat refine AI ?_
   refine hK _ _ _ ?_;clear hK K;refine aJ (b:=!(gH (wd ws[i] 1)).isSome) rfl (fun hb=>?_) (fun hb=>?_)
   ·
    have hdn:(gH (wd ws[i] 1)).isSome=false:=by simpa using hb
    clear hb;have hno:gM ls=none:=by rw[hrd,kE hlt hrun (oA hdc (.inr (.inr hdn)))];rfl
    refine bO (fr2:=fin [(2,.ptr 0 0),(4,.ptr 28 0)]) (ob2:=fob (Rs.hp d ⟨i,l,some q⟩)) (nx2:=20100) (by simp only[Rs.hp,hpO];exact aM (by omega) (by simp[aW,fin_at,finA_at,upd_at,HV.men,HV.menL,HV.norm,HV.toC,HV.toCL,rdB,rdE,HV.menL_append,dF]) (by simp[aX,fob_at,upd_at,none0_at,bI,HO.men,HV.men,HV.menL,HV.norm,HV.toC,HV.toCL,rdB,rdE,HV.menL_append,dF])) ?_;refine lW (y:=⟨i,l,some q⟩) (fun h=>by cases h) (by simp[aW,fJ,fin_at,HV.close,HV.closeL,HV.norm,HV.toC,HV.men,CV.denil]) ?_;obtain⟨L,hL⟩: ∃L,L=Rs.ls ⟨i,l,some q⟩:=⟨_,rfl⟩;rw[←hL];simp only[hpC];refine aC fun K hK=>aD (by kernel_rfl) ?_;simp (maxSteps:=4000000) only[↓sP,sA,tyS,simprocAttr,rdB];repeat refine AI ?_
    refine hK _ _ _ ?_;clear hK K;refine oM 12 (L.map Ln.cv) rfl (mO L) ?_;refine aH ?_;simp (maxSteps:=4000000) only[bK,Tryz.results62,bH,bJ,bG,↓sP,sA,tyS,simprocAttr];refine⟨rfl,?_⟩;exact oT (d:=d) (L:=L) rfl rfl (by rw[hno];rfl) (fun x hx=>by rw[hno]at hx;cases hx)
   obtain⟨dd,hdd⟩:=Option.isSome_iff_exists.1 (show(gH (wd ws[i] 1)).isSome=true by simpa using hb);rw[hdd];clear hb;refine aN ?_;simp (maxSteps:=4000000) only[↓sP,sA,tyS,simprocAttr];repeat refine AI ?_
   refine hK _ _ _ ?_;clear hK K;refine dW mixed [(0,[],[]),(1,[],[]),(2,[],[]),(3,[],[]),(4,[],[]),(5,[],[]),(6,[],[]),(7,[],[]),(8,[],[]),(9,[],[]),(10,[],[]),(11,[],[0,1,2]),(12,[],[]),(13,[],[]),(14,[],[])] [0,1,0,0,8,0,56,120,248,0,512,2040,4095,8191,16383] (by kernel_rfl) (by kernel_rfl) (by kernel_rfl) (by kernel_rfl) rfl (by kernel_rfl) ?_;iterate 6
    (refine cC (g:=none) rfl rfl fun K' hK'=>?_;simp only[sH,↓sP,sA,tyS,simprocAttr,rdB,rdE,cQ,oB,List.length_append,List.length_map,List.length_cons,List.length_nil,Nat.zero_add,Int.natCast_nonneg,Int.ofNat_lt,Nat.lt_succ_self,Int.toNat_natCast,Option.getD_some];(repeat refine AI ?_);refine hK' _ _ ?_;clear hK' K')
   refine cJ (g:=none) rfl rfl fun K' hK'=>?_;simp (maxSteps:=4000000) only[sN,↓hopH.eq_def,sH,↓sP,sA,tyS,simprocAttr,rdB,rdE,cQ,oB,List.length_append,List.length_map,List.length_cons,List.length_nil,Nat.zero_add,Int.natCast_nonneg,Int.ofNat_lt,Nat.lt_succ_self,Int.toNat_natCast,Option.getD_some];repeat refine AI ?_
   refine hK' _ _ ?_;clear hK' K';refine cJ (g:=none) rfl rfl fun K' hK'=>?_;simp (maxSteps:=4000000) only[sN,↓hopH.eq_def,sH,↓sP,sA,tyS,simprocAttr,rdB,rdE,cQ,oB,List.length_append,List.length_map,List.length_cons,List.length_nil,Nat.zero_add,Int.natCast_nonneg,Int.ofNat_lt,Nat.lt_succ_self,Int.toNat_natCast,Option.getD_some];repeat refine AI ?_
   refine hK' _ _ ?_;clear hK' K';refine cJ (g:=none) rfl rfl fun K' hK'=>?_;simp (maxSteps:=4000000) only[sN,↓hopH.eq_def,sH,↓sP,sA,tyS,simprocAttr,rdB,rdE,cQ,oB,List.length_append,List.length_map,List.length_cons,List.length_nil,Nat.zero_add,Int.natCast_nonneg,Int.ofNat_lt,Nat.lt_succ_self,Int.toNat_natCast,Option.getD_some];repeat refine AI ?_
   refine hK' _ _ ?_;clear hK' K';iterate 3
    (refine cC (g:=none) rfl rfl fun K' hK'=>?_;simp only[sH,↓sP,sA,tyS,simprocAttr,rdB,rdE,cQ,oB,List.length_append,List.length_map,List.length_cons,List.length_nil,Nat.zero_add,Int.natCast_nonneg,Int.ofNat_lt,Nat.lt_succ_self,Int.toNat_natCast,Option.getD_some];(repeat refine AI ?_);refine hK' _ _ ?_;clear hK' K')
   refine cJ (g:=none) rfl rfl fun K' hK'=>?_;simp (maxSteps:=4000000) only[sN,↓hopH.eq_def,sH,↓sP,sA,tyS,simprocAttr,rdB,rdE,cQ,oB,List.length_append,List.length_map,List.length_cons,List.length_nil,Nat.zero_add,Int.natCast_nonneg,Int.ofNat_lt,Nat.lt_succ_self,Int.toNat_natCast,Option.getD_some];repeat refine AI ?_
   refine hK' _ _ ?_;clear hK' K';refine cJ (g:=none) rfl rfl fun K' hK'=>?_;simp (maxSteps:=4000000) only[sN,↓hopH.eq_def,sH,↓sP,sA,tyS,simprocAttr,rdB,rdE,cQ,oB,List.length_append,List.length_map,List.length_cons,List.length_nil,Nat.zero_add,Int.natCast_nonneg,Int.ofNat_lt,Nat.lt_succ_self,Int.toNat_natCast,Option.getD_some];repeat refine AI ?_
   refine hK' _ _ ?_;clear hK' K';refine cJ (g:=none) rfl rfl fun K' hK'=>?_;simp (maxSteps:=4000000) only[sN,↓hopH.eq_def,sH,↓sP,sA,tyS,simprocAttr,rdB,rdE,cQ,oB,List.length_append,List.length_map,List.length_cons,List.length_nil,Nat.zero_add,Int.natCast_nonneg,Int.ofNat_lt,Nat.lt_succ_self,Int.toNat_natCast,Option.getD_some];repeat refine AI ?_
   refine hK' _ _ ?_;clear hK' K';simp only[sE,↓reduceIte,simprocAttr];repeat refine AI ?_
   refine hK _ _ _ ?_;clear hK K;refine aD (by kernel_rfl) ?_;simp (maxSteps:=4000000) only[↓sP,sA,tyS,simprocAttr,(show IntKind.i64.wrap ((i:Int)+1)=((i+1:Nat):Int)from by rw[IntWalk.i64_in _ (by omega)];rfl)];refine⟨⟨⟨i+1,l,some (vJ q dd)⟩,⟨hlt,?_,fun h=>by cases h⟩⟩,?_,?_⟩
   · show iG (ws.take (i+1))=some (Rs.ls ⟨i+1,l,some (vJ q dd)⟩);rw[kD hlt hrun];exact aP7 hdc hk hw2 hdd
   · simp only[Rs.hp,hpO];exact aM (by omega) (by simp[aW,fin_at,finA_at,upd_at,HV.men,HV.menL,HV.norm,HV.toC,HV.toCL,rdB,rdE,vJ,HV.menL_append,dF]) (by simp[aX,fob_at,upd_at,none0_at,bI,HO.men,HV.men,HV.menL,HV.norm,HV.toC,HV.toCL,rdB,rdE,vJ,HV.menL_append,dF])
   show ws.length-(i+1)<ws.length-i;omega
  have hkf:(q.k !=1)=true:=bne_iff_ne.2 hk;have hno:gM ls=none:=by rw[hrd,kE hlt hrun (oA hdc (.inl hk))];rfl
  refine aC fun K hK=>cH (by kernel_rfl) ?_;simp only[sR,simprocAttr];iterate 3
   (refine aZ (g:=none) rfl rfl fun K' hK'=>?_;simp only[sH,↓sP,sA,tyS,simprocAttr,rdB,rdE,(show decide ((l.length:Int)<0)=false from decide_eq_false (by omega)),cQ,List.length_append,List.length_map,List.length_cons,List.length_nil,Nat.zero_add,Int.natCast_nonneg,Int.ofNat_lt,Nat.lt_succ_self,Int.toNat_natCast,hkf];(repeat refine AI ?_);refine hK' _ _ ?_;clear hK' K')
  iterate 3
   (refine aZ (g:=some (52,false)) rfl rfl fun K' hK'=>?_;simp only[sH,↓sP,sA,tyS,simprocAttr,rdB,rdE,(show decide ((l.length:Int)<0)=false from decide_eq_false (by omega)),cQ,List.length_append,List.length_map,List.length_cons,List.length_nil,Nat.zero_add,Int.natCast_nonneg,Int.ofNat_lt,Nat.lt_succ_self,Int.toNat_natCast,hkf];(repeat refine AI ?_);refine hK' _ _ ?_;clear hK' K')
  refine dA (g:=some (52,false)) rfl rfl fun K' hK'=>?_;simp (maxSteps:=4000000) only[sN,↓hopH.eq_def,sH,↓sP,sA,tyS,simprocAttr,rdB,rdE,(show decide ((l.length:Int)<0)=false from decide_eq_false (by omega)),cQ,List.length_append,List.length_map,List.length_cons,List.length_nil,Nat.zero_add,Int.natCast_nonneg,Int.ofNat_lt,Nat.lt_succ_self,Int.toNat_natCast,hkf];repeat refine AI ?_
  refine hK' _ _ ?_;clear hK' K';refine dA (g:=some (52,false)) rfl rfl fun K' hK'=>?_;simp (maxSteps:=4000000) only[sN,↓hopH.eq_def,sH,↓sP,sA,tyS,simprocAttr,rdB,rdE,(show decide ((l.length:Int)<0)=false from decide_eq_false (by omega)),cQ,List.length_append,List.length_map,List.length_cons,List.length_nil,Nat.zero_add,Int.natCast_nonneg,Int.ofNat_lt,Nat.lt_succ_self,Int.toNat_natCast,hkf];repeat refine AI ?_
  refine hK' _ _ ?_;clear hK' K';refine dA (g:=some (52,false)) rfl rfl fun K' hK'=>?_;simp (maxSteps:=4000000) only[sN,↓hopH.eq_def,sH,↓sP,sA,tyS,simprocAttr,rdB,rdE,(show decide ((l.length:Int)<0)=false from decide_eq_false (by omega)),cQ,List.length_append,List.length_map,List.length_cons,List.length_nil,Nat.zero_add,Int.natCast_nonneg,Int.ofNat_lt,Nat.lt_succ_self,Int.toNat_natCast,hkf];repeat refine AI ?_
  refine hK' _ _ ?_;clear hK' K';refine aZ (g:=some (52,false)) rfl rfl fun K' hK'=>?_;simp (maxSteps:=4000000) only[sH,↓sP,sA,tyS,simprocAttr,rdB,rdE,(show decide ((l.length:Int)<0)=false from decide_eq_false (by omega)),cQ,List.length_append,List.length_map,List.length_cons,List.length_nil,Nat.zero_add,Int.natCast_nonneg,Int.ofNat_lt,Nat.lt_succ_self,Int.toNat_natCast,hkf];repeat refine AI ?_
  refine hK' _ _ ?_;clear hK' K';iterate 2
   (refine aZ (g:=none) rfl rfl fun K' hK'=>?_;simp only[sH,↓sP,sA,tyS,simprocAttr,rdB,rdE,(show decide ((l.length:Int)<0)=false from decide_eq_false (by omega)),cQ,List.length_append,List.length_map,List.length_cons,List.length_nil,Nat.zero_add,Int.natCast_nonneg,Int.ofNat_lt,Nat.lt_succ_self,Int.toNat_natCast,hkf];(repeat refine AI ?_);refine hK' _ _ ?_;clear hK' K')
  iterate 3
   (refine aZ (g:=some (61,false)) rfl rfl fun K' hK'=>?_;simp only[sH,↓sP,sA,tyS,simprocAttr,rdB,rdE,(show decide ((l.length:Int)<0)=false from decide_eq_false (by omega)),cQ,List.length_append,List.length_map,List.length_cons,List.length_nil,Nat.zero_add,Int.natCast_nonneg,Int.ofNat_lt,Nat.lt_succ_self,Int.toNat_natCast,hkf];(repeat refine AI ?_);refine hK' _ _ ?_;clear hK' K')
  refine aZ (g:=none) rfl rfl fun K' hK'=>?_;simp (maxSteps:=4000000) only[sH,↓sP,sA,tyS,simprocAttr,rdB,rdE,(show decide ((l.length:Int)<0)=false from decide_eq_false (by omega)),cQ,List.length_append,List.length_map,List.length_cons,List.length_nil,Nat.zero_add,Int.natCast_nonneg,Int.ofNat_lt,Nat.lt_succ_self,Int.toNat_natCast,hkf];repeat refine AI ?_
  refine hK' _ _ ?_;clear hK' K';simp only[sE,↓reduceIte,simprocAttr];repeat refine AI ?_
  refine hK _ _ _ ?_;clear hK K;refine aJ (b:=true) rfl (fun hb=>?_) (fun hb=>?_)
  ·
   refine bO (fr2:=fin [(2,.ptr 0 0),(4,.ptr 28 0)]) (ob2:=fob (Rs.hp d ⟨i,l,some q⟩)) (nx2:=20100) (by simp only[Rs.hp,hpO];exact aM (by omega) (by simp[aW,fin_at,finA_at,upd_at,HV.men,HV.menL,HV.norm,HV.toC,HV.toCL,rdB,rdE,HV.menL_append,dF]) (by simp[aX,fob_at,upd_at,none0_at,bI,HO.men,HV.men,HV.menL,HV.norm,HV.toC,HV.toCL,rdB,rdE,HV.menL_append,dF])) ?_;refine lW (y:=⟨i,l,some q⟩) (fun h=>by cases h) (by simp[aW,fJ,fin_at,HV.close,HV.closeL,HV.norm,HV.toC,HV.men,CV.denil]) ?_;obtain⟨L,hL⟩: ∃L,L=Rs.ls ⟨i,l,some q⟩:=⟨_,rfl⟩;rw[←hL];simp only[hpC];refine aC fun K hK=>aD (by kernel_rfl) ?_;simp (maxSteps:=4000000) only[↓sP,sA,tyS,simprocAttr,rdB];repeat refine AI ?_
   refine hK _ _ _ ?_;clear hK K;refine oM 12 (L.map Ln.cv) rfl (mO L) ?_;refine aH ?_;simp (maxSteps:=4000000) only[bK,Tryz.results62,bH,bJ,bG,↓sP,sA,tyS,simprocAttr];refine⟨rfl,?_⟩;exact oT (d:=d) (L:=L) rfl rfl (by rw[hno];rfl) (fun x hx=>by rw[hno]at hx;cases hx)
  cases hb
 have hie:i=ws.length:=by
  have: ¬(i<ws.length):=by simpa using hb
  omega
 clear hb;refine bO (fr2:=fin [(2,.ptr 0 0),(4,.ptr 28 0)]) (ob2:=fob (Rs.hp d ⟨i,l,z⟩)) (nx2:=20100) (by cases z<;>simp only[Rs.hp,hpC,hpO]<;>exact aM (by omega) (by simp[aW,fin_at,finA_at,upd_at,HV.men,HV.menL,HV.norm,HV.toC,HV.toCL,rdB,rdE,HV.menL_append,dF]) (by simp[aX,fob_at,upd_at,none0_at,bI,HO.men,HV.men,HV.menL,HV.norm,HV.toC,HV.toCL,rdB,rdE,HV.menL_append,dF])) ?_;refine lW (y:=⟨i,l,z⟩) hyx (by simp[aW,fJ,fin_at,HV.close,HV.closeL,HV.norm,HV.toC,HV.men,CV.denil]) ?_;obtain⟨L,hL⟩: ∃L,L=Rs.ls ⟨i,l,z⟩:=⟨_,rfl⟩;rw[←hL];simp only[hpC];rw[←hL,hie,List.take_length]at hrun;rw[hrun]at hrd;refine bB ?_;simp (maxSteps:=4000000) only[↓sP,sA,tyS,simprocAttr];clear hK K;repeat refine AI ?_
 refine hK _ _ _ ?_;clear hK K;refine aC fun K hK=>aD (by kernel_rfl) ?_;simp (maxSteps:=4000000) only[↓sP,sA,tyS,simprocAttr,rdB];repeat refine AI ?_
 refine hK _ _ _ ?_;clear hK K;refine oM 12 (L.map Ln.cv) rfl (mO L) ?_;refine aH ?_;simp (maxSteps:=4000000) only[bK,Tryz.results62,bH,bJ,bG,↓sP,sA,tyS,simprocAttr];refine⟨rfl,?_⟩;exact oT (d:=d) (L:=L) rfl rfl (by rw[hrd];rfl) (fun x hx=>by rw[hrd]at hx;exact(Option.some.inj hx).symm)
end Go.Proofs.YthedbjfipmkpiaaGreatDoor
