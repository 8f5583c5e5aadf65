/- Part of a proof: walks of functions of the program, by contracts, and the rules they use. By an AI agent. -/
import Derived.Test.YtlldglbooaefhaaGreatDoorHzU1
import Derived.Test.YtlldglbooaefhaaGreatDoorHzTr
import Derived.Test.YtlldglbooaefhaaGreatDoorHlTlaw
import Derived.Test.YtlldglbooaefhaaGreatDoorPl28p
import Derived.Shelf.LaysM
import Derived.Shelf.Strconv.Itoa4
import Derived.Test.YtlldglbooaefhaaGreatDoorHlZb
import Derived.Test.YtlldglbooaefhaaGreatDoorPl03c
import Derived.Test.YtlldglbooaefhaaGreatDoorHzUh
import Derived.Test.YtlldglbooaefhaaGreatDoorPlShd
import Derived.Test.YtlldglbooaefhaaGreatDoorHzTm
import Derived.Test.YtlldglbooaefhaaGreatDoorHlIt
set_option linter.unusedSimpArgs false
set_option linter.unusedVariables false
set_option linter.defProp false
namespace Go.Proofs.YtlldglbooaefhaaGreatDoor
open Go Go.Hl Go.Pl
set_option maxRecDepth 10000
set_option maxHeartbeats 16000000
def pr0 :Pr:=⟨[],[],[],0,[]⟩
theorem bG6 (ls:List (List aH))(a:Nat)(hal:a≤ls.length)(hls:ls.length<2^39):
  tA Tryz.prog 90 94 (rdr ls a) [] (fun u x v'=> ∃q:Pr,u=q.cv∧x= .bool (rdR (ls.drop a)).1.isSome∧v'=rdr ls (ls.length-(rdR (ls.drop a)).2.length)∧ ∀p,(rdR (ls.drop a)).1=some p→q=p):=by
 refine bS Tryz.func90 rfl (by kernel_rfl) (cR _ _ _) (Nat.le_of_ble_eq_true rfl) ?_;refine R0 ?_;refine aC fun K hK=>?_;refine aC fun K hK=>Rg ?_;refine S0 ?_;refine HS rfl rfl fun K' hK'=>T5 ?_;refine bI (args:=[_,_]) (aA1 ls a 5 wRule (by omega)) rfl (by simp) ⟨rfl,rfl,rfl,rfl⟩ ?_;rintro u v' ⟨rfl,rfl⟩;refine AX (hK' _ _ ?_);clear hK' K';refine S0 ?_;refine T2 (hK _ _ _ ?_);clear hK K;refine aJ (b:=!isV ls a wRule 5) rfl (fun hb=>?_) (fun hb=>?_)
 ·
  have hX:=cE6 hal (show isV ls a wRule 5=false by simpa using hb);refine aC fun K hK=>Rg ?_;iterate 3 refine S0 ?_
  refine T2 (hK _ _ _ ?_);clear hK K;refine aF (RT Tryz.results90 ?_);rw[hX];exact bT [] pr0.cv (.bool false) (rdr ls a) rfl rfl (by simp[HV.close,HV.closeL,rdr,CV.denil,CV.denilL,aS,HV.norm,HV.toC,HV.toCL]) (by simp) (by refine⟨pr0,rfl,rfl,?_⟩;first|exact(by simp only[List.length_drop];congr 1;omega)|exact⟨by simp only[List.length_drop];congr 1;omega,fun t h=>by cases h⟩)
 refine aK ?_;refine T0 (hK _ _ _ ?_);clear hK K;obtain⟨hl,hl1,hl2⟩:=fU (show isV ls a wRule 5=true by simpa using hb);have h1:1<ls[a].length:=by omega
 have h2:2<ls[a].length:=by omega
 have h3:3<ls[a].length:=by omega
 have hw:IntKind.i64.wrap ((a:Int)+1)=((a+1:Nat):Int):=IntWalk.i64_in _ (by omega);clear hb;refine aC fun K hK=>QR ?_;iterate 11 refine S0 ?_ (e:=fun _ h_=>by simp only[sH,↓sP,sA,tyS,simprocAttr,rdr,Int.natCast_nonneg,Int.ofNat_lt,hl,bR hl,kZ];exact AX h_)
 refine T2 (hK _ _ _ ?_);clear hK K;refine aC fun K hK=>Rg ?_;refine S0 ?_;refine HS rfl rfl fun K' hK'=>T5 ?_;refine dS (args:=[_]) (lB ls a 4 hl (by omega)) rfl (by simp) ⟨rfl,rfl,rfl,rfl⟩ ?_;rintro u x v' ⟨rfl,rfl,rfl⟩;refine AX (hK' _ _ ?_);clear hK' K';iterate 5 refine S0 ?_
 refine T2 (hK _ _ _ ?_);clear hK K;refine aC fun K hK=>?_;refine R0 ?_;refine aJ (b:=!(bL (wd ls[a] 4)).isSome) rfl (fun hb=>?_) (fun hb=>?_)
 ·
  have hX:=bY4 hl hl1 hl2 (show bL (wd ls[a] 4)=none by simpa using hb);refine aC fun K hK=>Rg ?_;iterate 3 refine S0 ?_
  refine T2 (hK _ _ _ ?_);clear hK K;refine aF (RT Tryz.results90 ?_);rw[hX];exact bT [] pr0.cv (.bool false) (rdr ls a) rfl rfl (by simp[HV.close,HV.closeL,rdr,CV.denil,CV.denilL,aS,HV.norm,HV.toC,HV.toCL]) (by simp) (by refine⟨pr0,rfl,rfl,?_⟩;first|exact(by simp only[List.length_drop];congr 1;omega)|exact⟨by simp only[List.length_drop];congr 1;omega,fun t h=>by cases h⟩)
 refine aK ?_;refine T0 (hK _ _ _ ?_);clear hK K;obtain⟨g,hg⟩: ∃g,bL (wd ls[a] 4)=some g:=by
  cases h:bL (wd ls[a] 4)with
  |none=>rw[h]at hb;simp at hb
  |some g=>exact⟨g,rfl⟩
 have hX:=bQ4 hl hl1 hl2 hg;clear hb;simp only[hg,Option.getD_some];have hN:tA Tryz.prog 108 94 (rdr ls (a+1)) [.nils] (fun u x v'=> ∃T':List Nd,u= .slc (T'.map Nd.cv)∧x= .bool (rdT (ls.drop (a+1))).1.isSome∧v'=rdr ls (ls.length-(rdT (ls.drop (a+1))).2.length)∧ ∀t,(rdT (ls.drop (a+1))).1=some t→T'=t):=bR9 (2*(ls.drop (a+1)).length+2) ls (a+1) hl (by simp only[List.length_drop];omega) hls;refine aC fun K hK=>Rg ?_;iterate 8 refine S0 ?_ (e:=fun _ h_=>by simp only[sH,↓sP,sA,tyS,simprocAttr,rdr,hw];exact AX h_)
 refine T2 (hK _ _ _ ?_);clear hK K;refine aC fun K hK=>bH (by kernel_rfl) ?_;simp only[sR,simprocAttr];refine SG0 ?_;refine sX (g:=none) rfl rfl fun K' hK'=>?_;simp only[sN,↓hopH.eq_def,sH,↓sP,sA,tyS,simprocAttr];refine dS (args:=[_]) hN rfl (by simp) ⟨rfl,rfl,rfl,rfl⟩ ?_;rintro u x v' ⟨T',rfl,rfl,rfl,hT⟩;refine AX (hK' _ _ ?_);clear hK' K';iterate 5 refine SG0 ?_
 refine T2 (hK _ _ _ ?_);clear hK K;refine aC fun K hK=>DW [(0,[],[]),(1,[],[]),(2,[],[]),(3,[],[]),(4,[],[]),(5,[],[]),(6,[],[]),(7,[],[]),(8,[],[]),(9,[],[]),(10,[],[]),(11,[],[]),(12,[],[]),(13,[],[12]),(14,[],[])] [0,1,3,0,8,24,0,64,192,0,0,2047,0,4095,16383] ?_;iterate 15 refine W0 ?_ (e:=fun _ h_=>by simp only[sH,↓sP,sA,tyS,simprocAttr,lsC,Int.one_nonneg,wM h1,wM h2,wM h3,hl1];exact AX h_)
 refine T2 (hK _ _ _ ?_);clear hK K;refine aF (RT Tryz.results90 ?_);rw[hX];exact bT [] (Pr.cv ⟨wd ls[a] 1,wd ls[a] 2,wd ls[a] 3,g,T'⟩) (.bool (rdT (ls.drop (a+1))).1.isSome) (rdr ls (ls.length-(rdT (ls.drop (a+1))).2.length)) (by simp[HV.close,HV.closeL,Pr.cv,CV.denil,CV.denilL,denilL_Nd,HV.norm,HV.toC,HV.toCL]) rfl (by simp[HV.close,HV.closeL,rdr,CV.denil,CV.denilL,aS,HV.norm,HV.toC,HV.toCL]) (by simp) ⟨_,rfl,by simp,rfl,fun p h=>by
  cases h4:(rdT (ls.drop (a+1))).1 with
  |none=>simp[h4]at h
  |some t=>simp[h4]at h;rw[←h,hT t h4]⟩
theorem bS0 (ls:List (List aH))(hls:ls.length<2^39):
  tA Tryz.prog 63 94 (rdr ls 0) [] (fun u x v'=> ∃q:Po,u=q.cv∧x= .bool (rdP ls).1.isSome∧v'=rdr ls (ls.length-(rdP ls).2.length)∧ ∀p,(rdP ls).1=some p→q=p):=by
 refine bS Tryz.func63 rfl (by kernel_rfl) (cR _ _ _) (Nat.le_of_ble_eq_true rfl) ?_;refine R0 ?_;refine aC fun K hK=>?_;refine aC fun K hK=>Rg ?_;refine S0 ?_;refine HS rfl rfl fun K' hK'=>T5 ?_;refine bI (args:=[_,_]) (aA1 ls 0 3 wPolicy (by omega)) rfl (by simp) ⟨rfl,rfl,rfl,rfl⟩ ?_;rintro u v' ⟨rfl,rfl⟩;refine AX (hK' _ _ ?_);clear hK' K';refine S0 ?_;refine T2 (hK _ _ _ ?_);clear hK K;refine aJ (b:=!isV ls 0 wPolicy 3) rfl (fun hb=>?_) (fun hb=>?_)
 ·
  have hX:=cE7 (show isV ls 0 wPolicy 3=false by simpa using hb);refine aC fun K hK=>Rg ?_;iterate 3 refine S0 ?_
  refine T2 (hK _ _ _ ?_);clear hK K;refine aF (RT Tryz.results63 ?_);rw[hX];exact bT [] po0.cv (.bool false) (rdr ls 0) (by simp[HV.close,HV.closeL,HO.close,fob_at,upd_at,po0,Po.cv,CV.denil,CV.denilL,denilL_Pr,HV.norm,HV.toC,HV.toCL]) rfl (by simp[HV.close,HV.closeL,rdr,CV.denil,CV.denilL,aS,HV.norm,HV.toC,HV.toCL]) (by simp) (by refine⟨po0,rfl,rfl,?_⟩;first|exact(by simp only[List.length_drop];congr 1;omega)|exact rfl|exact⟨by simp,fun t h=>by cases h⟩)
 refine aK ?_;refine T0 (hK _ _ _ ?_);clear hK K;obtain⟨hl,hl1,hl2⟩:=fU (show isV ls 0 wPolicy 3=true by simpa using hb);have h1:1<ls[0].length:=by omega
 clear hb;refine aC fun K hK=>Rg ?_;refine S0 ?_;refine HS rfl rfl fun K' hK'=>T5 ?_;refine dS (args:=[_]) (lB ls 0 2 hl (by omega)) rfl (by simp) ⟨rfl,rfl,rfl,rfl⟩ ?_;rintro u x v' ⟨rfl,rfl,rfl⟩;refine AX (hK' _ _ ?_);clear hK' K';iterate 5 refine S0 ?_
 refine T2 (hK _ _ _ ?_);clear hK K;refine aC fun K hK=>?_;refine R0 ?_;refine aJ (b:=!(bL (wd ls[0] 2)).isSome) rfl (fun hb=>?_) (fun hb=>?_)
 ·
  have hX:=bY5 hl hl1 hl2 (show bL (wd ls[0] 2)=none by simpa using hb);refine aC fun K hK=>Rg ?_;iterate 3 refine S0 ?_
  refine T2 (hK _ _ _ ?_);clear hK K;refine aF (RT Tryz.results63 ?_);rw[hX];exact bT [] po0.cv (.bool false) (rdr ls 0) (by simp[HV.close,HV.closeL,HO.close,fob_at,upd_at,po0,Po.cv,CV.denil,CV.denilL,denilL_Pr,HV.norm,HV.toC,HV.toCL]) rfl (by simp[HV.close,HV.closeL,rdr,CV.denil,CV.denilL,aS,HV.norm,HV.toC,HV.toCL]) (by simp) (by refine⟨po0,rfl,rfl,?_⟩;first|exact(by simp only[List.length_drop];congr 1;omega)|exact rfl|exact⟨by simp,fun t h=>by cases h⟩)
 refine aK ?_;refine T0 (hK _ _ _ ?_);clear hK K;obtain⟨v,hv⟩: ∃v,bL (wd ls[0] 2)=some v:=by
  cases h:bL (wd ls[0] 2)with
  |none=>rw[h]at hb;simp at hb
  |some v=>exact⟨v,rfl⟩
 obtain⟨X,hX,hst⟩:=bQ5 hl hl1 hl2 hv;clear hb;simp only[hv,Option.getD_some];refine aC fun K hK=>Rg ?_;iterate 12 refine S0 ?_ (e:=fun _ h_=>by simp only[sH,↓sP,sA,tyS,simprocAttr,rdr,hl,bR hl,lsC,wM h1,Int.one_nonneg,hl1,Int.natCast_pos];exact AX h_)
 refine T2 (hK _ _ _ ?_);clear hK K;refine aC fun K hK=>?_;refine aC fun K hK=>Rg ?_;iterate 8 refine S0 ?_ (e:=fun _ h_=>by simp only[sH,↓sP,sA,tyS,simprocAttr,rdr];exact AX h_)
 refine T2 (hK _ _ _ ?_);clear hK K;refine aL ?_;refine tZ 97 2 54 5 rfl rfl rfl rfl ?_;refine bF (α:={y:List Pr×Nat//RsSt ls X y.1 y.2}) (fun y=>(fin [(0,.ptr 0 0),(2,.ptr 1 0),(6,.ptr 97 0)],fob [(0,.box 94 (.c (rdr ls y.1.2))),(1,.box 45 (.c (.agg [.str [],.int .i64 0,.nils]))),(97,.box 45 (.agg [.c (.str (wd ls[0] 1)),.c (.int .i64 v),.own 137 y.1.1.length])),(137,.row 54 5 (y.1.1.map Pr.cv))])) 2000 (fun y=>ls.length-y.1.2) ⟨([],1),hst⟩ (aN (by omega) (by simp[aY,fin_at,finA_at,upd_at,HV.men,HV.menL,HV.norm,HV.toC,HV.toCL,rdr,show IntKind.i64.wrap 1=1 from rfl]) (by simp[aW,fob_at,upd_at,none0_at,bW,HO.men,HV.men,HV.menL,HV.norm,HV.toC,HV.toCL,rdr,show IntKind.i64.wrap 1=1 from rfl])) ?_;rintro⟨⟨acc,p⟩,hΦ⟩;simp only at hΦ;refine aC fun K hK=>?_;refine aC fun K hK=>QR ?_;iterate 10 refine S0 ?_ (e:=fun _ h_=>by simp only[sH,↓sP,sA,tyS,simprocAttr,rdr];exact AX h_)
 refine T2 (hK _ _ _ ?_);clear hK K;refine aJ (b:=decide ((p:Int)<ls.length)) rfl (fun hb=>?_) (fun hb=>?_)
 ·
  have hp:p<ls.length:=by simpa using hb
  have hp1:=hΦ.le;have hp2:=hΦ.len;clear hb;refine aK ?_;refine T0 (hK _ _ _ ?_);clear hK K;refine aL ?_;refine aC fun K hK=>Rg ?_;refine S0 ?_;refine HS rfl rfl fun K' hK'=>T5 ?_;refine dS (args:=[]) (bG6 ls p hp1 hls) rfl (by simp) ⟨rfl,rfl,rfl,rfl⟩ ?_;rintro u x v' ⟨q,rfl,rfl,rfl,hq⟩;refine AX (hK' _ _ ?_);clear hK' K';iterate 6 refine S0 ?_
  refine T2 (hK _ _ _ ?_);clear hK K;refine aC fun K hK=>?_;refine R0 ?_;refine aJ (b:=!(rdR (ls.drop p)).1.isSome) rfl (fun hb=>?_) (fun hb=>?_)
  ·
   have hno:(rdR (ls.drop p)).1=none:=by simpa using hb
   have hXn:=hΦ.no hp hno;refine aC fun K hK=>Rg ?_;iterate 3 refine S0 ?_
   refine T2 (hK _ _ _ ?_);clear hK K;refine aF (RT Tryz.results63 ?_);rw[hX,hXn];exact bT [] po0.cv (.bool false) (rdr ls (ls.length-(rdR (ls.drop p)).2.length)) (by simp[HV.close,HV.closeL,HO.close,fob_at,upd_at,po0,Po.cv,CV.denil,CV.denilL,denilL_Pr,HV.norm,HV.toC,HV.toCL]) rfl (by simp[HV.close,HV.closeL,rdr,CV.denil,CV.denilL,aS,HV.norm,HV.toC,HV.toCL]) (by simp) (by refine⟨po0,rfl,rfl,?_⟩;first|exact(by simp only[List.length_drop];congr 1;omega)|exact rfl|exact⟨by simp,fun t h=>by cases h⟩)
  obtain⟨x,hx⟩: ∃x,(rdR (ls.drop p)).1=some x:=by
   cases h:(rdR (ls.drop p)).1 with
   |none=>rw[h]at hb;simp at hb
   |some x=>exact⟨x,rfl⟩
  obtain⟨hst2,hlt2⟩:=hΦ.some_ hp hx;obtain rfl:=hq x hx;clear hb;refine aK ?_;refine T0 (hK _ _ _ ?_);clear hK K;refine Rg ?_;iterate 7 refine S0 ?_
  refine T4 ?_;refine⟨⟨(acc++[q],ls.length-(rdR (ls.drop p)).2.length),hst2⟩,aN (by omega) (by simp[aY,fin_at,finA_at,upd_at,HV.men,HV.menL,HV.norm,HV.toC,HV.toCL,List.map_append]) (by simp[aW,fob_at,upd_at,none0_at,bW,HO.men,HV.men,HV.menL,HV.norm,HV.toC,HV.toCL,List.map_append]),?_⟩;show ls.length-(ls.length-(rdR (ls.drop p)).2.length)<ls.length-p;omega
 have hp: ¬p<ls.length:=by simpa using hb
 obtain⟨rfl,hXs⟩:=hΦ.done hp;refine bA (T3 ?_);clear hK K;refine AX (hK _ _ _ ?_);clear hK K;refine aC fun K hK=>Rg ?_;iterate 3 refine S0 ?_
 refine T2 (hK _ _ _ ?_);clear hK K;refine aF (RT Tryz.results63 ?_);rw[hX,hXs];refine⟨rfl,?_⟩;exact bT [137] (Po.cv ⟨wd ls[0] 1,v,acc⟩) (.bool true) (rdr ls ls.length) (by simp[HV.close,HV.closeL,HO.close,fob_at,upd_at,po0,Po.cv,CV.denil,CV.denilL,denilL_Pr,HV.norm,HV.toC,HV.toCL]) rfl (by simp[HV.close,HV.closeL,rdr,CV.denil,CV.denilL,aS,HV.norm,HV.toC,HV.toCL]) (by simp) (by exact⟨_,rfl,rfl,by simp,fun p h=>by cases h;rfl⟩)
end Go.Proofs.YtlldglbooaefhaaGreatDoor
namespace Go.Proofs.YtlldglbooaefhaaGreatDoor
open Go Go.Hl Go.Pl Go.RowKit Go.Shelf
set_option maxRecDepth 100000
def cA0 :Go.Shelf.Ren:=⟨fun|173=>77|246=>102|283=>117|284=>118|285=>119|286=>120|129=>137|317=>136|318=>138|319=>139|320=>140|337=>148|338=>149|n=>n,fun|2=>2|3=>3|9=>9|4=>4|171=>155|0=>0|53=>116|37=>47|5=>5|173=>158|212=>169|51=>170|20=>20|213=>171|46=>41|232=>184|233=>185|n=>n,fun|17=>1|18=>4|19=>5|n=>n⟩
theorem cF2 :Go.Proofs.LaysM.n173 Tryz.prog cA0:={
  mixed:=by kernel_rfl
  f129:=Tryz.func137.trans (congrArg some (by kernel_rfl))
  f173:=Tryz.func77.trans (congrArg some (by kernel_rfl))
  f246:=Tryz.func102.trans (congrArg some (by kernel_rfl))
  f283:=Tryz.func117.trans (congrArg some (by kernel_rfl))
  f284:=Tryz.func118.trans (congrArg some (by kernel_rfl))
  f285:=Tryz.func119.trans (congrArg some (by kernel_rfl))
  f286:=Tryz.func120.trans (congrArg some (by kernel_rfl))
  f317:=Tryz.func136.trans (congrArg some (by kernel_rfl))
  f318:=Tryz.func138.trans (congrArg some (by kernel_rfl))
  f319:=Tryz.func139.trans (congrArg some (by kernel_rfl))
  f320:=Tryz.func140.trans (congrArg some (by kernel_rfl))
  f337:=Tryz.func148.trans (congrArg some (by kernel_rfl))
  f338:=Tryz.func149.trans (congrArg some (by kernel_rfl))
  t0:=Tryz.underlying0
  a0:=Tryz.isAgg0
  z0:=Tryz.sizeOf0
  v0:=Tryz.zeroValue0
  t2:=Tryz.underlying2
  a2:=Tryz.isAgg2
  z2:=Tryz.sizeOf2
  v2:=Tryz.zeroValue2
  t3:=Tryz.underlying3
  a3:=Tryz.isAgg3
  z3:=Tryz.sizeOf3
  v3:=Tryz.zeroValue3
  t4:=Tryz.underlying4
  a4:=Tryz.isAgg4
  z4:=Tryz.sizeOf4
  v4:=Tryz.zeroValue4
  t5:=Tryz.underlying5
  a5:=Tryz.isAgg5
  z5:=Tryz.sizeOf5
  v5:=Tryz.zeroValue5
  t9:=Tryz.underlying9
  a9:=Tryz.isAgg9
  z9:=Tryz.sizeOf9
  v9:=Tryz.zeroValue9
  t20:=Tryz.underlying20
  a20:=Tryz.isAgg20
  z20:=Tryz.sizeOf20
  v20:=Tryz.zeroValue20
  t37:=Tryz.underlying47
  a37:=Tryz.isAgg47
  z37:=Tryz.sizeOf47
  v37:=Tryz.zeroValue47
  t46:=Tryz.underlying41
  a46:=Tryz.isAgg41
  z46:=Tryz.sizeOf41
  v46:=Tryz.zeroValue41
  t51:=Tryz.underlying170
  a51:=Tryz.isAgg170
  z51:=Tryz.sizeOf170
  v51:=Tryz.zeroValue170
  t53:=Tryz.underlying116
  a53:=Tryz.isAgg116
  z53:=Tryz.sizeOf116
  v53:=Tryz.zeroValue116
  t171:=Tryz.underlying155
  a171:=Tryz.isAgg155
  z171:=Tryz.sizeOf155
  v171:=Tryz.zeroValue155
  t173:=Tryz.underlying158
  a173:=Tryz.isAgg158
  z173:=Tryz.sizeOf158
  v173:=Tryz.zeroValue158
  t212:=Tryz.underlying169
  a212:=Tryz.isAgg169
  z212:=Tryz.sizeOf169
  v212:=Tryz.zeroValue169
  t213:=Tryz.underlying171
  a213:=Tryz.isAgg171
  z213:=Tryz.sizeOf171
  t232:=Tryz.underlying184
  a232:=Tryz.isAgg184
  z232:=Tryz.sizeOf184
  v232:=Tryz.zeroValue184
  t233:=Tryz.underlying185
  a233:=Tryz.isAgg185
  z233:=Tryz.sizeOf185
  v233:=Tryz.zeroValue185
  g17:=by kernel_rfl
  g18:=by kernel_rfl
  g19:=by kernel_rfl
  i0:=by kernel_rfl
  i2:=by kernel_rfl
  i3:=by kernel_rfl
  i4:=by kernel_rfl
  i5:=by kernel_rfl
  i9:=by kernel_rfl
  i20:=by kernel_rfl
  i37:=by kernel_rfl
  i46:=by kernel_rfl
  i51:=by kernel_rfl
  i53:=by kernel_rfl
  i171:=by kernel_rfl
  i173:=by kernel_rfl
  i212:=by kernel_rfl
  i232:=by kernel_rfl
  i233:=by kernel_rfl
  m17:=by kernel_rfl
  m18:=by kernel_rfl
  m19:=by kernel_rfl}
theorem aF5 :Tryz.prog.globalNamed "internal/strconv.uint64pow10" =some 1:=by kernel_rfl
def tabs :kF:=[(1,Lib.pow10Tab.map fun z=>Value.int .u64 z)]
theorem bG7 (n:Int)(h: -9223372036854775808≤n∧n≤9223372036854775807):lN Tryz.prog 77 tabs [.int .i64 n,.int .i64 10] (fun v=>v= .str (numW n)):=
  aS0 (by kernel_rfl) aF5 (List.mem_cons_self) (fun w hw=>Any.strconv_FormatInt_10 cF2 n h.1 h.2 w hw)
end Go.Proofs.YtlldglbooaefhaaGreatDoor
namespace Go.Proofs.YtlldglbooaefhaaGreatDoor
open Go Go.Hl Go.Pl
set_option maxRecDepth 10000
set_option maxHeartbeats 16000000
theorem xB (n:Int)(hn: -9223372036854775808≤n∧n≤9223372036854775807):lN Tryz.prog 51 tabs [.int .i64 n] (fun v=>v= .str (numW n)):=by
 refine bS (args:=[.c (.int .i64 n)]) Tryz.func51 rfl (by kernel_rfl) (fE tabs [.int .i64 n]) (Nat.le_of_ble_eq_true rfl) ?_;refine R0 ?_;refine aC fun K hK=>Rg ?_;refine S0 ?_;refine HS rfl rfl fun K' hK'=>T5 ?_;refine eH (args:=[_,_]) 0 (bG7 n hn) (fO _ 0) (by simp) ⟨rfl,rfl,rfl,rfl⟩ ?_;rintro u rfl;refine AX (hK' _ _ ?_);clear hK' K';refine S0 ?_;refine T2 (hK _ _ _ ?_);clear hK K;refine aF (RT Tryz.results51 ?_);exact dC [] (.str _) rfl (fO _ 0) (by simp) rfl
def cJ5 (n:Int):Prop:= -9223372036854775808≤n∧n≤9223372036854775807
theorem bS1 (q:Rq)(hn:cJ5 q.n)(hm:cJ5 q.m):lN Tryz.prog 78 tabs [q.cv] (fun v=>v=lsC (wlR q)):=by
 refine bS (args:=[.c q.cv]) Tryz.func78 rfl (by kernel_rfl) (fE tabs [q.cv]) (Nat.le_of_ble_eq_true rfl) ?_;unfold eK;refine R0 ?_;refine aC fun K hK=>Rg ?_;iterate 2 refine S0 ?_
 refine HS rfl rfl fun K' hK'=>T5 ?_;refine eH (args:=[_]) 0 (xB q.n hn) rfl (by simp) ⟨rfl,rfl,rfl,rfl⟩ ?_;rintro u rfl;refine AX (hK' _ _ ?_);clear hK' K';refine S0 ?_;refine T2 (hK _ _ _ ?_);clear hK K;refine aC fun K hK=>?_;refine R0 ?_;refine aL ?_;refine R0 ?_;refine aJ (b:=(q.k==1)) rfl (fun hb=>?_) (fun hb=>?_)
 ·
  have hk:q.k=1:=by simpa using hb
  clear hb;refine R0 ?_;refine aF (RT Tryz.results78 ?_);exact dC [45] (lsC (wlR q)) (by rw[show wlR q=[dL,numW q.n]from by simp[wlR, *]];simp[lsC,HV.close,fob_at,upd_at,HV.norm,HV.toC,HV.closeL,HV.toCL,CV.denil];rfl) rfl (by simp) rfl
 have hk1: ¬q.k=1:=by simpa using hb
 clear hb;refine R0 ?_;refine aJ (b:=(q.k==2)) rfl (fun hb=>?_) (fun hb=>?_)
 ·
  have hk:q.k=2:=by simpa using hb
  clear hb;refine aC fun K hK=>Rg ?_;iterate 4 refine S0 ?_
  refine T2 (hK _ _ _ ?_);clear hK K;refine aF (RT Tryz.results78 ?_);exact dC [57] (lsC (wlR q)) (by rw[show wlR q=[eD,q.t]from by simp[wlR, *]];simp[lsC,HV.close,fob_at,upd_at,HV.norm,HV.toC,HV.closeL,HV.toCL,CV.denil];rfl) rfl (by simp) rfl
 have hk2: ¬q.k=2:=by simpa using hb
 clear hb;refine R0 ?_;refine aJ (b:=(q.k==3)) rfl (fun hb=>?_) (fun hb=>?_)
 ·
  have hk:q.k=3:=by simpa using hb
  clear hb;refine R0 ?_;refine aF (RT Tryz.results78 ?_);exact dC [61] (lsC (wlR q)) (by rw[show wlR q=[dT,numW q.n]from by simp[wlR, *]];simp[lsC,HV.close,fob_at,upd_at,HV.norm,HV.toC,HV.closeL,HV.toCL,CV.denil];rfl) rfl (by simp) rfl
 have hk3: ¬q.k=3:=by simpa using hb
 clear hb;refine R0 ?_;refine aJ (b:=(q.k==4)) rfl (fun hb=>?_) (fun hb=>?_)
 ·
  have hk:q.k=4:=by simpa using hb
  clear hb;refine aC fun K hK=>Rg ?_;iterate 3 refine S0 ?_
  refine HS rfl rfl fun K' hK'=>T5 ?_;refine eH (args:=[_]) 0 (xB q.m hm) rfl (by simp) ⟨rfl,rfl,rfl,rfl⟩ ?_;rintro u rfl;refine AX (hK' _ _ ?_);clear hK' K';iterate 2 refine S0 ?_
  refine T2 (hK _ _ _ ?_);clear hK K;refine aF (RT Tryz.results78 ?_);exact dC [81] (lsC (wlR q)) (by rw[show wlR q=[fQ,numW q.n,numW q.m]from by simp[wlR, *]];simp[lsC,HV.close,fob_at,upd_at,HV.norm,HV.toC,HV.closeL,HV.toCL,CV.denil];rfl) rfl (by simp) rfl
 have hk4: ¬q.k=4:=by simpa using hb
 clear hb;refine R0 ?_;refine aJ (b:=(q.k==5)) rfl (fun hb=>?_) (fun hb=>?_)
 ·
  have hk:q.k=5:=by simpa using hb
  clear hb;refine R0 ?_;refine aF (RT Tryz.results78 ?_);exact dC [77] (lsC (wlR q)) (by rw[show wlR q=[gO,numW q.n]from by simp[wlR, *]];simp[lsC,HV.close,fob_at,upd_at,HV.norm,HV.toC,HV.closeL,HV.toCL,CV.denil];rfl) rfl (by simp) rfl
 have hk5: ¬q.k=5:=by simpa using hb
 clear hb;refine R0 ?_;refine aJ (b:=(q.k==6)) rfl (fun hb=>?_) (fun hb=>?_)
 ·
  have hk:q.k=6:=by simpa using hb
  clear hb;refine R0 ?_;refine aF (RT Tryz.results78 ?_);exact dC [85] (lsC (wlR q)) (by rw[show wlR q=[kH,numW q.n]from by simp[wlR, *]];simp[lsC,HV.close,fob_at,upd_at,HV.norm,HV.toC,HV.closeL,HV.toCL,CV.denil];rfl) rfl (by simp) rfl
 have hk6: ¬q.k=6:=by simpa using hb
 clear hb;refine R0 ?_;refine aJ (b:=(q.k==7)) rfl (fun hb=>?_) (fun hb=>?_)
 ·
  have hk:q.k=7:=by simpa using hb
  clear hb;refine R0 ?_;refine aF (RT Tryz.results78 ?_);exact dC [93] (lsC (wlR q)) (by rw[show wlR q=[lQ,numW q.n]from by simp[wlR, *]];simp[lsC,HV.close,fob_at,upd_at,HV.norm,HV.toC,HV.closeL,HV.toCL,CV.denil];rfl) rfl (by simp) rfl
 have hk7: ¬q.k=7:=by simpa using hb
 clear hb;refine aK ?_;refine T0 (hK _ _ _ ?_);clear hK K;refine R0 ?_;refine aF (RT Tryz.results78 ?_);exact dC [89] (lsC (wlR q)) (by rw[show wlR q=[jE]from by simp[wlR, *]];simp[lsC,HV.close,fob_at,upd_at,HV.norm,HV.toC,HV.closeL,HV.toCL,CV.denil];rfl) rfl (by simp) rfl
theorem cJ6 (L:List (List aH)):lst [.tab tabs,.row 60 1 (L.map lsC)]=fob [(0,.tab tabs),(1,.row 60 1 (L.map lsC))]:=by
 funext i
 match i with
 |0=>rfl
 |1=>rfl
 |i+2=>simp[lst,fob,upd]
theorem aU7 (n:Nat)(ob:Ob)(e:TypeId)(sz:Nat)(T:kF)(L:List CV):jN (sub [0,1] n) ob 0 [.tab T,.row e sz L]=upd (upd ob 0 (some (.tab T))) 1 (some (.row e sz L)):=rfl
theorem xC {ob:Ob}{L:List CV}{M:List (List aH)}{m:Nat}{a:Nat}(h0:ob 0=some (.tab tabs))(h1:ob 1=some (.row 60 1 L))(hm:m=M.length)(hL:L=M.map lsC):
  lX 2 (.tup [.own 1 m,.c (.int .i64 a)]) ob (fun r ob'=> ∃os',ob'=lst os'∧(2≤os'.length∧os'.length≤2+4)∧r= .tup [.own 1 M.length,.c (.int .i64 a)]∧os'=[.tab tabs,.row 60 1 (M.map lsC)]):=by
 subst hm hL;exact dZ [] [] (.tup [.own 1 M.length,.c (.int .i64 a)]) [.tab tabs,.row 60 1 (M.map lsC)] rfl (by simp[HV.men,HV.menL]) ⟨⟨by simp[HO.men],by simp,_,h0,rfl⟩,⟨by simp[HO.men],by simp,_,h1,rfl⟩,trivial⟩ rfl List.nodup_nil (by simp) (by simp) ⟨rfl,rfl⟩
theorem bS2 (l:List Nd)(ht:IsTree l)(m:Nat): ∀(L:List (List aH)) (i:Nat) (hi:i<l.length),l.length-i≤m→0<L.length→L.length+2*(l.length-i)<2^40→
  HGe Tryz.prog 52 [.own 1 L.length,.c (.slc (l.map Nd.cv)),.c (.int .i64 i)] [.tab tabs,.row 60 1 (L.map lsC)] (fun r os'=>r= .tup [.own 1 (L++jG l i).length,.c (.int .i64 (aft l i:Nat))]∧os'=[.tab tabs,.row 60 1 ((L++jG l i).map lsC)]):=by
 induction m using Nat.strongRecOn with
 |ind m ih=>?_
 intro L i hi hfu hL0 hLl;refine bS (args:=[.own 1 L.length,.c (.slc (l.map Nd.cv)),.c (.int .i64 i)]) Tryz.func52 rfl (by kernel_rfl) (fA rfl (by simp[eC,HO.men,HV.men,HV.menL]) (by simp[HV.menL,HV.men])) (Nat.le_of_ble_eq_true rfl) ?_;show Hw _ _ 2 _ _ _ (lst _) 2;rw[cJ6];have hnode:=ht.node _ (List.getElem_mem hi);obtain⟨c1,c2,c3,c4⟩:=dO hnode;have hll:=ht.len;have hwi:IntKind.i64.wrap ((i:Int)+1)=((i+1:Nat):Int):=IntWalk.i64_in _ (by omega);obtain⟨a1,a2,a3⟩:=kG ht hi;refine R0 ?_;refine aC fun K hK=>Rg ?_;have F:=aI @Int.natCast_nonneg (aI @Int.ofNat_lt (aI hi (nM hi)));iterate 6 refine SF ?_
 refine T2 (hK _ _ _ ?_);clear hK K;have F:=hwi;refine RF ?_;refine aC fun K hK=>?_;have key: ∀fr ob nx,l[i].k≠1→Fits 2 fr ob (fin [(0,.own 1 (L.length+1)),(1,.c (.slc (l.map Nd.cv))),(2,.c (.int .i64 ((i+1:Nat):Int))),(8,.ptr 26 0)]) (fob [(0,.tab tabs),(1,.row 60 1 ((L++[wlN l[i]]).map lsC)),(26,.box 40 (.c l[i].cv))]) 300→K fr ob nx:=by
  rintro fr ob nx hk1 hf;refine hK _ _ _ (bG hf ?_);clear hf hK K;refine aC fun K hK=>?_;refine R0 ?_;refine aL ?_;refine bF (α:={k:Nat//k≤l[i].c.toNat}) (fun k=>(fin [(0,.own 1 (L.length+1+(dX l i k.1).length)),(1,.c (.slc (l.map Nd.cv))),(2,.c (.int .i64 (dW l k.1 (i+1):Nat))),(48,.c (.int .i64 l[i].c)),(49,.c (.int .i64 k.1))],fob [(0,.tab tabs),(1,.row 60 1 ((L++wlN l[i]::dX l i k.1).map lsC))])) 2000 (fun k=>l[i].c.toNat-k.1) ⟨0,by omega⟩ (aN (by omega) (by simp[aY,fin_at,finA_at,upd_at,HV.men,HV.menL,HV.norm,HV.toC,HV.toCL,lR,dW]) (by simp[aW,fob_at,upd_at,none0_at,bW,HO.men,HV.men,HV.menL,HV.norm,HV.toC,HV.toCL,lR,dW])) ?_;rintro⟨k,hk⟩;obtain⟨k1,k2,k3⟩:=gU ht hi k hk;have hkl:=aN8 ht hi hk hk1;refine R0 ?_;refine aC fun K hK=>?_;refine aJ (b:=decide ((k:Int)<l[i].c)) rfl (fun hb=>?_) (fun hb=>?_)
  ·
   have hlt:k<l[i].c.toNat:=by simp at hb;omega
   have hkid:=nB ht hi hlt;clear hb;obtain⟨M,hM⟩: ∃M,M=L++wlN l[i]::dX l i k:=⟨_,rfl⟩;have hMl:L.length+1+(dX l i k).length=M.length:=by rw[hM];simp;omega
   rw[←hM,hMl];refine aK ?_;refine T0 (hK _ _ _ ?_);clear hK K;refine aC fun K hK=>?_;refine aL ?_;refine Rg ?_;iterate 3 refine S0 ?_
   refine HS rfl rfl fun K' hK'=>T5 ?_;refine fT [0,1] (ih (l.length-dW l k (i+1)) (by omega) M (dW l k (i+1)) hkid (by omega) (by omega) (by omega)) rfl ⟨rfl,rfl,trivial⟩ (by simp) (by simp) ⟨rfl,rfl,rfl,rfl⟩ (by simp[eC,HO.men,HV.men,HV.menL]) (by simp[HV.menL,HV.men]) ?_;rintro r os' ⟨rfl,rfl⟩;rw[aU7,aO7];refine AX (hK' _ _ ?_);clear hK' K';iterate 5 refine S0 ?_
   refine T2 (hK _ _ _ ?_);clear hK K;refine aM (by kernel_rfl) ?_;refine TQ (IntWalk.i64_in ((k:Int)+1) (by omega)) ?_;refine⟨⟨k+1,hlt⟩,?_,?_⟩
   ·
    have e1:M++jG l (dW l k (i+1))=L++wlN l[i]::dX l i (k+1):=by rw[hM,qF ht hi hlt];simp
    have e2:(M++jG l (dW l k (i+1))).length=L.length+1+(dX l i (k+1)).length:=by rw[e1];simp;omega
    simp only[];rw[←e1,←e2,gB];exact fF
   show l[i].c.toNat-(k+1)<l[i].c.toNat-k;omega
  refine bA (T3 ?_);clear hK K;refine AX (hK _ _ _ ?_);clear hK K;have hke:k=l[i].c.toNat:=by simp at hb;omega
  subst hke;rw[xA ht hi]at hkl k3;clear hb;refine aC fun K hK=>bH (by kernel_rfl) ?_;simp only[sR,simprocAttr];have F:=aI @lA @kZ;refine SGF ?_;refine cH (g:=none) 2008 rfl rfl fun K' hK'=>?_;simp only[eX,gZ,sH,↓sP,sA,tyS,simprocAttr,lA,kZ];repeat refine AI ?_
  refine cF (by first|rfl|simp) ?_;try simp only[sH,↓sP,sA,tyS,simprocAttr,lA,kZ]
  refine AX (hK' _ _ ?_);clear hK' K';iterate 5 refine SGF ?_
  refine T2 (hK _ _ _ ?_);clear hK K;refine aF (RT Tryz.results52 ?_);rw[tF ht hi hk1,xA ht hi];exact xC (M:=L++wlN l[i]::(dX l i l[i].c.toNat++[[wEnd]])) rfl rfl (by simp) (by simp[lsC,wEnd])
 refine R0 ?_;refine aL ?_;refine R0 ?_;refine aJ (b:=(l[i].k==1)) rfl (fun hb=>?_) (fun hb=>?_)
 ·
  have hk:l[i].k=1:=by simpa using hb
  obtain⟨⟨r1,r2⟩,r3,r4⟩:=bQ6 (bY7 hnode hk);clear hb;refine aC fun K hK=>Rg ?_;have F:=aI @lA @kZ;iterate 3 refine SF ?_
  refine HS rfl rfl fun K' hK'=>T6 ?_;refine eH (args:=[_]) 0 (bS1 l[i].q ⟨by omega,by omega⟩ ⟨by omega,by omega⟩) rfl (by simp) ⟨rfl,rfl,rfl,rfl⟩ ?_;rintro u rfl;refine AX (hK' _ _ ?_);clear hK' K';iterate 5 refine SF ?_
  refine T2 (hK _ _ _ ?_);clear hK K;refine aF (RT Tryz.results52 ?_);rw[wO hi hk,aN7 ht hi hk];exact xC (M:=L++[wlR l[i].q]) rfl rfl (by simp) (by simp)
 have hk1:l[i].k≠1:=by simpa using hb
 clear hb;refine R0 ?_;refine aJ (b:=(l[i].k==2)) rfl (fun hb=>?_) (fun hb=>?_)
 ·
  have hk:l[i].k=2:=by simpa using hb
  have hwl:wlN l[i]=[oW]:=by simp[wlN,hk]
  clear hb;refine bH (by kernel_rfl) ?_;simp only[sR,simprocAttr];refine SG0 ?_;refine cH (g:=none) 74 rfl rfl fun K' hK'=>?_;simp only[eX,gZ,sH,↓sP,sA,tyS,simprocAttr];repeat refine AI ?_
  refine cF (by first|rfl|simp) ?_;try simp only[sH,↓sP,sA,tyS,simprocAttr]
  refine AX (hK' _ _ ?_);clear hK' K';iterate 3 refine SG0 ?_
  refine T4 ?_;exact key _ _ _ hk1 (by rw[hwl];exact aN (by omega) (by simp[aY,fin_at,finA_at,upd_at,HV.men,HV.menL,HV.norm,HV.toC,HV.toCL,lsC,oW,oX,dE]) (by simp[aW,fob_at,upd_at,none0_at,bW,HO.men,HV.men,HV.menL,HV.norm,HV.toC,HV.toCL,lsC,oW,oX,dE]))
 have hk2:l[i].k≠2:=by simpa using hb
 clear hb;refine R0 ?_;refine aJ (b:=(l[i].k==3)) rfl (fun hb=>?_) (fun hb=>?_)
 ·
  have hk:l[i].k=3:=by simpa using hb
  have hwl:wlN l[i]=[oX]:=by simp[wlN,hk]
  clear hb;refine bH (by kernel_rfl) ?_;simp only[sR,simprocAttr];refine SG0 ?_;refine cH (g:=none) 82 rfl rfl fun K' hK'=>?_;simp only[eX,gZ,sH,↓sP,sA,tyS,simprocAttr];repeat refine AI ?_
  refine cF (by first|rfl|simp) ?_;try simp only[sH,↓sP,sA,tyS,simprocAttr]
  refine AX (hK' _ _ ?_);clear hK' K';iterate 3 refine SG0 ?_
  refine T4 ?_;exact key _ _ _ hk1 (by rw[hwl];exact aN (by omega) (by simp[aY,fin_at,finA_at,upd_at,HV.men,HV.menL,HV.norm,HV.toC,HV.toCL,lsC,oW,oX,dE]) (by simp[aW,fob_at,upd_at,none0_at,bW,HO.men,HV.men,HV.menL,HV.norm,HV.toC,HV.toCL,lsC,oW,oX,dE]))
 have hk3:l[i].k≠3:=by simpa using hb
 have hk4:=bY6 hnode hk1 hk2 hk3;clear hb;refine R0 ?_;refine aJ (b:=(l[i].k==4)) rfl (fun hb=>?_) (fun hb=>?_)
 ·
  have hwl:wlN l[i]=[dE,numW l[i].n]:=by simp[wlN,hk2,hk3]
  have hnn:=bY8 hnode hk4;clear hb;refine bH (by kernel_rfl) ?_;simp only[sR,simprocAttr];iterate 3 refine SG0 ?_
  refine bK (g:=none) rfl rfl fun K' hK'=>T5 ?_;refine eH (args:=[_]) 0 (xB l[i].n ⟨by omega,by omega⟩) rfl (by simp) ⟨rfl,rfl,rfl,rfl⟩ ?_;rintro u rfl;refine AX (hK' _ _ ?_);clear hK' K';refine cH (g:=none) 102 rfl rfl fun K' hK'=>?_;simp only[eX,gZ,sH,↓sP,sA,tyS,simprocAttr];repeat refine AI ?_
  refine cF (by first|rfl|simp) ?_;try simp only[sH,↓sP,sA,tyS,simprocAttr]
  refine AX (hK' _ _ ?_);clear hK' K';iterate 3 refine SG0 ?_
  refine T4 ?_;exact key _ _ _ hk1 (by rw[hwl];exact aN (by omega) (by simp[aY,fin_at,finA_at,upd_at,HV.men,HV.menL,HV.norm,HV.toC,HV.toCL,lsC,oW,oX,dE]) (by simp[aW,fob_at,upd_at,none0_at,bW,HO.men,HV.men,HV.menL,HV.norm,HV.toC,HV.toCL,lsC,oW,oX,dE]))
 rw[hk4]at hb;cases hb
end Go.Proofs.YtlldglbooaefhaaGreatDoor
namespace Go.Pl
open Go Go.Hl
theorem cA1 (q:Rq):(wlR q).length≤5:=by grind[wlR]
theorem cA2 (n:Nd):(wlN n).length≤5:=by grind[wlN]
theorem uG : ∀(f m:Nat) (l:List Nd),∀x∈dQ f m l,x.length≤5
 |0,m,l,x,h=>by simp[dQ]at h
 |f+1,0,l,x,h=>by cases l<;>simp[dQ]at h
 |f+1,m+1,[],x,h=>by simp[dQ]at h
 |f+1,m+1,n::l,x,h=>by
  simp only[dQ]at h;split at h
  ·
   rcases List.mem_cons.1 h with rfl|h
   · exact cA1 _
   · exact uG f _ _ x h
  ·
   rcases List.mem_cons.1 h with rfl|h
   · exact cA2 _
   ·
    rcases List.mem_append.1 h with h|h
    · exact uG f _ _ x h
    ·
     rcases List.mem_cons.1 h with rfl|h
     · simp
     · exact uG f _ _ x h
theorem xD (t:List Nd):jG t 0=aT2 t:=by simp[jG,aT2]
def pF (p:Po)(i:Nat):List (List aH):=[wPolicy,p.n,numW p.v]::(p.r.take i).flatMap jF
theorem aA3 {p:Po}{i:Nat}(hi:i<p.r.length):pF p (i+1)=pF p i++jF p.r[i]:=by grind[pF,List.take_succ_eq_append_getElem]
theorem aO8 (p:Po):pF p p.r.length=oY p:=by simp[pF,oY]
theorem bG8 {r:Pr}(h:iE r=true):(jF r).length≤121:=by
 obtain⟨_,ht,_⟩:=nI h;have h0:0<r.t.length:=ht.ne;have h1:=bQ7 ht h0;have h2:=(kG ht h0).2.1;have h3:=ht.len;grind[xD,jF,List.length_cons]
theorem aO9 {p:Po}(h: ∀r∈p.r,iE r=true): ∀i,i≤p.r.length→(pF p i).length≤1+121*i
 |0,_=>by simp[pF]
 |i+1,hi=>by
  have:=aO9 h i (by omega);grind[bG8,List.getElem_mem,aA3,List.length_append]
theorem cA3 (p:Po): ∀x∈oY p,x.length<2^40:=by
 intro x hx;have:x.length≤5:=by
  simp only[oY]at hx;rcases List.mem_cons.1 hx with rfl|hx
  · simp
  ·
   obtain⟨r,_,hx⟩:=List.mem_flatMap.1 hx;simp only[jF]at hx;rcases List.mem_cons.1 hx with rfl|hx
   · simp
   · exact uG _ _ _ x hx
 omega
end Go.Pl
namespace Go.Proofs.YtlldglbooaefhaaGreatDoor
open Go Go.Hl Go.Pl
set_option maxRecDepth 10000
set_option maxHeartbeats 16000000
theorem bS3 (ls:List (List aH))(h0:ls.length<2^40)(h1: ∀l∈ls,l.length<2^40):lK Tryz.prog 53 [.slc (ls.map lsC)] (fun u v=>u= .slc ((pS ls).map eA)∧v= .int .i64 (lJ ls)):=cD5 ls h0 h1
theorem aU8 (N n:Nat)(ob:Ob)(e:TypeId)(sz:Nat)(T:kF)(L:List CV):jN (sub [0,N] n) ob 0 [.tab T,.row e sz L]=upd (upd ob 0 (some (.tab T))) N (some (.row e sz L)):=rfl
theorem bA1 (p:Po)(hp:PoSz p):aX3 Tryz.prog 27 tabs [p.cv] (fun u v=>u= .slc ((rW p).map eA)∧v= .int .i64 (xQ p)):=by
 refine bS (args:=[.c p.cv]) Tryz.func27 rfl (by kernel_rfl) (fE tabs [p.cv]) (Nat.le_of_ble_eq_true rfl) ?_;unfold eK;refine R0 ?_;refine aC fun K hK=>?_;refine aC fun K hK=>Rg ?_;refine S0 ?_;refine HS rfl rfl fun K' hK'=>T5 ?_;refine C1 (sC p hp) ?_;rintro u rfl;refine AX (hK' _ _ ?_);clear hK' K';refine S0 ?_;refine T2 (hK _ _ _ ?_);clear hK K;refine aJ (b:=!eJ p) rfl (fun hb=>?_) (fun hb=>?_)
 ·
  refine R0 ?_;refine aF (RT Tryz.results27 ?_);have hv:eJ p=false:=by simpa using hb
  refine tB [] (.slc []) (.int .i64 1) ?_ rfl (by simp) ⟨by rw[rW,hv];rfl,by rw[xQ,hv];rfl⟩;simp[HV.close,HV.closeL,CV.denil,CV.denilL,HV.norm,HV.toC,HV.toCL]
 refine aK ?_;refine T0 (hK _ _ _ ?_);clear hK K;have hv:eJ p=true:=by simpa using hb
 clear hb;obtain⟨⟨v1,v2⟩,hr16,_,hrules⟩:=aD8 hv;refine aC fun K hK=>eL mixed [(0,[],[]),(1,[],[]),(2,[],[]),(3,[],[]),(4,[],[0,1]),(5,[],[]),(6,[],[]),(7,[],[])] [0,1,0,4,12,31,63,127] (by kernel_rfl) (by kernel_rfl) (by kernel_rfl) (by kernel_rfl) rfl (by kernel_rfl) ?_;iterate 4 refine WG0 ?_
 refine eG (g:=none) rfl rfl fun K' hK'=>T5 ?_;refine eH (args:=[_]) 0 (xB p.v ⟨by omega,by omega⟩) rfl (by simp) ⟨rfl,rfl,rfl,rfl⟩ ?_;rintro u rfl;refine AX (hK' _ _ ?_);clear hK' K';refine eO (g:=none) 45 rfl rfl fun K' hK'=>?_;simp only[eX,gZ,sH,↓sP,sA,tyS,simprocAttr];repeat refine AI ?_
 refine cF (by first|rfl|simp) ?_;try simp only[sH,↓sP,sA,tyS,simprocAttr]
 refine AX (hK' _ _ ?_);clear hK' K';iterate 2 refine WG0 ?_
 refine T2 (hK _ _ _ ?_);clear hK K;refine aC fun K hK=>?_;refine aC fun K hK=>Rg ?_;iterate 4 refine S0 ?_
 refine T2 (hK _ _ _ ?_);clear hK K;refine aL ?_;refine bF (α:={i:Nat//i≤p.r.length}) (fun i=>(fin [(4,.own 49 (pF p i.1).length),(18,.c (.slc (p.r.map Pr.cv))),(19,.c (.int .i64 p.r.length)),(20,.c (.int .i64 i.1))],fob [(0,.tab tabs),(49,.row 60 1 ((pF p i.1).map lsC))])) 2000 (fun i=>p.r.length-i.1) ⟨0,by omega⟩ (aN (by omega) (by simp[aY,fin_at,finA_at,upd_at,HV.men,HV.menL,HV.norm,HV.toC,HV.toCL,pF,lsC,wPolicy]) (by simp[aW,fob_at,upd_at,none0_at,bW,HO.men,HV.men,HV.menL,HV.norm,HV.toC,HV.toCL,pF,lsC,wPolicy])) ?_;rintro⟨i,hi⟩;have hll:=aO9 hrules i hi;have hl0:0<(pF p i).length:=by simp[pF]
 refine R0 ?_;refine aC fun K hK=>?_;refine aJ (b:=decide ((i:Int)<p.r.length)) rfl (fun hb=>?_) (fun hb=>?_)
 ·
  have hlt:i<p.r.length:=by simpa using hb
  clear hb;obtain⟨r,hr⟩: ∃r,r=p.r[i]:=⟨_,rfl⟩;have hrule:=hrules r (by rw[hr];exact List.getElem_mem hlt);obtain⟨⟨g1,g2⟩,ht,_⟩:=nI hrule;have ht0:0<r.t.length:=ht.ne;have htl:=ht.len;obtain⟨L,hL⟩: ∃L,L=pF p i:=⟨_,rfl⟩;rw[←hL]at hll hl0⊢;refine aK ?_;refine T0 (hK _ _ _ ?_);clear hK K;refine aC fun K hK=>?_;refine aL ?_;refine aC fun K hK=>Rg ?_;iterate 4 refine S0 ?_ (e:=fun _ h_=>by simp only[sH,↓sP,sA,tyS,simprocAttr,Int.natCast_nonneg,Int.ofNat_lt,hlt,bR hlt,←hr];exact AX h_)
  refine T2 (hK _ _ _ ?_);clear hK K;refine aC fun K hK=>eL mixed [(0,[],[]),(1,[],[]),(2,[],[]),(3,[],[]),(4,[],[]),(5,[],[]),(6,[],[]),(7,[],[]),(8,[],[]),(9,[],[0,1,2,3,4,5,6]),(10,[],[]),(11,[],[]),(12,[],[]),(13,[],[])] [0,0,2,0,8,0,32,0,128,384,1022,2046,4095,8191] (by kernel_rfl) (by kernel_rfl) (by kernel_rfl) (by kernel_rfl) rfl (by kernel_rfl) ?_;iterate 9 refine WG0 ?_
  refine eG (g:=none) rfl rfl fun K' hK'=>T5 ?_;refine eH (args:=[_]) 0 (xB r.g ⟨by omega,by omega⟩) rfl (by simp) ⟨rfl,rfl,rfl,rfl⟩ ?_;rintro u rfl;refine AX (hK' _ _ ?_);clear hK' K';refine eO (g:=none) 2060 rfl rfl fun K' hK'=>?_;simp only[eX,gZ,sH,↓sP,sA,tyS,simprocAttr];repeat refine AI ?_
  refine cF (by first|rfl|simp) ?_;try simp only[sH,↓sP,sA,tyS,simprocAttr]
  refine AX (hK' _ _ ?_);clear hK' K';iterate 3 refine WG0 ?_
  refine T2 (hK _ _ _ ?_);clear hK K;obtain⟨M,hM⟩: ∃M,M=L++[[wRule,r.a,r.b,r.c,numW r.g]]:=⟨_,rfl⟩;have hMm:List.map lsC L++[CV.slc [CV.str [114,117,108,101],CV.str r.a,CV.str r.b,CV.str r.c,CV.str (numW r.g)]]=List.map lsC M:=by rw[hM];simp[lsC,wRule]
  have hMl:L.length+1=M.length:=by rw[hM];simp
  rw[hMm];simp only[List.length_map];refine Rg ?_;iterate 3 refine S0 ?_
  refine HS rfl rfl fun K' hK'=>T5 ?_;refine fT [0,49] (bS2 r.t ht r.t.length M 0 ht0 (by omega) (by rw[hM];simp) (by rw[hM];simp;omega)) rfl ⟨rfl,rfl,trivial⟩ (by simp) (by simp) ⟨rfl,rfl,rfl,rfl⟩ (by simp[eC,HO.men,HV.men,HV.menL]) (by simp[HV.menL,HV.men]) ?_;rintro q os' ⟨rfl,rfl⟩;rw[aU8,aA2];refine AX (hK' _ _ ?_);clear hK' K';iterate 4 refine S0 ?_
  refine T2 (hK _ _ _ ?_);clear hK K;refine aM (by kernel_rfl) ?_;refine TQ (IntWalk.i64_in ((i:Int)+1) (by omega)) ?_;refine⟨⟨i+1,hlt⟩,?_,?_⟩
  ·
   have e1:M++jG r.t 0=pF p (i+1):=by rw[aA3 hlt,hM,hL,xD,←hr];simp[jF]
   rw[e1];exact fF
  show p.r.length-(i+1)<p.r.length-i;omega
 refine bA (T3 ?_);clear hK K;refine AX (hK _ _ _ ?_);clear hK K;have hei:i=p.r.length:=by simp at hb;omega
 subst hei;clear hb;rw[aO8];refine dU [49] (bG (fr2:=fin [(4,.c (.slc ((oY p).map lsC)))]) (ob2:=fob [(0,.tab tabs)]) (nx2:=3000) (aN (by omega) (by simp[aY,fY,fin_at,finA_at,upd_at,fob_at,HV.close,HV.closeL,CV.denil,CV.denilL,aS,HV.men,HV.menL,HV.norm,HV.toC,HV.toCL]) (by simp[aW,fZ,fob_at,upd_at,none0_at,bW,HO.close,HV.close,HV.closeL,HO.men,HV.men,HV.menL,HV.norm,HV.toC,HV.toCL])) ?_);rw[aO8]at hll;refine aC fun K hK=>Rg ?_;have F:=@aS;refine SF ?_;refine HS rfl rfl fun K' hK'=>T6 ?_;refine D1 (bS3 (oY p) (by omega) (cA3 p)) ?_;rintro u v ⟨rfl,rfl⟩;refine AX (hK' _ _ ?_);clear hK' K';iterate 4 refine SF ?_
 refine T2 (hK _ _ _ ?_);clear hK K;refine aF (RT Tryz.results27 ?_);exact tB [] (.slc ((pS (oY p)).map eA)) (.int .i64 (lJ (oY p))) (by simp[HV.close,HV.closeL,CV.denil,CV.denilL,dV,HV.norm,HV.toC,HV.toCL]) rfl (by simp) ⟨by rw[rW,if_pos hv],by rw[xQ,if_pos hv]⟩
end Go.Proofs.YtlldglbooaefhaaGreatDoor
namespace Go.Hl
open Go
def bA2 (P:Program)(f:FuncId)(T:kF)(args:List CV)(R:CV→CV→CV→Prop):Prop:=
 HFn P f (args.map .c) 1 (eK T) (fun r ob'=> ∃u v x,r= .tup [.c u,.c v,.c x]∧ob'=eK T∧R u v x)
variable {R:CV→CV→CV→Prop}{T:kF}{ob:Ob}
theorem iH {r:HV}(cl:List Nat)(u v x:CV)(h:(r.close ob cl).norm= .tup [.c u,.c v,.c x])(hb:ob 0=some (.tab T))(h0:0∉cl)(hR:R u v x):
  lX 1 r ob (fun r ob'=> ∃u v x,r= .tup [.c u,.c v,.c x]∧ob'=eK T∧R u v x):=
 ⟨cl,id,.tup [.c u,.c v,.c x],eK T,⟨u,v,x,rfl,rfl,hR⟩,by grind[HV.ren,HV.renL],fun _ _=>rfl,fun _ _ _ _ h=>h,by simp[HV.men,HV.menL],aR9 hb h0⟩
theorem aP0 {P:Program}{av:List Nat}{f:FuncId}{nid:Nat}{K:HV→Ob→Prop}{args:List CV}(id:Nat)(h:bA2 P f T args R)(hid:ob id=some (.tab T))(hav:id∉av)
  (hfree:ob nid=none∧ob (nid+1)=none∧ob (nid+2)=none∧ob (nid+3)=none) (hK: ∀u v x,R u v x→K (.tup [.c u,.c v,.c x]) ob):HCall P av f (args.map .c) ob nid K:=by
 refine⟨[id],args.map .c,_,_,h,fE T args,⟨by simp,by grind⟩,(HV.renL_c _ _).symm,rM hid,fun r lob' hR _=>?_⟩;obtain⟨u,v,x,rfl,rfl,hR⟩:=hR;rw[mX hid hfree];exact hK u v x hR
end Go.Hl
namespace Go.Pl
open Go Go.Hl
def LsB (ls:List (List aH)):Prop:= ∀l∈ls,∀w∈l,w.length<2^40
variable {ls:List (List aH)}
theorem LsB.drop (h:LsB ls)(j:Nat):LsB (ls.drop j):=fun l hl=>h l (List.mem_of_mem_drop hl)
theorem cF3 {l:List aH}(h: ∀w∈l,w.length<2^40)(i:Nat):(wd l i).length<2^40:=by grind[wd,Nat.lt_or_ge,List.getElem?_eq_getElem,List.getElem_mem,List.getElem?_eq_none]
variable {w:List aH}
theorem cF4 (h: ∀x∈w,x.length<2^40){q:Rq}(hq:fC w=some q):q.t.length<2^40:=by
 have h1:=cF3 h 1;have hm: ∀(k:Int) (o:Option Int),o.map (fun n=>(⟨k,n,0,[]⟩:Rq))=some q→q.t.length<2^40:=fun k o ho=>by
  cases o with
  |none=>grind
  |some n=>grind
 unfold fC at hq;split at hq
 · exact hm _ _ hq
 ·
  split at hq
  · grind
  ·
   split at hq
   · exact hm _ _ hq
   ·
    split at hq
    · grind
    ·
     split at hq
     · exact hm _ _ hq
     ·
      split at hq
      · exact hm _ _ hq
      ·
       split at hq
       · exact hm _ _ hq
       grind
theorem cF5 {n:Nd}(h:jH w=some n):n.q=rq0:=by grind[jH,bL,wd]
theorem cJ7 : ∀f,(∀ls,LsB ls→ ∀t,(rdN f ls).1=some t→ ∀n∈t,n.q.t.length<2^40)∧(∀ls,LsB ls→ ∀p,(rdK f ls).1=some p→ ∀n∈p.1,n.q.t.length<2^40)
 |0=>⟨fun ls _ t h=>by simp[rdN]at h,fun ls _ t h=>by simp[rdK]at h⟩
 |f+1=>by
  obtain⟨ihN,ihK⟩:=cJ7 f;refine⟨fun ls hb t h=>?_,fun ls hb p h=>?_⟩
  ·
   match ls with
   |[]=>simp[rdN]at h
   |w::r=>
    cases h1:fC w with
    |some q=>
     rw[nK h1]at h;cases h;intro n hn;rw[List.mem_singleton]at hn;subst hn;exact cF4 (hb w (by simp)) h1
    |none=>
     cases h2:jH w with
     |none=>grind[nL]
     |some n=>
      rw[oE h1 h2]at h;cases hk:(rdK f r).1 with
      |none=>simp[xT,hk]at h
      |some p=>
       simp only[xT,hk,Option.map_some,Option.some.injEq]at h;subst h;intro x hx;rcases List.mem_cons.1 hx with rfl|hx
       · grind[cF5,rq0]
       · exact ihK r (fun l hl=>hb l (by grind)) p hk x hx
  ·
   cases he:iF (ls.headD [])with
   |true=>grind[aE8]
   |false=>
    match h2:rdN f ls with
    |(none,r)=>simp_all[aU1]
    |(some t,r)=>
     rw[wZ he h2]at h;obtain⟨j,hj,_⟩:=(aE9 f).1 ls;rw[h2]at hj;have hj':r=ls.drop j:=hj;cases hk:(rdK f r).1 with
     |none=>simp[pE,hk]at h
     |some q=>
      simp only[pE,hk,Option.map_some,Option.some.injEq]at h;subst h;intro x hx;rcases List.mem_append.1 hx with hx|hx
      · grind
      · exact ihK r (by rw[hj'];exact hb.drop j) q hk x hx
def cF6 (r:Pr):Prop:=r.a.length<2^40∧ ∀n∈r.t,n.q.t.length<2^63
theorem cJ8 (hb:LsB ls){x:Pr}(h:(rdR ls).1=some x):cF6 x:=by
 match ls with
 |[]=>cases h
 |w::r=>
  simp only[rdR]at h;split at h
  ·
   cases hn:bL (wd w 4)with
   |none=>grind
   |some g=>
    rw[hn]at h;simp only at h
    match hm:rdT r with
    |(none,r')=>grind
    |(some t,r')=>
     rw[hm]at h;cases h;have h1:=(cJ7 (2*r.length+2)).1 r (fun l hl=>hb l (by grind)) t (by grind[rdT]);exact⟨cF3 (hb w (by simp)) 1,fun n hn=>Nat.lt_trans (h1 n hn) (by decide)⟩
  grind
theorem bS4 : ∀(f:Nat) (ls:List (List aH)) (acc:List Pr),LsB ls→(∀r∈acc,cF6 r)→ ∀l,(kI f ls acc).1=some l→(∀r∈l,cF6 r)∧l.length≤acc.length+f
 |0,ls,acc,_,_,l,h=>by simp[kI]at h
 |f+1,ls,acc,hb,ha,l,h=>by
  simp only[kI]at h;split at h
  · grind
  ·
   match hm:rdR ls with
   |(none,r)=>grind
   |(some x,r)=>
    rw[hm]at h;obtain⟨j,_,hj,_⟩:=aF0 ls;rw[hm]at hj;have hj':r=ls.drop j:=hj;have hx:=cJ8 hb (x:=x) (by rw[hm]);obtain⟨h1,h2⟩:=bS4 f r (acc++[x]) (by rw[hj'];exact hb.drop j) (fun y hy=>by grind) l h;grind
theorem cJ9 (hb:LsB ls)(hl:ls.length<2^39){p:Po}(h:(rdP ls).1=some p):PoSz p:=by
 match ls with
 |[]=>cases h
 |w::r=>
  simp only[rdP]at h;split at h
  ·
   cases hn:bL (wd w 2)with
   |none=>grind
   |some v=>
    rw[hn]at h;simp only at h
    match hm:kI (r.length+1) r []with
    |(none,r')=>grind
    |(some l,r')=>
     rw[hm]at h;cases h;obtain⟨h1,h2⟩:=bS4 (r.length+1) r [] (fun x hx=>hb x (by grind)) (by simp) l (by rw[hm]);simp only[List.length_cons,List.length_nil]at hl h2;exact⟨Nat.lt_of_lt_of_le (cF3 (hb w (by simp)) 1) (by decide),by grind,fun x hx=>Nat.lt_of_lt_of_le (h1 x hx).1 (by decide),fun x hx=>(h1 x hx).2⟩
  grind
end Go.Pl
namespace Go.Proofs.YtlldglbooaefhaaGreatDoor
open Go Go.Hl Go.Pl
set_option maxRecDepth 10000
set_option maxHeartbeats 16000000
theorem cA4 (b:aH):LsB (fI b):=fun l hl w hw=>by
 have:=(bW6 (b:=b) l hl).2.2 w hw;omega
theorem bG9 (a b:aH):bV Tryz.prog 64 [.slc (a.map eA),.slc (b.map eA)] (fun v=>v= .bool (a==b)):=by
 refine FW Tryz.func64 ?_;refine R0 ?_;refine aC fun K hK=>Rg ?_;have F:=@bytesC_map;iterate 6 refine SF ?_
 refine T2 (hK _ _ _ ?_);clear hK K;refine aF (RT Tryz.results64 ?_);exact aG [] (.bool (a==b)) rfl rfl
theorem cA5 (b:aH)(hl:b.length<2^40):bA2 Tryz.prog 32 tabs [.slc (b.map u8)] (fun u v x=>u=(dpO b).cv∧v= .int .i64 (dpL b:Nat)∧x= .int .i64 (dpE b)):=by
 refine bS (args:=[.c (.slc (b.map u8))]) Tryz.func32 rfl (by kernel_rfl) (fE tabs [.slc (b.map u8)]) (Nat.le_of_ble_eq_true rfl) ?_;unfold eK;have hlen:=bM9 (b:=b);refine R0 ?_;refine aC fun K hK=>Rg ?_;have F:=@denilL_u8;refine SF ?_;refine HS rfl rfl fun K' hK'=>T6 ?_;refine D1 (cF1 b hl) ?_;rintro u v ⟨rfl,rfl⟩;refine AX (hK' _ _ ?_);clear hK' K';iterate 5 refine SF ?_
 refine T2 (hK _ _ _ ?_);clear hK K;refine aC fun K hK=>?_;refine R0 ?_;refine aJ (b:=!(iK b==0)) rfl (fun hb=>?_) (fun hb=>?_)
 ·
  have he:iK b≠0:=by simpa using hb
  have e1:dpE b=iK b:=by rw[dpE,if_pos he]
  have e2:dpL b=0:=by rw[dpL,if_pos he]
  have e3:dpO b=po0:=by rw[dpO,e1,if_neg he]
  clear hb;refine aC fun K hK=>Rg ?_;iterate 5 refine S0 ?_
  refine T2 (hK _ _ _ ?_);clear hK K;refine aF (RT Tryz.results32 ?_);exact iH [] po0.cv (.int .i64 0) (.int .i64 (iK b)) (by simp[HV.close,HV.closeL,po0,Po.cv,CV.denil,CV.denilL,HV.norm,HV.toC,HV.toCL]) rfl (by simp) (by rw[e1,e2,e3];exact⟨rfl,rfl,rfl⟩)
 refine aK ?_;refine T0 (hK _ _ _ ?_);clear hK K;have he:iK b=0:=by simpa using hb
 clear hb;refine aC fun K hK=>Rg ?_;iterate 4 refine S0 ?_
 refine T2 (hK _ _ _ ?_);clear hK K;refine aC fun K hK=>Rg ?_;refine S0 ?_;refine HS rfl rfl fun K' hK'=>T5 ?_;refine dS (args:=[]) (bS0 (fI b) (by omega)) rfl (by simp) ⟨rfl,rfl,rfl,rfl⟩ ?_;rintro u x v' ⟨q,rfl,rfl,rfl,hq⟩;refine AX (hK' _ _ ?_);clear hK' K';iterate 5 refine S0 ?_
 refine T2 (hK _ _ _ ?_);clear hK K;refine aC fun K hK=>?_;refine R0 ?_;refine aJ (b:=!(rdP (fI b)).1.isSome) rfl (fun hb=>?_) (fun hb=>?_)
 ·
  have hno:(rdP (fI b)).1=none:=by simpa using hb
  have e1:dpE b=2:=by rw[dpE,if_neg (by simpa using he),hno]
  have e2:dpL b=(fI b).length-(rdP (fI b)).2.length:=by
   rw[dpL,if_neg (by simpa using he)]
   match h:rdP (fI b)with
   |(none,r)=>rfl
   |(some p,r)=>rw[h]at hno;cases hno
  have e3:dpO b=po0:=by rw[dpO,e1,if_neg (by decide)]
  clear hb;refine aC fun K hK=>DW [(0,[],[]),(1,[],[]),(2,[],[]),(3,[],[]),(4,[],[]),(5,[],[1,2,3,4]),(6,[],[]),(7,[],[])] [0,0,2,6,14,1,63,127] ?_;iterate 8 refine W0 ?_ (e:=fun _ h_=>by simp only[sH,↓sP,sA,tyS,simprocAttr,rdr];exact AX h_)
  refine T2 (hK _ _ _ ?_);clear hK K;refine aF (RT Tryz.results32 ?_);exact iH [] po0.cv (.int .i64 ((fI b).length-(rdP (fI b)).2.length:Nat)) (.int .i64 2) (by simp[HV.close,HV.closeL,po0,Po.cv,CV.denil,CV.denilL,HV.norm,HV.toC,HV.toCL]) rfl (by simp) (by rw[e1,e2,e3];exact⟨rfl,rfl,rfl⟩)
 refine aK ?_;refine T0 (hK _ _ _ ?_);clear hK K;refine aC fun K hK=>?_;obtain⟨p,hp⟩: ∃p,(rdP (fI b)).1=some p:=by
  cases h:(rdP (fI b)).1 with
  |none=>rw[h]at hb;simp at hb
  |some p=>exact⟨p,rfl⟩
 obtain rfl:=hq p hp;have hsz:=cJ9 (cA4 b) (by omega) hp;have hr:rdP (fI b)=(some q,(rdP (fI b)).2):=Prod.ext hp rfl;have hiff:=cE2 he hr;have e1:dpE b=if eJ q then 0 else 1:=by rw[dpE,if_neg (by simpa using he),hp]
 have e2:dpL b=0:=by rw[dpL,if_neg (by simpa using he),hr]
 clear hb;refine aC fun K hK=>Rg ?_;refine S0 ?_;refine HS rfl rfl fun K' hK'=>T5 ?_;refine tC (args:=[_]) 0 (bA1 q hsz) rfl (by simp) ⟨rfl,rfl,rfl,rfl⟩ ?_;rintro u v ⟨rfl,rfl⟩;refine AX (hK' _ _ ?_);clear hK' K';iterate 5 refine S0 ?_
 refine T2 (hK _ _ _ ?_);clear hK K;refine aC fun K hK=>Rg ?_;have F:=aI @dV @denilL_u8;iterate 3 refine SF ?_
 refine aE 40 rfl (fun h9_40=>?_) (fun h9_40=>?_)
 ·
  have F:=aI @dV (aI @denilL_u8 h9_40);iterate 5 refine SF ?_
  refine T2 (hK _ _ _ ?_);clear hK K;refine CT rfl ?_;refine aC fun K hK=>Rg ?_;have F:=h9_40;iterate 4 refine SF ?_
  refine T2 (hK _ _ _ ?_);clear hK K;refine aF (RT Tryz.results32 ?_);have hpo:eJ q=false:=by
   cases h:eJ q with
   |false=>rfl
   |true=>exact absurd (hiff.2 h).1 (by simpa using h9_40)
  rw[hpo]at e1;have e1:dpE b=1:=e1;have e3:dpO b=po0:=by rw[dpO,e1,if_neg (by decide)]
  exact iH [] po0.cv (.int .i64 0) (.int .i64 1) (by simp[HV.close,HV.closeL,po0,Po.cv,CV.denil,CV.denilL,HV.norm,HV.toC,HV.toCL]) rfl (by simp) (by rw[e1,e2,e3];exact⟨rfl,rfl,rfl⟩)
 have F:=aI @dV (aI @denilL_u8 h9_40);iterate 2 refine SF ?_
 refine aV (g:=some (41,false)) rfl rfl fun K' hK'=>T6 ?_;refine C2 (bG9 (rW q) b) ?_;rintro u rfl;refine AX (hK' _ _ ?_);clear hK' K';iterate 2 refine SF ?_
 refine aE 44 rfl (fun h9_44=>?_) (fun h9_44=>?_)
 ·
  simp only[h9_44];refine T2 (hK _ _ _ ?_);clear hK K;refine CF rfl ?_;refine aK ?_;refine T0 (hK _ _ _ ?_);clear hK K;refine aC fun K hK=>Rg ?_;have F:=aI h9_40 h9_44;iterate 4 refine SF ?_
  refine T2 (hK _ _ _ ?_);clear hK K;refine aF (RT Tryz.results32 ?_);have hpo:eJ q=true:=hiff.1 ⟨by simpa using h9_40,by simpa using h9_44⟩;rw[hpo]at e1;have e1:dpE b=0:=e1;have e3:dpO b=q:=by rw[dpO,if_pos e1,hp];rfl
  exact iH [] q.cv (.int .i64 0) (.int .i64 0) (by simp[HV.close,HV.closeL,Po.denil,CV.denil,CV.denilL,HV.norm,HV.toC,HV.toCL]) rfl (by simp) (by rw[e1,e2,e3];exact⟨rfl,rfl,rfl⟩)
 simp only[h9_44];refine T2 (hK _ _ _ ?_);clear hK K;refine CT rfl ?_;refine aC fun K hK=>Rg ?_;have F:=aI h9_40 h9_44;iterate 4 refine SF ?_
 refine T2 (hK _ _ _ ?_);clear hK K;refine aF (RT Tryz.results32 ?_);have hpo:eJ q=false:=by
  cases h:eJ q with
  |false=>rfl
  |true=>exact absurd (hiff.2 h).2 (by simpa using h9_44)
 rw[hpo]at e1;have e1:dpE b=1:=e1;have e3:dpO b=po0:=by rw[dpO,e1,if_neg (by decide)]
 exact iH [] po0.cv (.int .i64 0) (.int .i64 1) (by simp[HV.close,HV.closeL,po0,Po.cv,CV.denil,CV.denilL,HV.norm,HV.toC,HV.toCL]) rfl (by simp) (by rw[e1,e2,e3];exact⟨rfl,rfl,rfl⟩)
theorem bH0 (l:List Nd)(hl:l.length<2^40):aD2 Tryz.prog 76 [(22,.slc (l.map Nd.cv))] (bwL l):=by
 refine yX Tryz.func76 rfl (by kernel_rfl) (Nat.le_of_ble_eq_true rfl) rfl fun L J hS hY=>?_;have e0:jO [(22,CV.slc (l.map Nd.cv))]=fob [(0,.box 22 (.c (.slc (l.map Nd.cv))))]:=by
  funext i
  match i with
  |0=>rfl
  |i+1=>simp[jO,fob,upd]
 have e1:gM (List.range [((22:Nat),CV.slc (l.map Nd.cv))].length)=[.ptr 0 0]:=rfl;rw[e0,e1];refine eQ fun K hK=>mY hS rfl (aM (by kernel_rfl) ?_);simp only[sR,simprocAttr];iterate 4 refine S0 ?_ (e:=fun _ h_=>by simp only[sH,↓sP,sA,tyS,simprocAttr,rI,cL ((l.length:Int)-1) (by omega),List.length_map];exact AX h_)
 simp only[sE,↓reduceIte,simprocAttr,rI];refine hK _ _ _ _ _ ?_;clear hK K;refine oB ?_;refine aK6 (α:={j:Nat//j≤l.length}) hS (fun j=>(fin [(0,.opq (.func (.yield L) #[] #[])),(1,.ptr 0 0),(3,.c (.int .i64 ((l.length:Int)-1-j.1)))],fob [(0,.box 22 (.c (.slc (l.map Nd.cv))))])) (fun j=>j.1) 100 (fun j=>l.length-j.1) ⟨0,Nat.zero_le _⟩ rfl (fF) rfl ?_;rintro⟨j,hj⟩;refine eQ fun K hK=>?_;refine eQ fun K1 hK1=>mY hS rfl (aM (by kernel_rfl) ?_);simp only[sR,simprocAttr];have F:=rI;iterate 2 refine SF ?_
 simp only[sE,↓reduceIte,simprocAttr,rI];refine hK1 _ _ _ _ _ ?_;clear hK1 K1;refine jD (b:=decide ((0:Int)≤(l.length:Int)-1-j)) rfl (fun hb=>?_) (fun hb=>?_)
 ·
  have hlt:j<l.length:=by simp at hb;omega
  have hi2:l.length-1-j<l.length:=by omega
  have hxl:j<(bwL l).length:=by rw[qN];exact hlt
  have hx:=bP4 hxl hi2;have hcast:(l.length:Int)-1-j=((l.length-1-j:Nat):Int):=by omega
  have hw1:IntKind.i64.wrap (((l.length-1-j:Nat):Int)-1)=(l.length:Int)-1-((j:Int)+1):=by rw[cL _ (by omega)];omega
  refine mZ ?_;simp only[sE,↓reduceIte,simprocAttr,rI];refine hK _ _ _ _ _ ?_;clear hK K;refine eQ fun K hK=>?_;refine oB ?_;refine eQ fun K1 hK1=>rO (l:=L) 6 hS hY rfl (by kernel_rfl) (by decide) ?_;simp only[sR,List.range',simprocAttr];have F:=aI rI (aI hcast (aI @List.length_map.{0,0} (aI @Int.natCast_nonneg (aI @Int.ofNat_lt (aI hi2 (nM hi2))))));iterate 6 refine SF ?_
  rw[hlex];refine⟨_,_,_,hxl,rfl,rfl,rfl,rfl,rfl,?_,?_,?_⟩
  · rw[hx];simp only[hcast];rfl
  ·
   simp only[sR,List.range',simprocAttr];have F:=rI;refine SF ?_;simp only[sE,↓reduceIte,simprocAttr,rI];refine hK1 _ _ _ _ _ ?_;clear hK1 K1;refine jD (b:=false) rfl (fun hb=>by cases hb) (fun _=>?_);refine mZ ?_;simp only[sE,↓reduceIte,simprocAttr,rI];refine hK _ _ _ _ _ ?_;clear hK K;refine mY hS rfl (aM (by kernel_rfl) ?_);simp only[sR,simprocAttr];have F:=aI rI (aI hcast hw1);iterate 3 refine SF ?_
   simp only[sE,↓reduceIte,simprocAttr,rI];refine⟨⟨j+1,hlt⟩,fF,trivial,rfl,?_⟩;show l.length-(j+1)<l.length-j;omega
  simp only[sR,List.range',simprocAttr];have F:=rI;refine SF ?_;simp only[sE,↓reduceIte,simprocAttr,rI];refine hK1 _ _ _ _ _ ?_;clear hK1 K1;refine jD (b:=true) rfl (fun _=>?_) (fun hb=>by cases hb);refine aX4 ?_;simp only[sE,↓reduceIte,simprocAttr,rI];exact⟨by simp,fun h=>by cases h⟩
 have hji:j=l.length:=by simp at hb;omega
 refine aK5 ?_;simp only[sE,↓reduceIte,simprocAttr,rI];exact⟨by simp,fun _=>by rw[qN];exact hji⟩
theorem cA6 (l:List Nd):aX5 Tryz.prog 46 76 [.slc (l.map Nd.cv)] [(22,.slc (l.map Nd.cv))]:=by
 refine FW Tryz.func46 ?_;refine R0 ?_;refine R0 ?_;refine aF (RT Tryz.results46 ?_);refine rQ (gf:=76) (bs:=[(22,.slc (l.map Nd.cv))]) (ids:=[0]) rfl (by simp) (by decide) ?_ ?_
 ·
  intro j x hx
  match j,hx with
  |0,hx=>cases hx;rfl
 intro x hx;simp only[List.mem_cons,List.not_mem_nil,or_false]at hx;subst hx;exact congrArg CV.slc (denilL_Nd l)
theorem aP1 (n:Nd)(L:List Bool)(lo m:Nat)(hl:L.length<2^40)(h0:0<L.length)(hlo:lo≤m)(hm:m≤L.length):
  HGe Tryz.prog 47 [.c n.cv,.osl 0 L.length lo 1 m] [.row 4 1 (L.map bC)] (fun r os'=>r= .c (.bool (kU n ((L.drop lo).take (m-lo))))∧os'=[.row 4 1 (L.map bC)]):=by
 obtain⟨V,hV⟩: ∃V,V=(L.drop lo).take (m-lo):=⟨_,rfl⟩;have hVl:V.length=m-lo:=by rw[hV];simp;omega
 rw[←hV];have hrd:List.take (m-lo) (List.drop lo (L.map bC))=V.map bC:=by rw[hV,List.map_take,List.map_drop]
 refine bS (args:=[.c n.cv,.osl 0 L.length lo 1 m]) Tryz.func47 rfl (by kernel_rfl) (fA rfl (by simp[eC,HO.men]) (by simp[HV.menL,HV.men])) (Nat.le_of_ble_eq_true rfl) ?_;have e0:lst [.row 4 1 (L.map bC)]=fob [(0,.row 4 1 (L.map bC))]:=by
  funext i
  match i with
  |0=>rfl
  |i+1=>simp[lst,fob,upd]
 show Hw _ _ 1 _ _ _ (lst _) 1;rw[e0];refine R0 ?_;refine R0 ?_;refine aC fun K hK=>?_;refine R0 ?_ (e:=fun _ h_=>by simp only[↓sP,sA,tyS,simprocAttr,hrd,List.length_map,h0,hlo,hm];exact AX h_);refine aL ?_;refine bF (α:={i:Nat//i≤V.length}) (fun i=>(fin [(1,.osl 0 L.length lo 1 m),(2,.ptr 1 0),(5,.c (.int .i64 (cnt (V.take i.1):Nat))),(8,.osl 0 L.length lo 1 m),(9,.c (.int .i64 V.length)),(10,.c (.int .i64 i.1))],fob [(0,.row 4 1 (L.map bC)),(1,.box 40 (.c n.cv))])) 100 (fun i=>V.length-i.1) ⟨0,by omega⟩ (aN (by omega) (by simp[aY,fin_at,finA_at,upd_at,HV.men,HV.menL,HV.norm,HV.toC,HV.toCL,cnt]) (by simp[aW,fob_at,upd_at,none0_at,bW,HO.men,HV.men,HV.menL,HV.norm,HV.toC,HV.toCL,cnt])) ?_;rintro⟨i,hi⟩;have hcn:cnt (V.take i)≤i:=by have:=cE0 (V.take i);simp at this;omega
 refine R0 ?_;refine aC fun K hK=>?_;refine aJ (b:=decide ((i:Int)<V.length)) rfl (fun hb=>?_) (fun hb=>?_)
 ·
  have hlt:i<V.length:=by simpa using hb
  have hct:=oP (l:=V) (k:=i) hlt;have hw3:IntKind.i64.wrap ((cnt (V.take i):Int)+1)=((cnt (V.take i)+1:Nat):Int):=by rw[cL _ (by omega)];rfl
  have hli:lo+i<L.length:=by omega
  have hvi:L[lo+i]=V[i]:=by simp[hV]
  have hli2:lo+i<(L.map bC).length:=by simpa using hli
  have hml:i<m-lo:=by omega
  clear hb;refine aK ?_;refine T0 (hK _ _ _ ?_);clear hK K;refine aC fun K hK=>?_;refine aL ?_;refine R0 ?_ (e:=fun _ h_=>by simp only[↓sP,sA,tyS,simprocAttr,List.length_map,Int.natCast_nonneg,Int.ofNat_lt,h0,hm,hml,hli,bR hli,bC];exact AX h_);refine R0 ?_;refine aJ (b:=L[lo+i]) rfl (fun hb=>?_) (fun hb=>?_)
  · rw[hvi]at hb;rw[if_pos (by simpa[hlt]using hb)]at hct;refine aM (by kernel_rfl) ?_;refine TQ hw3 ?_;refine AX (hK _ _ _ ?_);clear hK K;refine aM (by kernel_rfl) ?_;simp only[↓sP,sA,tyS,simprocAttr,cL ((i:Int)+1) (by omega)];refine⟨⟨i+1,hlt⟩,aN (by omega) (by simp[aY,fin_at,finA_at,upd_at,HV.men,HV.menL,HV.norm,HV.toC,HV.toCL,hct]) (by simp[aW,fob_at,upd_at,none0_at,bW,HO.men,HV.men,HV.menL,HV.norm,HV.toC,HV.toCL,hct]),?_⟩;show V.length-(i+1)<V.length-i;omega
  rw[hvi]at hb;rw[if_neg (by simp[hlt,hb])]at hct;refine aK ?_;refine T0 (hK _ _ _ ?_);clear hK K;refine aM (by kernel_rfl) ?_;simp only[↓sP,sA,tyS,simprocAttr,cL ((i:Int)+1) (by omega)];refine⟨⟨i+1,hlt⟩,aN (by omega) (by simp[aY,fin_at,finA_at,upd_at,HV.men,HV.menL,HV.norm,HV.toC,HV.toCL,hct]) (by simp[aW,fob_at,upd_at,none0_at,bW,HO.men,HV.men,HV.menL,HV.norm,HV.toC,HV.toCL,hct]),?_⟩;show V.length-(i+1)<V.length-i;omega
 refine bA (T3 ?_);clear hK K;refine AX (hK _ _ _ ?_);clear hK K;refine aC fun K hK=>?_;have hei:i=V.length:=by simp only[decide_eq_false_iff_not]at hb;omega
 subst hei;rw[List.take_length]at hcn⊢;clear hb;refine R0 ?_;refine aL ?_;refine R0 ?_;refine aJ (b:=(n.k==2)) rfl (fun hb=>?_) (fun hb=>?_)
 ·
  refine aC fun K hK=>Rg ?_;iterate 5 refine S0 ?_ (e:=fun _ h_=>by simp only[sH,↓sP,sA,tyS,simprocAttr,hrd,List.length_map,h0,hlo,hm];exact AX h_)
  refine T2 (hK _ _ _ ?_);clear hK K;refine aF (RT Tryz.results47 ?_);have h2:n.k=2:=by simpa using hb
  exact dZ [] [] (.c (.bool ((cnt V:Int)==V.length))) [.row 4 1 (L.map bC)] rfl (by simp[HV.men]) ⟨⟨trivial,by simp,_,rfl,rfl⟩,trivial⟩ rfl List.nodup_nil (by simp) (by simp) ⟨by rw[kU,if_pos h2];congr 2;rw[Bool.eq_iff_iff];simp;omega,rfl⟩
 have h2:n.k≠2:=by simpa using hb
 refine R0 ?_;refine aJ (b:=(n.k==3)) rfl (fun hb=>?_) (fun hb=>?_)
 ·
  refine R0 ?_;refine aF (RT Tryz.results47 ?_);have h3:n.k=3:=by simpa using hb
  exact dZ [] [] (.c (.bool (decide ((1:Int)≤cnt V)))) [.row 4 1 (L.map bC)] rfl (by simp[HV.men]) ⟨⟨trivial,by simp,_,rfl,rfl⟩,trivial⟩ rfl List.nodup_nil (by simp) (by simp) ⟨by rw[kU,if_neg h2,if_pos h3];congr 2;rw[Bool.eq_iff_iff];simp;omega,rfl⟩
 refine aK ?_;refine T0 (hK _ _ _ ?_);clear hK K;refine aC fun K hK=>Rg ?_;iterate 5 refine S0 ?_
 refine T2 (hK _ _ _ ?_);clear hK K;refine aF (RT Tryz.results47 ?_);have h3:n.k≠3:=by simpa using hb
 exact dZ [] [] (.c (.bool (decide (n.n≤cnt V)))) [.row 4 1 (L.map bC)] rfl (by simp[HV.men]) ⟨⟨trivial,by simp,_,rfl,rfl⟩,trivial⟩ rfl List.nodup_nil (by simp) (by simp) ⟨by rw[kU,if_neg h2,if_neg h3],rfl⟩
end Go.Proofs.YtlldglbooaefhaaGreatDoor
