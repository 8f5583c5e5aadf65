/- Plain Lean: the lines of a policy, counted (28.4). By an AI agent. -/
import Derived.Test.YtlldglbooaefhaaGreatDoorHzU1
import Derived.Test.YtlldglbooaefhaaGreatDoorHzTr
import Derived.Test.YtlldglbooaefhaaGreatDoorHlTlaw
import Derived.Test.YtlldglbooaefhaaGreatDoorPl28q
import Derived.Shelf.LaysM
import Derived.Shelf.Strconv.Itoa4
import Derived.Test.YtlldglbooaefhaaGreatDoorHlZb
import Derived.Test.YtlldglbooaefhaaGreatDoorPl11u
import Derived.Test.YtlldglbooaefhaaGreatDoorPl11
set_option linter.unusedSimpArgs false
set_option linter.unusedVariables false
set_option linter.defProp false
namespace Go.Proofs.YtlldglbooaefhaaGreatDoor
open Go Go.Hl Go.Pl
set_option maxRecDepth 10000
set_option maxHeartbeats 16000000
def pr0 :Pr:=⟨[],[],[],0,[]⟩
theorem bJ5 (ls:List (List aJ))(a:Nat)(hal:a≤ls.length)(hls:ls.length<2^39):
  uC Tryz.prog 90 94 (rdr ls a) [] (fun u x v'=> ∃q:Pr,u=q.cv∧x= .bool (rdR (ls.drop a)).1.isSome∧v'=rdr ls (ls.length-(rdR (ls.drop a)).2.length)∧ ∀p,(rdR (ls.drop a)).1=some p→q=p):=by
 refine bQ Tryz.func90 rfl (by kernel_rfl) (cZ _ _ _) (Nat.le_of_ble_eq_true rfl) ?_;refine R0 ?_;refine aC fun K hK=>?_;refine aC fun K hK=>Rg ?_;refine S0 ?_;refine HS rfl rfl fun K' hK'=>T5 ?_;refine bR (args:=[_,_]) (aC1 ls a 5 wRule (by omega)) rfl (by simp) ⟨rfl,rfl,rfl,rfl⟩ ?_;rintro u v' ⟨rfl,rfl⟩;refine AX (hK' _ _ ?_);clear hK' K';refine S0 ?_;refine T2 (hK _ _ _ ?_);clear hK K;refine aG (b:=!isV ls a wRule 5) rfl (fun hb=>?_) (fun hb=>?_)
 ·
  have hX:=cG9 hal (show isV ls a wRule 5=false by simpa using hb);refine aC fun K hK=>Rg ?_;iterate 3 refine S0 ?_
  refine T2 (hK _ _ _ ?_);clear hK K;refine aF (RT Tryz.results90 ?_);rw[hX];exact bT [] pr0.cv (.bool false) (rdr ls a) rfl rfl (by simp[HV.close,HV.closeL,rdr,CV.denil,CV.denilL,aQ,HV.norm,HV.toC,HV.toCL]) (by simp) (by refine⟨pr0,rfl,rfl,?_⟩;first|exact(by simp only[List.length_drop];congr 1;omega)|exact⟨by simp only[List.length_drop];congr 1;omega,fun t h=>by cases h⟩)
 refine aK ?_;refine T0 (hK _ _ _ ?_);clear hK K;obtain⟨hl,hl1,hl2⟩:=gF (show isV ls a wRule 5=true by simpa using hb);have h1:1<ls[a].length:=by omega
 have h2:2<ls[a].length:=by omega
 have h3:3<ls[a].length:=by omega
 have hw:IntKind.i64.wrap ((a:Int)+1)=((a+1:Nat):Int):=IntWalk.i64_in _ (by omega);clear hb;refine aC fun K hK=>QR ?_;iterate 11 refine S0 ?_ (e:=fun _ h_=>by simp only[sH,↓sP,sA,tyS,simprocAttr,rdr,Int.natCast_nonneg,Int.ofNat_lt,hl,bL hl,eU];exact AX h_)
 refine T2 (hK _ _ _ ?_);clear hK K;refine aC fun K hK=>Rg ?_;refine S0 ?_;refine HS rfl rfl fun K' hK'=>T5 ?_;refine dZ (args:=[_]) (lU ls a 4 hl (by omega)) rfl (by simp) ⟨rfl,rfl,rfl,rfl⟩ ?_;rintro u x v' ⟨rfl,rfl,rfl⟩;refine AX (hK' _ _ ?_);clear hK' K';iterate 5 refine S0 ?_
 refine T2 (hK _ _ _ ?_);clear hK K;refine aC fun K hK=>?_;refine R0 ?_;refine aG (b:=!(bK (wd ls[a] 4)).isSome) rfl (fun hb=>?_) (fun hb=>?_)
 ·
  have hX:=cA6 hl hl1 hl2 (show bK (wd ls[a] 4)=none by simpa using hb);refine aC fun K hK=>Rg ?_;iterate 3 refine S0 ?_
  refine T2 (hK _ _ _ ?_);clear hK K;refine aF (RT Tryz.results90 ?_);rw[hX];exact bT [] pr0.cv (.bool false) (rdr ls a) rfl rfl (by simp[HV.close,HV.closeL,rdr,CV.denil,CV.denilL,aQ,HV.norm,HV.toC,HV.toCL]) (by simp) (by refine⟨pr0,rfl,rfl,?_⟩;first|exact(by simp only[List.length_drop];congr 1;omega)|exact⟨by simp only[List.length_drop];congr 1;omega,fun t h=>by cases h⟩)
 refine aK ?_;refine T0 (hK _ _ _ ?_);clear hK K;obtain⟨g,hg⟩: ∃g,bK (wd ls[a] 4)=some g:=by
  cases h:bK (wd ls[a] 4)with
  |none=>rw[h]at hb;simp at hb
  |some g=>exact⟨g,rfl⟩
 have hX:=bT3 hl hl1 hl2 hg;clear hb;simp only[hg,Option.getD_some];have hN:uC Tryz.prog 108 94 (rdr ls (a+1)) [.nils] (fun u x v'=> ∃T':List Nd,u= .slc (T'.map Nd.cv)∧x= .bool (rdT (ls.drop (a+1))).1.isSome∧v'=rdr ls (ls.length-(rdT (ls.drop (a+1))).2.length)∧ ∀t,(rdT (ls.drop (a+1))).1=some t→T'=t):=bU5 (2*(ls.drop (a+1)).length+2) ls (a+1) hl (by simp only[List.length_drop];omega) hls;refine aC fun K hK=>Rg ?_;iterate 8 refine S0 ?_ (e:=fun _ h_=>by simp only[sH,↓sP,sA,tyS,simprocAttr,rdr,hw];exact AX h_)
 refine T2 (hK _ _ _ ?_);clear hK K;refine aC fun K hK=>bD (by kernel_rfl) ?_;simp only[sR,simprocAttr];refine SG0 ?_;refine tZ (g:=none) rfl rfl fun K' hK'=>?_;simp only[sN,↓hopH.eq_def,sH,↓sP,sA,tyS,simprocAttr];refine dZ (args:=[_]) hN rfl (by simp) ⟨rfl,rfl,rfl,rfl⟩ ?_;rintro u x v' ⟨T',rfl,rfl,rfl,hT⟩;refine AX (hK' _ _ ?_);clear hK' K';iterate 5 refine SG0 ?_
 refine T2 (hK _ _ _ ?_);clear hK K;refine aC fun K hK=>DW [(0,[],[]),(1,[],[]),(2,[],[]),(3,[],[]),(4,[],[]),(5,[],[]),(6,[],[]),(7,[],[]),(8,[],[]),(9,[],[]),(10,[],[]),(11,[],[]),(12,[],[]),(13,[],[12]),(14,[],[])] [0,1,3,0,8,24,0,64,192,0,0,2047,0,4095,16383] ?_;iterate 15 refine W0 ?_ (e:=fun _ h_=>by simp only[sH,↓sP,sA,tyS,simprocAttr,lsC,Int.one_nonneg,xG h1,xG h2,xG h3,hl1];exact AX h_)
 refine T2 (hK _ _ _ ?_);clear hK K;refine aF (RT Tryz.results90 ?_);rw[hX];exact bT [] (Pr.cv ⟨wd ls[a] 1,wd ls[a] 2,wd ls[a] 3,g,T'⟩) (.bool (rdT (ls.drop (a+1))).1.isSome) (rdr ls (ls.length-(rdT (ls.drop (a+1))).2.length)) (by simp[HV.close,HV.closeL,Pr.cv,CV.denil,CV.denilL,denilL_Nd,HV.norm,HV.toC,HV.toCL]) rfl (by simp[HV.close,HV.closeL,rdr,CV.denil,CV.denilL,aQ,HV.norm,HV.toC,HV.toCL]) (by simp) ⟨_,rfl,by simp,rfl,fun p h=>by
  cases h4:(rdT (ls.drop (a+1))).1 with
  |none=>simp[h4]at h
  |some t=>simp[h4]at h;rw[←h,hT t h4]⟩
theorem bU6 (ls:List (List aJ))(hls:ls.length<2^39):
  uC Tryz.prog 63 94 (rdr ls 0) [] (fun u x v'=> ∃q:Po,u=q.cv∧x= .bool (rdP ls).1.isSome∧v'=rdr ls (ls.length-(rdP ls).2.length)∧ ∀p,(rdP ls).1=some p→q=p):=by
 refine bQ Tryz.func63 rfl (by kernel_rfl) (cZ _ _ _) (Nat.le_of_ble_eq_true rfl) ?_;refine R0 ?_;refine aC fun K hK=>?_;refine aC fun K hK=>Rg ?_;refine S0 ?_;refine HS rfl rfl fun K' hK'=>T5 ?_;refine bR (args:=[_,_]) (aC1 ls 0 3 wPolicy (by omega)) rfl (by simp) ⟨rfl,rfl,rfl,rfl⟩ ?_;rintro u v' ⟨rfl,rfl⟩;refine AX (hK' _ _ ?_);clear hK' K';refine S0 ?_;refine T2 (hK _ _ _ ?_);clear hK K;refine aG (b:=!isV ls 0 wPolicy 3) rfl (fun hb=>?_) (fun hb=>?_)
 ·
  have hX:=cH0 (show isV ls 0 wPolicy 3=false by simpa using hb);refine aC fun K hK=>Rg ?_;iterate 3 refine S0 ?_
  refine T2 (hK _ _ _ ?_);clear hK K;refine aF (RT Tryz.results63 ?_);rw[hX];exact bT [] po0.cv (.bool false) (rdr ls 0) (by simp[HV.close,HV.closeL,HO.close,fob_at,upd_at,po0,Po.cv,CV.denil,CV.denilL,denilL_Pr,HV.norm,HV.toC,HV.toCL]) rfl (by simp[HV.close,HV.closeL,rdr,CV.denil,CV.denilL,aQ,HV.norm,HV.toC,HV.toCL]) (by simp) (by refine⟨po0,rfl,rfl,?_⟩;first|exact(by simp only[List.length_drop];congr 1;omega)|exact rfl|exact⟨by simp,fun t h=>by cases h⟩)
 refine aK ?_;refine T0 (hK _ _ _ ?_);clear hK K;obtain⟨hl,hl1,hl2⟩:=gF (show isV ls 0 wPolicy 3=true by simpa using hb);have h1:1<ls[0].length:=by omega
 clear hb;refine aC fun K hK=>Rg ?_;refine S0 ?_;refine HS rfl rfl fun K' hK'=>T5 ?_;refine dZ (args:=[_]) (lU ls 0 2 hl (by omega)) rfl (by simp) ⟨rfl,rfl,rfl,rfl⟩ ?_;rintro u x v' ⟨rfl,rfl,rfl⟩;refine AX (hK' _ _ ?_);clear hK' K';iterate 5 refine S0 ?_
 refine T2 (hK _ _ _ ?_);clear hK K;refine aC fun K hK=>?_;refine R0 ?_;refine aG (b:=!(bK (wd ls[0] 2)).isSome) rfl (fun hb=>?_) (fun hb=>?_)
 ·
  have hX:=cA7 hl hl1 hl2 (show bK (wd ls[0] 2)=none by simpa using hb);refine aC fun K hK=>Rg ?_;iterate 3 refine S0 ?_
  refine T2 (hK _ _ _ ?_);clear hK K;refine aF (RT Tryz.results63 ?_);rw[hX];exact bT [] po0.cv (.bool false) (rdr ls 0) (by simp[HV.close,HV.closeL,HO.close,fob_at,upd_at,po0,Po.cv,CV.denil,CV.denilL,denilL_Pr,HV.norm,HV.toC,HV.toCL]) rfl (by simp[HV.close,HV.closeL,rdr,CV.denil,CV.denilL,aQ,HV.norm,HV.toC,HV.toCL]) (by simp) (by refine⟨po0,rfl,rfl,?_⟩;first|exact(by simp only[List.length_drop];congr 1;omega)|exact rfl|exact⟨by simp,fun t h=>by cases h⟩)
 refine aK ?_;refine T0 (hK _ _ _ ?_);clear hK K;obtain⟨v,hv⟩: ∃v,bK (wd ls[0] 2)=some v:=by
  cases h:bK (wd ls[0] 2)with
  |none=>rw[h]at hb;simp at hb
  |some v=>exact⟨v,rfl⟩
 obtain⟨X,hX,hst⟩:=bT4 hl hl1 hl2 hv;clear hb;simp only[hv,Option.getD_some];refine aC fun K hK=>Rg ?_;iterate 12 refine S0 ?_ (e:=fun _ h_=>by simp only[sH,↓sP,sA,tyS,simprocAttr,rdr,hl,bL hl,lsC,xG h1,Int.one_nonneg,hl1,Int.natCast_pos];exact AX h_)
 refine T2 (hK _ _ _ ?_);clear hK K;refine aC fun K hK=>?_;refine aC fun K hK=>Rg ?_;iterate 8 refine S0 ?_ (e:=fun _ h_=>by simp only[sH,↓sP,sA,tyS,simprocAttr,rdr];exact AX h_)
 refine T2 (hK _ _ _ ?_);clear hK K;refine aL ?_;refine aE3 97 2 54 5 rfl rfl rfl rfl ?_;refine bF (α:={y:List Pr×Nat//RsSt ls X y.1 y.2}) (fun y=>(fin [(0,.ptr 0 0),(2,.ptr 1 0),(6,.ptr 97 0)],fob [(0,.box 94 (.c (rdr ls y.1.2))),(1,.box 45 (.c (.agg [.str [],.int .i64 0,.nils]))),(97,.box 45 (.agg [.c (.str (wd ls[0] 1)),.c (.int .i64 v),.own 137 y.1.1.length])),(137,.row 54 5 (y.1.1.map Pr.cv))])) 2000 (fun y=>ls.length-y.1.2) ⟨([],1),hst⟩ (aN (by omega) (by simp[aW,fin_at,finA_at,upd_at,HV.men,HV.menL,HV.norm,HV.toC,HV.toCL,rdr,show IntKind.i64.wrap 1=1 from rfl]) (by simp[aY,fob_at,upd_at,none0_at,bX,HO.men,HV.men,HV.menL,HV.norm,HV.toC,HV.toCL,rdr,show IntKind.i64.wrap 1=1 from rfl])) ?_;rintro⟨⟨acc,p⟩,hΦ⟩;simp only at hΦ;refine aC fun K hK=>?_;refine aC fun K hK=>QR ?_;iterate 10 refine S0 ?_ (e:=fun _ h_=>by simp only[sH,↓sP,sA,tyS,simprocAttr,rdr];exact AX h_)
 refine T2 (hK _ _ _ ?_);clear hK K;refine aG (b:=decide ((p:Int)<ls.length)) rfl (fun hb=>?_) (fun hb=>?_)
 ·
  have hp:p<ls.length:=by simpa using hb
  have hp1:=hΦ.le;have hp2:=hΦ.len;clear hb;refine aK ?_;refine T0 (hK _ _ _ ?_);clear hK K;refine aL ?_;refine aC fun K hK=>Rg ?_;refine S0 ?_;refine HS rfl rfl fun K' hK'=>T5 ?_;refine dZ (args:=[]) (bJ5 ls p hp1 hls) rfl (by simp) ⟨rfl,rfl,rfl,rfl⟩ ?_;rintro u x v' ⟨q,rfl,rfl,rfl,hq⟩;refine AX (hK' _ _ ?_);clear hK' K';iterate 6 refine S0 ?_
  refine T2 (hK _ _ _ ?_);clear hK K;refine aC fun K hK=>?_;refine R0 ?_;refine aG (b:=!(rdR (ls.drop p)).1.isSome) rfl (fun hb=>?_) (fun hb=>?_)
  ·
   have hno:(rdR (ls.drop p)).1=none:=by simpa using hb
   have hXn:=hΦ.no hp hno;refine aC fun K hK=>Rg ?_;iterate 3 refine S0 ?_
   refine T2 (hK _ _ _ ?_);clear hK K;refine aF (RT Tryz.results63 ?_);rw[hX,hXn];exact bT [] po0.cv (.bool false) (rdr ls (ls.length-(rdR (ls.drop p)).2.length)) (by simp[HV.close,HV.closeL,HO.close,fob_at,upd_at,po0,Po.cv,CV.denil,CV.denilL,denilL_Pr,HV.norm,HV.toC,HV.toCL]) rfl (by simp[HV.close,HV.closeL,rdr,CV.denil,CV.denilL,aQ,HV.norm,HV.toC,HV.toCL]) (by simp) (by refine⟨po0,rfl,rfl,?_⟩;first|exact(by simp only[List.length_drop];congr 1;omega)|exact rfl|exact⟨by simp,fun t h=>by cases h⟩)
  obtain⟨x,hx⟩: ∃x,(rdR (ls.drop p)).1=some x:=by
   cases h:(rdR (ls.drop p)).1 with
   |none=>rw[h]at hb;simp at hb
   |some x=>exact⟨x,rfl⟩
  obtain⟨hst2,hlt2⟩:=hΦ.some_ hp hx;obtain rfl:=hq x hx;clear hb;refine aK ?_;refine T0 (hK _ _ _ ?_);clear hK K;refine Rg ?_;iterate 7 refine S0 ?_
  refine T4 ?_;refine⟨⟨(acc++[q],ls.length-(rdR (ls.drop p)).2.length),hst2⟩,aN (by omega) (by simp[aW,fin_at,finA_at,upd_at,HV.men,HV.menL,HV.norm,HV.toC,HV.toCL,List.map_append]) (by simp[aY,fob_at,upd_at,none0_at,bX,HO.men,HV.men,HV.menL,HV.norm,HV.toC,HV.toCL,List.map_append]),?_⟩;show ls.length-(ls.length-(rdR (ls.drop p)).2.length)<ls.length-p;omega
 have hp: ¬p<ls.length:=by simpa using hb
 obtain⟨rfl,hXs⟩:=hΦ.done hp;refine bA (T3 ?_);clear hK K;refine AX (hK _ _ _ ?_);clear hK K;refine aC fun K hK=>Rg ?_;iterate 3 refine S0 ?_
 refine T2 (hK _ _ _ ?_);clear hK K;refine aF (RT Tryz.results63 ?_);rw[hX,hXs];refine⟨rfl,?_⟩;exact bT [137] (Po.cv ⟨wd ls[0] 1,v,acc⟩) (.bool true) (rdr ls ls.length) (by simp[HV.close,HV.closeL,HO.close,fob_at,upd_at,po0,Po.cv,CV.denil,CV.denilL,denilL_Pr,HV.norm,HV.toC,HV.toCL]) rfl (by simp[HV.close,HV.closeL,rdr,CV.denil,CV.denilL,aQ,HV.norm,HV.toC,HV.toCL]) (by simp) (by exact⟨_,rfl,rfl,by simp,fun p h=>by cases h;rfl⟩)
end Go.Proofs.YtlldglbooaefhaaGreatDoor
namespace Go.Proofs.YtlldglbooaefhaaGreatDoor
open Go Go.Hl Go.Pl Go.RowKit Go.Shelf
set_option maxRecDepth 100000
def cC0 :Go.Shelf.Ren:=⟨fun|173=>77|246=>102|283=>117|284=>118|285=>119|286=>120|129=>137|317=>136|318=>138|319=>139|320=>140|337=>148|338=>149|n=>n,fun|2=>2|3=>3|9=>9|4=>4|171=>155|0=>0|53=>116|37=>47|5=>5|173=>158|212=>169|51=>170|20=>20|213=>171|46=>41|232=>184|233=>185|n=>n,fun|17=>1|18=>4|19=>5|n=>n⟩
theorem cH6 :Go.Proofs.LaysM.n173 Tryz.prog cC0:={
  mixed:=by kernel_rfl
  f129:=Tryz.func137.trans (congrArg some (by kernel_rfl))
  f173:=Tryz.func77.trans (congrArg some (by kernel_rfl))
  f246:=Tryz.func102.trans (congrArg some (by kernel_rfl))
  f283:=Tryz.func117.trans (congrArg some (by kernel_rfl))
  f284:=Tryz.func118.trans (congrArg some (by kernel_rfl))
  f285:=Tryz.func119.trans (congrArg some (by kernel_rfl))
  f286:=Tryz.func120.trans (congrArg some (by kernel_rfl))
  f317:=Tryz.func136.trans (congrArg some (by kernel_rfl))
  f318:=Tryz.func138.trans (congrArg some (by kernel_rfl))
  f319:=Tryz.func139.trans (congrArg some (by kernel_rfl))
  f320:=Tryz.func140.trans (congrArg some (by kernel_rfl))
  f337:=Tryz.func148.trans (congrArg some (by kernel_rfl))
  f338:=Tryz.func149.trans (congrArg some (by kernel_rfl))
  t0:=Tryz.underlying0
  a0:=Tryz.isAgg0
  z0:=Tryz.sizeOf0
  v0:=Tryz.zeroValue0
  t2:=Tryz.underlying2
  a2:=Tryz.isAgg2
  z2:=Tryz.sizeOf2
  v2:=Tryz.zeroValue2
  t3:=Tryz.underlying3
  a3:=Tryz.isAgg3
  z3:=Tryz.sizeOf3
  v3:=Tryz.zeroValue3
  t4:=Tryz.underlying4
  a4:=Tryz.isAgg4
  z4:=Tryz.sizeOf4
  v4:=Tryz.zeroValue4
  t5:=Tryz.underlying5
  a5:=Tryz.isAgg5
  z5:=Tryz.sizeOf5
  v5:=Tryz.zeroValue5
  t9:=Tryz.underlying9
  a9:=Tryz.isAgg9
  z9:=Tryz.sizeOf9
  v9:=Tryz.zeroValue9
  t20:=Tryz.underlying20
  a20:=Tryz.isAgg20
  z20:=Tryz.sizeOf20
  v20:=Tryz.zeroValue20
  t37:=Tryz.underlying47
  a37:=Tryz.isAgg47
  z37:=Tryz.sizeOf47
  v37:=Tryz.zeroValue47
  t46:=Tryz.underlying41
  a46:=Tryz.isAgg41
  z46:=Tryz.sizeOf41
  v46:=Tryz.zeroValue41
  t51:=Tryz.underlying170
  a51:=Tryz.isAgg170
  z51:=Tryz.sizeOf170
  v51:=Tryz.zeroValue170
  t53:=Tryz.underlying116
  a53:=Tryz.isAgg116
  z53:=Tryz.sizeOf116
  v53:=Tryz.zeroValue116
  t171:=Tryz.underlying155
  a171:=Tryz.isAgg155
  z171:=Tryz.sizeOf155
  v171:=Tryz.zeroValue155
  t173:=Tryz.underlying158
  a173:=Tryz.isAgg158
  z173:=Tryz.sizeOf158
  v173:=Tryz.zeroValue158
  t212:=Tryz.underlying169
  a212:=Tryz.isAgg169
  z212:=Tryz.sizeOf169
  v212:=Tryz.zeroValue169
  t213:=Tryz.underlying171
  a213:=Tryz.isAgg171
  z213:=Tryz.sizeOf171
  t232:=Tryz.underlying184
  a232:=Tryz.isAgg184
  z232:=Tryz.sizeOf184
  v232:=Tryz.zeroValue184
  t233:=Tryz.underlying185
  a233:=Tryz.isAgg185
  z233:=Tryz.sizeOf185
  v233:=Tryz.zeroValue185
  g17:=by kernel_rfl
  g18:=by kernel_rfl
  g19:=by kernel_rfl
  i0:=by kernel_rfl
  i2:=by kernel_rfl
  i3:=by kernel_rfl
  i4:=by kernel_rfl
  i5:=by kernel_rfl
  i9:=by kernel_rfl
  i20:=by kernel_rfl
  i37:=by kernel_rfl
  i46:=by kernel_rfl
  i51:=by kernel_rfl
  i53:=by kernel_rfl
  i171:=by kernel_rfl
  i173:=by kernel_rfl
  i212:=by kernel_rfl
  i232:=by kernel_rfl
  i233:=by kernel_rfl
  m17:=by kernel_rfl
  m18:=by kernel_rfl
  m19:=by kernel_rfl}
theorem aH5 :Tryz.prog.globalNamed "internal/strconv.uint64pow10" =some 1:=by kernel_rfl
def tabs :lI:=[(1,Lib.pow10Tab.map fun z=>Value.int .u64 z)]
theorem bJ6 (n:Int)(h: -9223372036854775808≤n∧n≤9223372036854775807):nL Tryz.prog 77 tabs [.int .i64 n,.int .i64 10] (fun v=>v= .str (numW n)):=
  aT4 (by kernel_rfl) aH5 (List.mem_cons_self) (fun w hw=>Any.strconv_FormatInt_10 cH6 n h.1 h.2 w hw)
end Go.Proofs.YtlldglbooaefhaaGreatDoor
namespace Go.Proofs.YtlldglbooaefhaaGreatDoor
open Go Go.Hl Go.Pl
set_option maxRecDepth 10000
set_option maxHeartbeats 16000000
theorem rS (n:Int)(hn: -9223372036854775808≤n∧n≤9223372036854775807):bS Tryz.prog 54 [.int .i64 n] (fun v=>v= .str (numW n)):=by
 refine FW Tryz.func54 ?_;refine R0 ?_;refine aC fun K hK=>?_;refine R0 ?_;refine aG (b:=n==0) rfl (fun hb=>?_) (fun hb=>?_)
 · refine R0 ?_;refine aF (RT Tryz.results54 ?_);exact aH [] (.str [48]) rfl (by rw[show n=0 from by simpa using hb,bG4])
 refine aK ?_;refine T0 (hK _ _ _ ?_);clear hK K;have hne:n≠0:=by simpa using hb
 clear hb;refine aC fun K hK=>Rg ?_;iterate 4 refine S0 ?_
 refine T2 (hK _ _ _ ?_);clear hK K;refine aC fun K hK=>?_;have key: ∀(sg:aJ) (u:Nat) fr ob nx,(u<18446744073709551616∧u≠0∧sg.length≤1∧numW n=sg++Lib.decDigits u)→Fits 0 fr ob (fin [(3,.c (.str sg)),(4,.c (.int .u64 u))]) (fob []) 600→K fr ob nx:=by
  rintro sg u fr ob nx ⟨hu,hu0,hsg,hnum⟩ hf;refine hK _ _ _ (bH hf ?_);clear hf hK K;have hdl:=bP5 hu;refine R0 ?_;refine aC fun K hK=>?_;refine aL ?_;refine bF (α:={y:Nat×aJ//y.1≤u∧(if y.1=0 then []else Lib.decDigits y.1)++y.2=Lib.decDigits u}) (fun y=>(fin [(3,.c (.str sg)),(4,.c (.int .u64 y.1.1)),(5,.c (.str y.1.2))],fob [])) 100 (fun y=>y.1.1) ⟨(u,[]),by simp,by simp[hu0]⟩ (fF) ?_;rintro⟨⟨v,s⟩,hv,hs⟩;simp only at hv hs⊢;have hsl:s.length≤20:=by
   have:=congrArg List.length hs;rw[List.length_append]at this;omega
  refine aC fun K hK=>?_;refine R0 ?_;refine aG (b:=decide ((0:Int)<v)) rfl (fun hb=>?_) (fun hb=>?_)
  ·
   have hv0:v≠0:=by simp at hb;omega
   clear hb;have hv64:v<18446744073709551616:=by omega
   have h10:((10:Int)=0)↔False:=by simp
   have hsl1:[UInt8.ofNat (48+v%10)].length+s.length≤9223372036854775807:=by simp;omega
   rw[if_neg hv0,bP4 hv0]at hs;refine aK ?_;refine T0 (hK _ _ _ ?_);clear hK K;refine aL ?_;refine aC fun K hK=>bD (by kernel_rfl) ?_;simp only[sR,simprocAttr];have F:=aI @xF (aI @pO (aI h10 hsl1));iterate 4 refine SGF ?_
   refine bZ (g:=none) 124 rfl rfl fun K' hK'=>?_;simp only[eN,iD,sH,↓sP,sA,tyS,simprocAttr,xF,pO,h10,hsl1];repeat refine AI ?_
   refine cB (by first|rfl|simp) ?_;try simp only[sH,↓sP,sA,tyS,simprocAttr,xF,pO,h10,hsl1]
   refine AX (hK' _ _ ?_);clear hK' K';iterate 4 refine SGF ?_
   refine T2 (hK _ _ _ ?_);clear hK K;refine aM (by kernel_rfl) ?_;simp only[↓sP,sA,tyS,simprocAttr,bY6 hv64,h10];refine⟨⟨(v/10,[UInt8.ofNat (48+v%10)]++s),by simp only;omega,by simp only;rw[←hs,List.append_assoc]⟩,fF,?_⟩;show v/10<v;omega
  have hv0:v=0:=by simp at hb;omega
  clear hb;subst hv0;rw[if_pos rfl,List.nil_append]at hs;subst hs;have hle:sg.length+(Lib.decDigits u).length≤9223372036854775807:=by omega
  refine bA (T3 ?_);clear hK K;refine AX (hK _ _ _ ?_);clear hK K;refine aC fun K hK=>Rg ?_;have F:=hle;iterate 4 refine SF ?_
  refine T2 (hK _ _ _ ?_);clear hK K;refine aF (RT Tryz.results54 ?_);exact aH [] (.str _) rfl (by rw[hnum])
 refine R0 ?_;refine aG (b:=decide (n<0)) rfl (fun hb=>?_) (fun hb=>?_)
 ·
  have hlt:n<0:=by simpa using hb
  refine Rg ?_;have F:=aF8 hlt hn.1;iterate 4 refine SF ?_
  refine T4 ?_;first
   |exact key [45] n.natAbs _ _ _ ⟨by omega,by omega,by simp,aN7 (by simpa using hb)⟩ (by rw[←aF8 (by simpa using hb) hn.1];exact fF)
   |(have h0:0≤n:=(by simp at hb;omega);exact key [] n.natAbs _ _ _ ⟨by omega,by omega,by simp,rF h0⟩ (by rw[←aZ6 h0 hn.2];exact fF))
 refine aK (T3 ?_);first
  |exact key [45] n.natAbs _ _ _ ⟨by omega,by omega,by simp,aN7 (by simpa using hb)⟩ (by rw[←aF8 (by simpa using hb) hn.1];exact fF)
  |(have h0:0≤n:=(by simp at hb;omega);exact key [] n.natAbs _ _ _ ⟨by omega,by omega,by simp,rF h0⟩ (by rw[←aZ6 h0 hn.2];exact fF))
theorem xX (n:Int)(hn: -9223372036854775808≤n∧n≤9223372036854775807):nL Tryz.prog 51 tabs [.int .i64 n] (fun v=>v= .str (numW n)):=by
 refine bQ (args:=[.c (.int .i64 n)]) Tryz.func51 rfl (by kernel_rfl) (fO tabs [.int .i64 n]) (Nat.le_of_ble_eq_true rfl) ?_;refine R0 ?_;refine aC fun K hK=>Rg ?_;refine S0 ?_;refine HS rfl rfl fun K' hK'=>T5 ?_;refine fH (args:=[_,_]) 0 (bJ6 n hn) (fZ _ 0) (by simp) ⟨rfl,rfl,rfl,rfl⟩ ?_;rintro u rfl;refine AX (hK' _ _ ?_);clear hK' K';refine S0 ?_;refine T2 (hK _ _ _ ?_);clear hK K;refine aF (RT Tryz.results51 ?_);exact dW [] (.str _) rfl (fZ _ 0) (by simp) rfl
def cC1 (n:Int):Prop:= -9223372036854775808≤n∧n≤9223372036854775807
theorem bU7 (q:Rq)(hn:cC1 q.n)(hm:cC1 q.m):nL Tryz.prog 78 tabs [q.cv] (fun v=>v=lsC (wlR q)):=by
 refine bQ (args:=[.c q.cv]) Tryz.func78 rfl (by kernel_rfl) (fO tabs [q.cv]) (Nat.le_of_ble_eq_true rfl) ?_;unfold eP;refine R0 ?_;refine aC fun K hK=>Rg ?_;iterate 2 refine S0 ?_
 refine HS rfl rfl fun K' hK'=>T5 ?_;refine fH (args:=[_]) 0 (xX q.n hn) rfl (by simp) ⟨rfl,rfl,rfl,rfl⟩ ?_;rintro u rfl;refine AX (hK' _ _ ?_);clear hK' K';refine S0 ?_;refine T2 (hK _ _ _ ?_);clear hK K;refine aC fun K hK=>?_;refine R0 ?_;refine aL ?_;refine R0 ?_;refine aG (b:=(q.k==1)) rfl (fun hb=>?_) (fun hb=>?_)
 ·
  have hk:q.k=1:=by simpa using hb
  clear hb;refine R0 ?_;refine aF (RT Tryz.results78 ?_);exact dW [45] (lsC (wlR q)) (by rw[show wlR q=[dI,numW q.n]from by simp[wlR, *]];simp[lsC,HV.close,fob_at,upd_at,HV.norm,HV.toC,HV.closeL,HV.toCL,CV.denil];rfl) rfl (by simp) rfl
 have hk1: ¬q.k=1:=by simpa using hb
 clear hb;refine R0 ?_;refine aG (b:=(q.k==2)) rfl (fun hb=>?_) (fun hb=>?_)
 ·
  have hk:q.k=2:=by simpa using hb
  clear hb;refine aC fun K hK=>Rg ?_;iterate 4 refine S0 ?_
  refine T2 (hK _ _ _ ?_);clear hK K;refine aF (RT Tryz.results78 ?_);exact dW [57] (lsC (wlR q)) (by rw[show wlR q=[dX,q.t]from by simp[wlR, *]];simp[lsC,HV.close,fob_at,upd_at,HV.norm,HV.toC,HV.closeL,HV.toCL,CV.denil];rfl) rfl (by simp) rfl
 have hk2: ¬q.k=2:=by simpa using hb
 clear hb;refine R0 ?_;refine aG (b:=(q.k==3)) rfl (fun hb=>?_) (fun hb=>?_)
 ·
  have hk:q.k=3:=by simpa using hb
  clear hb;refine R0 ?_;refine aF (RT Tryz.results78 ?_);exact dW [61] (lsC (wlR q)) (by rw[show wlR q=[dR,numW q.n]from by simp[wlR, *]];simp[lsC,HV.close,fob_at,upd_at,HV.norm,HV.toC,HV.closeL,HV.toCL,CV.denil];rfl) rfl (by simp) rfl
 have hk3: ¬q.k=3:=by simpa using hb
 clear hb;refine R0 ?_;refine aG (b:=(q.k==4)) rfl (fun hb=>?_) (fun hb=>?_)
 ·
  have hk:q.k=4:=by simpa using hb
  clear hb;refine aC fun K hK=>Rg ?_;iterate 3 refine S0 ?_
  refine HS rfl rfl fun K' hK'=>T5 ?_;refine fH (args:=[_]) 0 (xX q.m hm) rfl (by simp) ⟨rfl,rfl,rfl,rfl⟩ ?_;rintro u rfl;refine AX (hK' _ _ ?_);clear hK' K';iterate 2 refine S0 ?_
  refine T2 (hK _ _ _ ?_);clear hK K;refine aF (RT Tryz.results78 ?_);exact dW [81] (lsC (wlR q)) (by rw[show wlR q=[eQ,numW q.n,numW q.m]from by simp[wlR, *]];simp[lsC,HV.close,fob_at,upd_at,HV.norm,HV.toC,HV.closeL,HV.toCL,CV.denil];rfl) rfl (by simp) rfl
 have hk4: ¬q.k=4:=by simpa using hb
 clear hb;refine R0 ?_;refine aG (b:=(q.k==5)) rfl (fun hb=>?_) (fun hb=>?_)
 ·
  have hk:q.k=5:=by simpa using hb
  clear hb;refine R0 ?_;refine aF (RT Tryz.results78 ?_);exact dW [77] (lsC (wlR q)) (by rw[show wlR q=[gE,numW q.n]from by simp[wlR, *]];simp[lsC,HV.close,fob_at,upd_at,HV.norm,HV.toC,HV.closeL,HV.toCL,CV.denil];rfl) rfl (by simp) rfl
 have hk5: ¬q.k=5:=by simpa using hb
 clear hb;refine R0 ?_;refine aG (b:=(q.k==6)) rfl (fun hb=>?_) (fun hb=>?_)
 ·
  have hk:q.k=6:=by simpa using hb
  clear hb;refine R0 ?_;refine aF (RT Tryz.results78 ?_);exact dW [85] (lsC (wlR q)) (by rw[show wlR q=[jY,numW q.n]from by simp[wlR, *]];simp[lsC,HV.close,fob_at,upd_at,HV.norm,HV.toC,HV.closeL,HV.toCL,CV.denil];rfl) rfl (by simp) rfl
 have hk6: ¬q.k=6:=by simpa using hb
 clear hb;refine R0 ?_;refine aG (b:=(q.k==7)) rfl (fun hb=>?_) (fun hb=>?_)
 ·
  have hk:q.k=7:=by simpa using hb
  clear hb;refine R0 ?_;refine aF (RT Tryz.results78 ?_);exact dW [93] (lsC (wlR q)) (by rw[show wlR q=[kY,numW q.n]from by simp[wlR, *]];simp[lsC,HV.close,fob_at,upd_at,HV.norm,HV.toC,HV.closeL,HV.toCL,CV.denil];rfl) rfl (by simp) rfl
 have hk7: ¬q.k=7:=by simpa using hb
 clear hb;refine aK ?_;refine T0 (hK _ _ _ ?_);clear hK K;refine R0 ?_;refine aF (RT Tryz.results78 ?_);exact dW [89] (lsC (wlR q)) (by rw[show wlR q=[gZ]from by simp[wlR, *]];simp[lsC,HV.close,fob_at,upd_at,HV.norm,HV.toC,HV.closeL,HV.toCL,CV.denil];rfl) rfl (by simp) rfl
theorem cM4 (L:List (List aJ)):lst [.tab tabs,.row 60 1 (L.map lsC)]=fob [(0,.tab tabs),(1,.row 60 1 (L.map lsC))]:=by
 funext i
 match i with
 |0=>rfl
 |1=>rfl
 |i+2=>simp[lst,fob,upd]
theorem aW0 (n:Nat)(ob:Ob)(e:TypeId)(sz:Nat)(T:lI)(L:List CV):kG (sub [0,1] n) ob 0 [.tab T,.row e sz L]=upd (upd ob 0 (some (.tab T))) 1 (some (.row e sz L)):=rfl
theorem xY {ob:Ob}{L:List CV}{M:List (List aJ)}{m:Nat}{a:Nat}(h0:ob 0=some (.tab tabs))(h1:ob 1=some (.row 60 1 L))(hm:m=M.length)(hL:L=M.map lsC):
  mO 2 (.tup [.own 1 m,.c (.int .i64 a)]) ob (fun r ob'=> ∃os',ob'=lst os'∧(2≤os'.length∧os'.length≤2+4)∧r= .tup [.own 1 M.length,.c (.int .i64 a)]∧os'=[.tab tabs,.row 60 1 (M.map lsC)]):=by
 subst hm hL;exact eE [] [] (.tup [.own 1 M.length,.c (.int .i64 a)]) [.tab tabs,.row 60 1 (M.map lsC)] rfl (by simp[HV.men,HV.menL]) ⟨⟨by simp[HO.men],by simp,_,h0,rfl⟩,⟨by simp[HO.men],by simp,_,h1,rfl⟩,trivial⟩ rfl List.nodup_nil (by simp) (by simp) ⟨rfl,rfl⟩
theorem bU8 (l:List Nd)(ht:IsTree l)(m:Nat): ∀(L:List (List aJ)) (i:Nat) (hi:i<l.length),l.length-i≤m→0<L.length→L.length+2*(l.length-i)<2^40→
  HGe Tryz.prog 52 [.own 1 L.length,.c (.slc (l.map Nd.cv)),.c (.int .i64 i)] [.tab tabs,.row 60 1 (L.map lsC)] (fun r os'=>r= .tup [.own 1 (L++eR l i).length,.c (.int .i64 (aft l i:Nat))]∧os'=[.tab tabs,.row 60 1 ((L++eR l i).map lsC)]):=by
 induction m using Nat.strongRecOn with
 |ind m ih=>?_
 intro L i hi hfu hL0 hLl;refine bQ (args:=[.own 1 L.length,.c (.slc (l.map Nd.cv)),.c (.int .i64 i)]) Tryz.func52 rfl (by kernel_rfl) (fX rfl (by simp[eO,HO.men,HV.men,HV.menL]) (by simp[HV.menL,HV.men])) (Nat.le_of_ble_eq_true rfl) ?_;show Hw _ _ 2 _ _ _ (lst _) 2;rw[cM4];have hnode:=ht.node _ (List.getElem_mem hi);obtain⟨c1,c2,c3,c4⟩:=dG hnode;have hll:=ht.len;have hwi:IntKind.i64.wrap ((i:Int)+1)=((i+1:Nat):Int):=IntWalk.i64_in _ (by omega);obtain⟨a1,a2,a3⟩:=iM ht hi;refine R0 ?_;refine aC fun K hK=>Rg ?_;have F:=aI @Int.natCast_nonneg (aI @Int.ofNat_lt (aI hi (nM hi)));iterate 6 refine SF ?_
 refine T2 (hK _ _ _ ?_);clear hK K;have F:=hwi;refine RF ?_;refine aC fun K hK=>?_;have key: ∀fr ob nx,l[i].k≠1→Fits 2 fr ob (fin [(0,.own 1 (L.length+1)),(1,.c (.slc (l.map Nd.cv))),(2,.c (.int .i64 ((i+1:Nat):Int))),(8,.ptr 26 0)]) (fob [(0,.tab tabs),(1,.row 60 1 ((L++[wlN l[i]]).map lsC)),(26,.box 40 (.c l[i].cv))]) 300→K fr ob nx:=by
  rintro fr ob nx hk1 hf;refine hK _ _ _ (bH hf ?_);clear hf hK K;refine aC fun K hK=>?_;refine R0 ?_;refine aL ?_;refine bF (α:={k:Nat//k≤l[i].c.toNat}) (fun k=>(fin [(0,.own 1 (L.length+1+(cU l i k.1).length)),(1,.c (.slc (l.map Nd.cv))),(2,.c (.int .i64 (cX l k.1 (i+1):Nat))),(48,.c (.int .i64 l[i].c)),(49,.c (.int .i64 k.1))],fob [(0,.tab tabs),(1,.row 60 1 ((L++wlN l[i]::cU l i k.1).map lsC))])) 2000 (fun k=>l[i].c.toNat-k.1) ⟨0,by omega⟩ (aN (by omega) (by simp[aW,fin_at,finA_at,upd_at,HV.men,HV.menL,HV.norm,HV.toC,HV.toCL,iA,cX]) (by simp[aY,fob_at,upd_at,none0_at,bX,HO.men,HV.men,HV.menL,HV.norm,HV.toC,HV.toCL,iA,cX])) ?_;rintro⟨k,hk⟩;obtain⟨k1,k2,k3⟩:=gN ht hi k hk;have hkl:=uL ht hi hk hk1;refine R0 ?_;refine aC fun K hK=>?_;refine aG (b:=decide ((k:Int)<l[i].c)) rfl (fun hb=>?_) (fun hb=>?_)
  ·
   have hlt:k<l[i].c.toNat:=by simp at hb;omega
   have hkid:=lK ht hi hlt;clear hb;obtain⟨M,hM⟩: ∃M,M=L++wlN l[i]::cU l i k:=⟨_,rfl⟩;have hMl:L.length+1+(cU l i k).length=M.length:=by rw[hM];simp;omega
   rw[←hM,hMl];refine aK ?_;refine T0 (hK _ _ _ ?_);clear hK K;refine aC fun K hK=>?_;refine aL ?_;refine Rg ?_;iterate 3 refine S0 ?_
   refine HS rfl rfl fun K' hK'=>T5 ?_;refine gW [0,1] (ih (l.length-cX l k (i+1)) (by omega) M (cX l k (i+1)) hkid (by omega) (by omega) (by omega)) rfl ⟨rfl,rfl,trivial⟩ (by simp) (by simp) ⟨rfl,rfl,rfl,rfl⟩ (by simp[eO,HO.men,HV.men,HV.menL]) (by simp[HV.menL,HV.men]) ?_;rintro r os' ⟨rfl,rfl⟩;rw[aW0,aQ5];refine AX (hK' _ _ ?_);clear hK' K';iterate 5 refine S0 ?_
   refine T2 (hK _ _ _ ?_);clear hK K;refine aM (by kernel_rfl) ?_;refine TQ (IntWalk.i64_in ((k:Int)+1) (by omega)) ?_;refine⟨⟨k+1,hlt⟩,?_,?_⟩
   ·
    have e1:M++eR l (cX l k (i+1))=L++wlN l[i]::cU l i (k+1):=by rw[hM,mK ht hi hlt];simp
    have e2:(M++eR l (cX l k (i+1))).length=L.length+1+(cU l i (k+1)).length:=by rw[e1];simp;omega
    simp only[];rw[←e1,←e2,fJ];exact fF
   show l[i].c.toNat-(k+1)<l[i].c.toNat-k;omega
  refine bA (T3 ?_);clear hK K;refine AX (hK _ _ _ ?_);clear hK K;have hke:k=l[i].c.toNat:=by simp at hb;omega
  subst hke;rw[rR ht hi]at hkl k3;clear hb;refine aC fun K hK=>bD (by kernel_rfl) ?_;simp only[sR,simprocAttr];have F:=aI @eI @eU;refine SGF ?_;refine bZ (g:=none) 2008 rfl rfl fun K' hK'=>?_;simp only[eN,iD,sH,↓sP,sA,tyS,simprocAttr,eI,eU];repeat refine AI ?_
  refine cB (by first|rfl|simp) ?_;try simp only[sH,↓sP,sA,tyS,simprocAttr,eI,eU]
  refine AX (hK' _ _ ?_);clear hK' K';iterate 5 refine SGF ?_
  refine T2 (hK _ _ _ ?_);clear hK K;refine aF (RT Tryz.results52 ?_);rw[nV ht hi hk1,rR ht hi];exact xY (M:=L++wlN l[i]::(cU l i l[i].c.toNat++[[wEnd]])) rfl rfl (by simp) (by simp[lsC,wEnd])
 refine R0 ?_;refine aL ?_;refine R0 ?_;refine aG (b:=(l[i].k==1)) rfl (fun hb=>?_) (fun hb=>?_)
 ·
  have hk:l[i].k=1:=by simpa using hb
  obtain⟨⟨r1,r2⟩,r3,r4⟩:=aP6 (bB1 hnode hk);clear hb;refine aC fun K hK=>Rg ?_;have F:=aI @eI @eU;iterate 3 refine SF ?_
  refine HS rfl rfl fun K' hK'=>T6 ?_;refine fH (args:=[_]) 0 (bU7 l[i].q ⟨by omega,by omega⟩ ⟨by omega,by omega⟩) rfl (by simp) ⟨rfl,rfl,rfl,rfl⟩ ?_;rintro u rfl;refine AX (hK' _ _ ?_);clear hK' K';iterate 5 refine SF ?_
  refine T2 (hK _ _ _ ?_);clear hK K;refine aF (RT Tryz.results52 ?_);rw[pP hi hk,xV ht hi hk];exact xY (M:=L++[wlR l[i].q]) rfl rfl (by simp) (by simp)
 have hk1:l[i].k≠1:=by simpa using hb
 clear hb;refine R0 ?_;refine aG (b:=(l[i].k==2)) rfl (fun hb=>?_) (fun hb=>?_)
 ·
  have hk:l[i].k=2:=by simpa using hb
  have hwl:wlN l[i]=[lN]:=by simp[wlN,hk]
  clear hb;refine bD (by kernel_rfl) ?_;simp only[sR,simprocAttr];refine SG0 ?_;refine bZ (g:=none) 74 rfl rfl fun K' hK'=>?_;simp only[eN,iD,sH,↓sP,sA,tyS,simprocAttr];repeat refine AI ?_
  refine cB (by first|rfl|simp) ?_;try simp only[sH,↓sP,sA,tyS,simprocAttr]
  refine AX (hK' _ _ ?_);clear hK' K';iterate 3 refine SG0 ?_
  refine T4 ?_;exact key _ _ _ hk1 (by rw[hwl];exact aN (by omega) (by simp[aW,fin_at,finA_at,upd_at,HV.men,HV.menL,HV.norm,HV.toC,HV.toCL,lsC,lN,lO,cO]) (by simp[aY,fob_at,upd_at,none0_at,bX,HO.men,HV.men,HV.menL,HV.norm,HV.toC,HV.toCL,lsC,lN,lO,cO]))
 have hk2:l[i].k≠2:=by simpa using hb
 clear hb;refine R0 ?_;refine aG (b:=(l[i].k==3)) rfl (fun hb=>?_) (fun hb=>?_)
 ·
  have hk:l[i].k=3:=by simpa using hb
  have hwl:wlN l[i]=[lO]:=by simp[wlN,hk]
  clear hb;refine bD (by kernel_rfl) ?_;simp only[sR,simprocAttr];refine SG0 ?_;refine bZ (g:=none) 82 rfl rfl fun K' hK'=>?_;simp only[eN,iD,sH,↓sP,sA,tyS,simprocAttr];repeat refine AI ?_
  refine cB (by first|rfl|simp) ?_;try simp only[sH,↓sP,sA,tyS,simprocAttr]
  refine AX (hK' _ _ ?_);clear hK' K';iterate 3 refine SG0 ?_
  refine T4 ?_;exact key _ _ _ hk1 (by rw[hwl];exact aN (by omega) (by simp[aW,fin_at,finA_at,upd_at,HV.men,HV.menL,HV.norm,HV.toC,HV.toCL,lsC,lN,lO,cO]) (by simp[aY,fob_at,upd_at,none0_at,bX,HO.men,HV.men,HV.menL,HV.norm,HV.toC,HV.toCL,lsC,lN,lO,cO]))
 have hk3:l[i].k≠3:=by simpa using hb
 have hk4:=bB0 hnode hk1 hk2 hk3;clear hb;refine R0 ?_;refine aG (b:=(l[i].k==4)) rfl (fun hb=>?_) (fun hb=>?_)
 ·
  have hwl:wlN l[i]=[cO,numW l[i].n]:=by simp[wlN,hk2,hk3]
  have hnn:=bB2 hnode hk4;clear hb;refine bD (by kernel_rfl) ?_;simp only[sR,simprocAttr];iterate 3 refine SG0 ?_
  refine bJ (g:=none) rfl rfl fun K' hK'=>T5 ?_;refine fH (args:=[_]) 0 (xX l[i].n ⟨by omega,by omega⟩) rfl (by simp) ⟨rfl,rfl,rfl,rfl⟩ ?_;rintro u rfl;refine AX (hK' _ _ ?_);clear hK' K';refine bZ (g:=none) 102 rfl rfl fun K' hK'=>?_;simp only[eN,iD,sH,↓sP,sA,tyS,simprocAttr];repeat refine AI ?_
  refine cB (by first|rfl|simp) ?_;try simp only[sH,↓sP,sA,tyS,simprocAttr]
  refine AX (hK' _ _ ?_);clear hK' K';iterate 3 refine SG0 ?_
  refine T4 ?_;exact key _ _ _ hk1 (by rw[hwl];exact aN (by omega) (by simp[aW,fin_at,finA_at,upd_at,HV.men,HV.menL,HV.norm,HV.toC,HV.toCL,lsC,lN,lO,cO]) (by simp[aY,fob_at,upd_at,none0_at,bX,HO.men,HV.men,HV.menL,HV.norm,HV.toC,HV.toCL,lsC,lN,lO,cO]))
 rw[hk4]at hb;cases hb
theorem aQ6 (w:aJ)(hl:w.length<2^40):bS Tryz.prog 67 [.str w] (fun v=>v= .str (iE w)):=by
 refine FW Tryz.func67 ?_;refine R0 ?_;refine aC fun K hK=>?_;refine R0 ?_;refine aG (b:=w==[]) rfl (fun hb=>?_) (fun hb=>?_)
 · refine R0 ?_;refine aF (RT Tryz.results67 ?_);exact aH [] (.str [126]) rfl (by rw[iE,if_pos (by simpa using hb)])
 refine aK ?_;refine T0 (hK _ _ _ ?_);clear hK K;have hne:w≠[]:=by simpa using hb
 clear hb;refine R0 ?_;refine R0 ?_;refine aC fun K hK=>?_;refine R0 ?_;refine aL ?_;refine jV 4 0 5 1 rfl rfl rfl rfl ?_;refine bF (α:={i:Nat//i≤w.length}) (fun i=>(fin [(0,.c (.str w)),(3,.c (.str [48,49,50,51,52,53,54,55,56,57,65,66,67,68,69,70])),(4,.own 24 (cK (w.take i.1)).length),(5,.c (.int .i64 i.1))],fob [(24,.row 5 1 ((cK (w.take i.1)).map cP))])) 100 (fun i=>w.length-i.1) ⟨0,by omega⟩ (fF) ?_;rintro⟨i,hi⟩;have hle:=kX w i;have hle3:=qM w;refine aC fun K hK=>?_;refine aC fun K hK=>Rg ?_;iterate 4 refine S0 ?_
 refine T2 (hK _ _ _ ?_);clear hK K;refine aG (b:=decide ((i:Int)<w.length)) rfl (fun hb=>?_) (fun hb=>?_)
 ·
  have hlt:i<w.length:=by simpa using hb
  have hgd:w.getD i 0=w[i]:=by simp[hlt]
  have hs:=pK hlt;refine aK ?_;refine T0 (hK _ _ _ ?_);clear hK K;refine aC fun K hK=>?_;refine aL ?_;refine aC fun K hK=>Rg ?_;iterate 3 refine S0 ?_ (e:=fun _ h_=>by simp only[sH,↓sP,sA,tyS,simprocAttr,Int.natCast_nonneg,Int.ofNat_lt,hlt,hgd];exact AX h_)
  refine HS rfl rfl fun K' hK'=>?_;simp only[sH,↓sP,sA,tyS,simprocAttr,Int.natCast_nonneg,Int.ofNat_lt,hlt,hgd];refine C1 (tA w[i]) ?_;rintro u rfl;refine AX (hK' _ _ ?_);clear hK' K';refine T2 (hK _ _ _ ?_);clear hK K;refine aG (b:=cG w[i]) rfl (fun hb=>?_) (fun hb=>?_)
  ·
   refine Rg ?_;iterate 7 refine S0 ?_ (e:=fun _ h_=>by simp only[sH,↓sP,sA,tyS,simprocAttr,Int.natCast_nonneg,Int.ofNat_lt,hlt,hgd,List.length_append,List.length_map];exact AX h_)
   refine T2 (hK _ _ _ ?_);clear hK K;refine aM (by kernel_rfl) ?_;refine TQ (iL i) ?_;refine⟨⟨i+1,hlt⟩,aN (by omega) ?_ ?_,?_⟩
   · rw[hs,jG,if_pos hb];simp[aW,upd_at,fin_at,HV.men]
   · rw[hs,jG,if_pos hb,List.map_append];exact⟨rfl,by omega,trivial,trivial⟩
   show w.length-(i+1)<w.length-i;omega
  have h16:((w[i].toNat/16:Nat):Int)<16:=by have:=w[i].toNat_lt;omega
  have h15:((w[i].toNat%16:Nat):Int)<16:=by omega
  refine DW [(0,[],[]),(1,[],[]),(2,[],[]),(3,[],[]),(4,[],[]),(5,[],[]),(6,[],[]),(7,[],[]),(8,[],[]),(9,[],[]),(10,[],[]),(11,[],[]),(12,[],[]),(13,[],[]),(14,[],[]),(15,[],[])] [0,0,0,0,12,28,62,0,0,0,768,1792,3968,8190,16383,32767] ?_;iterate 16 refine W0 ?_ (e:=fun _ h_=>by simp only[sH,↓sP,sA,tyS,simprocAttr,Int.natCast_nonneg,Int.ofNat_lt,hlt,hgd,List.length_append,List.length_map,cK3,cD5,h16,h15];exact AX h_)
  refine T2 (hK _ _ _ ?_);clear hK K;refine aM (by kernel_rfl) ?_;refine TQ (iL i) ?_;refine⟨⟨i+1,hlt⟩,aN (by omega) ?_ ?_,?_⟩
  · rw[hs,jG,if_neg (by rw[hb];simp)];simp[aW,upd_at,fin_at,HV.men]
  · rw[hs,jG,if_neg (by rw[hb];simp),List.map_append];exact⟨rfl,by omega,trivial,trivial⟩
  show w.length-(i+1)<w.length-i;omega
 refine bA (T3 ?_);clear hK K;refine AX (hK _ _ _ ?_);clear hK K;refine dV [24] (bH (fr2:=fin [(4,.c (.slc ((cK (w.take i)).map cP)))]) (ob2:=fob []) (nx2:=200) (aN (by omega) (by simp[aW,gJ,fin_at,finA_at,upd_at,fob_at,HV.close,HV.closeL,CV.denil,CV.denilL,cM,HV.men,HV.menL,HV.norm,HV.toC,HV.toCL]) (by simp[aY,gK,fob_at,upd_at,none0_at,bX,HO.close,HV.close,HV.closeL,HO.men,HV.men,HV.menL,HV.norm,HV.toC,HV.toCL])) ?_);have F:=@bytesC_map;refine RF ?_;refine aF (RT Tryz.results67 ?_);have hei:i=w.length:=by simp at hb;omega
 subst hei;exact aH [] (.str (cK w)) (by rw[List.take_length];rfl) (by rw[iE,if_neg hne])
theorem bB9 (ls:List (List aJ))(h0:ls.length<2^40)(h1: ∀l∈ls,l.length<2^40):fR Tryz.prog 37 [.slc (ls.map fun l=> .slc (l.map .str))] (fun u v=>u= .slc ((iK ls).map cP)∧v= .int .i64 (gM ls)):=by
 refine FW Tryz.func37 ?_;refine R0 ?_;refine aC fun K hK=>?_;refine R0 ?_;refine aG (b:=decide ((1000:Int)<ls.length)) rfl (fun hb=>?_) (fun hb=>?_)
 · refine R0 ?_;refine aF (RT Tryz.results37 ?_);have hE:=sS (ls:=ls) (by simp at hb;omega);refine aR [] (.slc []) (.int .i64 3) ?_ ⟨by rw[iV (by rw[hE];decide)];rfl,by rw[hE]⟩;simp[HV.close,HV.closeL,CV.denil,CV.denilL,HV.norm,HV.toC,HV.toCL]
 refine aK ?_;refine T0 (hK _ _ _ ?_);clear hK K;have hn:ls.length≤1000:=by simp at hb;omega
 clear hb;refine R0 ?_;refine aC fun K hK=>?_;refine R0 ?_;refine aL ?_;refine jV 4 0 5 1 rfl rfl rfl rfl ?_;refine bF (α:={i:Nat//i≤ls.length∧ ∀x∈ls.take i,okL x=true}) (fun i=>(fin [(0,.c (.slc (ls.map fun l=> .slc (l.map .str)))),(4,.own 28 (eW (ls.take i.1)).length),(5,.c (.int .i64 i.1))],fob [(28,.row 5 1 ((eW (ls.take i.1)).map cP))])) 100 (fun i=>ls.length-i.1) ⟨0,by omega,by simp⟩ (fF) ?_;rintro⟨i,hi,hk⟩;refine aC fun K hK=>?_;refine aC fun K hK=>Rg ?_;iterate 4 refine S0 ?_
 refine T2 (hK _ _ _ ?_);clear hK K;refine aG (b:=decide ((i:Int)<ls.length)) rfl (fun hb=>?_) (fun hb=>?_)
 ·
  have hlt:i<ls.length:=by simpa using hb
  clear hb;have hl1:=h1 ls[i] (List.getElem_mem hlt);have hne: ∀l∈ls.take i,l≠[]:=fun l hl=>((jH l).1 (hk l hl)).1;have hsd:=aX9 hk;rw[List.length_take]at hsd;have hdl:=qO hne;have hdt1:=zN hlt;obtain⟨l,hl⟩: ∃l,l=ls[i]:=⟨_,rfl⟩;have hln:nth (ls.map fun l=>CV.slc (l.map .str)) i= .slc (l.map .str):=by rw[bL hlt,hl]
  rw[←hl]at hdt1 hl1;have hlti:(i:Int)<ls.length:=by omega
  refine aK ?_;refine T0 (hK _ _ _ ?_);clear hK K;refine aC fun K hK=>?_;refine aL ?_;refine aC fun K hK=>?_;refine aC fun K hK=>Rg ?_;have F:=aI @Int.natCast_nonneg (aI @Int.ofNat_lt (aI hlt hln));iterate 6 refine SF ?_
  refine T2 (hK _ _ _ ?_);clear hK K;refine aG (b:=(l.length:Int)==0) rfl (fun hb=>?_) (fun hb=>?_)
  ·
   refine R0 ?_;refine aF (RT Tryz.results37 ?_);have hc:mE l=1:=by rw[mE,if_pos (by simp at hb;simp[hb])]
   have hE:=qQ hn hlt hk (by rw[←hl,okL,hc];rfl);rw[←hl,hc]at hE;refine aR [] (.slc []) (.int .i64 1) ?_ ⟨by rw[iV (by rw[hE];decide)];rfl,by rw[hE]⟩;simp[HV.close,HV.closeL,CV.denil,CV.denilL,HV.norm,HV.toC,HV.toCL]
  refine aK ?_;refine T0 (hK _ _ _ ?_);clear hK K;refine aC fun K hK=>?_;have hn0:l.length≠0:=by simp at hb;simp[hb]
  clear hb;refine aC fun K hK=>Rg ?_;iterate 6 refine SF ?_
  refine T2 (hK _ _ _ ?_);clear hK K;refine aG (b:=decide ((120:Int)<l.length)) rfl (fun hb=>?_) (fun hb=>?_)
  ·
   refine R0 ?_;refine aF (RT Tryz.results37 ?_);have hc:mE l=3:=by rw[mE,if_neg hn0,if_pos (by simp at hb;omega)]
   have hE:=qQ hn hlt hk (by rw[←hl,okL,hc];rfl);rw[←hl,hc]at hE;refine aR [] (.slc []) (.int .i64 3) ?_ ⟨by rw[iV (by rw[hE];decide)];rfl,by rw[hE]⟩;simp[HV.close,HV.closeL,CV.denil,CV.denilL,HV.norm,HV.toC,HV.toCL]
  refine aK ?_;refine T0 (hK _ _ _ ?_);clear hK K;refine aC fun K hK=>?_;have hn1:l.length≤120:=by simp at hb;omega
  clear hb;refine R0 ?_;refine aL ?_;refine bF (α:={k:Nat//k≤l.length∧ ∀x∈l.take k,x.length≤32768}) (fun k=>(fin [(0,.c (.slc (ls.map fun l=> .slc (l.map .str)))),(4,.own 28 (eW (ls.take i)++gL (l.take k.1)).length),(5,.c (.int .i64 i)),(6,.c (.int .i64 k.1))],fob [(28,.row 5 1 ((eW (ls.take i)++gL (l.take k.1)).map cP))])) 200 (fun k=>l.length-k.1) ⟨0,by omega,by simp⟩ (fF) ?_;rintro⟨k,hk',hkw⟩;have hsw:=bM3 (l.take k) hkw;rw[List.length_take]at hsw;refine aC fun K hK=>?_;refine aC fun K hK=>Rg ?_;have F:=aI @Int.natCast_nonneg (aI hlti hln);iterate 7 refine SF ?_
  refine T2 (hK _ _ _ ?_);clear hK K;refine aG (b:=decide ((k:Int)<l.length)) rfl (fun hb=>?_) (fun hb=>?_)
  ·
   have hlk:k<l.length:=by simpa using hb
   clear hb;refine aK ?_;refine T0 (hK _ _ _ ?_);clear hK K;refine aC fun K hK=>?_;refine aL ?_;refine aC fun K hK=>?_;refine aC fun K hK=>Rg ?_;have F:=aI @Int.natCast_nonneg (aI @Int.ofNat_lt (aI hlt (aI hln (aI hlk (nM hlk)))));iterate 9 refine SF ?_
   refine T2 (hK _ _ _ ?_);clear hK K;refine aG (b:=decide ((32768:Int)<l[k].length)) rfl (fun hb=>?_) (fun hb=>?_)
   ·
    refine R0 ?_;refine aF (RT Tryz.results37 ?_);have hc:mE l=3:=by rw[mE,if_neg hn0,if_neg (by omega),if_pos];simp only[List.any_eq_true,decide_eq_true_eq];exact⟨_,List.getElem_mem hlk,by simp at hb;omega⟩
    have hE:=qQ hn hlt hk (by rw[←hl,okL,hc];rfl);rw[←hl,hc]at hE;refine aR [] (.slc []) (.int .i64 3) ?_ ⟨by rw[iV (by rw[hE];decide)];rfl,by rw[hE]⟩;simp[HV.close,HV.closeL,CV.denil,CV.denilL,HV.norm,HV.toC,HV.toCL]
   refine aK ?_;refine T0 (hK _ _ _ ?_);clear hK K;refine aC fun K hK=>?_;have hw2:l[k].length≤32768:=by simp at hb;omega
   clear hb;have hel:=qN l[k];have hsz:=lH l[k];have hsp:=zL l[k];have hpe:0<(iE l[k]).length:=by omega
   have htk:=zM hlk;have hbe:(eW (ls.take i)).length+(gL (l.take k)).length+(iE l[k]).length≤140737488355328:=by omega
   have hbe1:(eW (ls.take i)).length+(gL (l.take k)).length+1+(iE l[k]).length≤140737488355328:=by omega
   refine R0 ?_;refine aG (b:=decide ((0:Int)<k)) rfl (fun hb=>?_) (fun hb=>?_)
   ·
    refine Rg ?_;have F:=aI @List.length_append.{0} @List.length_map.{0,0};iterate 4 refine SF ?_
    refine T2 (hK _ _ _ ?_);clear hK K;refine Rg ?_;iterate 8 refine S0 ?_ (e:=fun _ h_=>by simp only[sH,↓sP,sA,tyS,simprocAttr,Int.natCast_nonneg,Int.ofNat_lt,hlt,hln,hlk,bL hlk,List.length_append,List.length_map,hpe,hbe,hbe1];exact AX h_)
    refine HS rfl rfl fun K' hK'=>?_;simp only[sH,↓sP,sA,tyS,simprocAttr,Int.natCast_nonneg,Int.ofNat_lt,hlt,hln,hlk,bL hlk,List.length_append,List.length_map,hpe,hbe,hbe1];refine C1 (aQ6 l[k] (by omega)) ?_;rintro u rfl;refine AX (hK' _ _ ?_);clear hK' K';iterate 2 refine S0 ?_ (e:=fun _ h_=>by simp only[sH,↓sP,sA,tyS,simprocAttr,Int.natCast_nonneg,Int.ofNat_lt,hlt,hln,hlk,bL hlk,List.length_append,List.length_map,hpe,hbe,hbe1];exact AX h_)
    refine T2 (hK _ _ _ ?_);clear hK K;refine aM (by kernel_rfl) ?_;refine TQ (iL k) ?_;have hk0:k≠0:=by simp at hb;omega
    refine⟨⟨k+1,hlk,sQ (p:=fun x=>x.length≤32768) hlk hw2 hkw⟩,aN (by omega) ?_ ?_,?_⟩
    · rw[htk,if_neg hk0];simp[aW,upd_at,fin_at,HV.men];omega
    · rw[htk,if_neg hk0];simp only[List.map_append,←List.append_assoc];exact⟨rfl,by omega,trivial,trivial⟩
    show l.length-(k+1)<l.length-k;omega
   refine aK ?_;refine T0 (hK _ _ _ ?_);clear hK K;refine Rg ?_;iterate 8 refine S0 ?_ (e:=fun _ h_=>by simp only[sH,↓sP,sA,tyS,simprocAttr,Int.natCast_nonneg,Int.ofNat_lt,hlt,hln,hlk,bL hlk,List.length_append,List.length_map,hpe,hbe,hbe1];exact AX h_)
   refine HS rfl rfl fun K' hK'=>?_;simp only[sH,↓sP,sA,tyS,simprocAttr,Int.natCast_nonneg,Int.ofNat_lt,hlt,hln,hlk,bL hlk,List.length_append,List.length_map,hpe,hbe,hbe1];refine C1 (aQ6 l[k] (by omega)) ?_;rintro u rfl;refine AX (hK' _ _ ?_);clear hK' K';iterate 2 refine S0 ?_ (e:=fun _ h_=>by simp only[sH,↓sP,sA,tyS,simprocAttr,Int.natCast_nonneg,Int.ofNat_lt,hlt,hln,hlk,bL hlk,List.length_append,List.length_map,hpe,hbe,hbe1];exact AX h_)
   refine T2 (hK _ _ _ ?_);clear hK K;refine aM (by kernel_rfl) ?_;refine TQ (iL k) ?_;have hk0:k=0:=by simp at hb;omega
   refine⟨⟨k+1,hlk,sQ (p:=fun x=>x.length≤32768) hlk hw2 hkw⟩,aN (by omega) ?_ ?_,?_⟩
   · rw[htk,if_pos hk0];simp[aW,upd_at,fin_at,HV.men];omega
   · rw[htk,if_pos hk0,List.nil_append];simp only[List.map_append,←List.append_assoc];exact⟨rfl,by omega,trivial,trivial⟩
   show l.length-(k+1)<l.length-k;omega
  have hek:k=l.length:=by simp at hb;omega
  subst hek;clear hb;rw[List.take_length]at*;have hokl:okL l=true:=(jH l).2 ⟨fun h=>hn0 (by rw[h];rfl),hn1,hkw⟩;refine bA (T3 ?_);clear hK K;refine AX (hK _ _ _ ?_);clear hK K;refine Rg ?_;have F:=aI @List.length_append.{0} (aI @List.length_map.{0,0} @List.take_length.{0});iterate 4 refine SF ?_
  refine T2 (hK _ _ _ ?_);clear hK K;refine aM (by kernel_rfl) ?_;refine TQ (iL i) ?_;refine⟨⟨i+1,hlt,sQ (p:=fun x=>okL x=true) hlt (by rw[←hl];exact hokl) hk⟩,aN (by omega) ?_ ?_,?_⟩
  · rw[hdt1,uT];simp[aW,upd_at,fin_at,HV.men];try omega
  · rw[hdt1,uT];simp only[List.map_append,←List.append_assoc,List.take_length];exact⟨rfl,by omega,trivial,trivial⟩
  show ls.length-(i+1)<ls.length-i;omega
 have hei:i=ls.length:=by simp at hb;omega
 subst hei;clear hb;rw[List.take_length]at hk;have hE:=qR hn hk;refine bA (T3 ?_);clear hK K;refine AX (hK _ _ _ ?_);clear hK K;refine aC fun K hK=>?_;have F:=aI @List.take_length.{0} @List.length_map.{0,0};refine RF ?_;refine aG (b:=decide ((262144:Int)<(eW ls).length)) rfl (fun hb=>?_) (fun hb=>?_)
 · refine R0 ?_;refine aF (RT Tryz.results37 ?_);rw[if_pos (by simp at hb;omega)]at hE;refine aR [] (.slc []) (.int .i64 3) ?_ ⟨by rw[iV (by rw[hE];decide)];rfl,by rw[hE]⟩;simp[HV.close,HV.closeL,CV.denil,CV.denilL,HV.norm,HV.toC,HV.toCL]
 refine aK ?_;refine T0 (hK _ _ _ ?_);clear hK K;refine R0 ?_;refine aF (RT Tryz.results37 ?_);rw[if_neg (by simp at hb;omega)]at hE;refine aR [28] (.slc ((eW ls).map cP)) (.int .i64 0) ?_ ⟨by rw[qS hE],by rw[hE]⟩;simp[HV.close,fob_at,upd_at,HV.norm,HV.toC,HV.closeL,HV.toCL,List.take_of_length_le,CV.denil,cM]
end Go.Proofs.YtlldglbooaefhaaGreatDoor
namespace Go.Hl
open Go
def mvN (id d:Nat):Nat→Nat:=fun i=>if i=id then d else i
def mvF (id d:Nat)(fr:Fr):Fr:=fun t=>(fr t).ren (mvN id d)
def mvO (id d:Nat)(ob:Ob):Ob:=fun i=>if i=d then(ob id).map (HO.ren (mvN id d))else if i=id then none else(ob i).map (HO.ren (mvN id d))
section
variable {P:Program}{n k:Nat}{Q:eA}{fr:Fr}{ob:Ob}{nx:Nat}
theorem RepA.mv {c:Ctx}{a:Act}{w:World}{M:Nat→Prop}(hA:RepA c M fr ob a w)(hk':c.M0=(· <k))(id d nx2:Nat)(hk:k≤id)(hkd:k≤d)(hid:M id)(hM: ∀i,M i→i<nx2∧i≠d)(hd:d<nx2):RepA c (· <nx2) (mvF id d fr) (mvO id d ob) a w:=by
 obtain⟨ρ,hA⟩:=hA;have hne:id≠d:=(hM id hid).2
 let ρ2:Env:=fun i=>if i=d then ρ id else if i=id then none else ρ i
 have hm: ∀i,M i→ρ2 (mvN id d i)=ρ i:=fun i hi=>by
  have:=hM i hi;simp only[ρ2,mvN];grind
 have hinv: ∀i L,ρ2 i=some L→ ∃j,M j∧mvN id d j=i∧ρ j=some L:=fun i L hL=>by
  simp only[ρ2]at hL;split at hL
  · grind[mvN]
  ·
   split at hL
   · grind
   ·
    rename_i e1 e2;refine⟨i,?_,by simp[mvN,e2],hL⟩;by_cases h1:M i
    · exact h1
    · have:=(hA.nid_none (nid:=i) h1).2;grind
 have hown: ∀b,Own ρ2 b→Own ρ b:=fun b ⟨i,L,h1,h2⟩=>let⟨j,_,_,h3⟩:=hinv i L h1;⟨j,L,h3,h2⟩;have hst:Stay w (Owned ρ c.X) w (Owned ρ2 c.X):=Stay.same (fun b _ hb=>hb.imp _root_.id (hown b));have hmv:Moves M ρ (fun i=>ρ2 (mvN id d i)):=Moves.of_eq fun i hi=>hm i hi;have hobj: ∀i o,mvO id d ob i=some o→ ∃j o',M j∧mvN id d j=i∧ob j=some o'∧o=o'.ren (mvN id d):=fun i o ho=>by
  simp only[mvO]at ho;split at ho
  · grind[Option.map_eq_some_iff,mvN]
  ·
   split at ho
   · grind
   · rename_i e1 e2;obtain⟨o',h1,h2⟩:=Option.map_eq_some_iff.1 ho;exact⟨i,o',(hA.mo i o' h1).1,by simp[mvN,e2],h1,h2.symm⟩
 have hmen: ∀i,M i→mvN id d i<nx2:=fun i hi=>by
  have:=hM i hi;grind[mvN]
 refine⟨ρ2,⟨fun i o ho=>?_,fun i hi=>?_,fun i i' L L' b h1 h2 h3 h4=>?_,fun i L b h1 h2=>?_⟩,fun t ht=>?_,fun t=>?_,fun i o ho=>?_,fun i hi=>?_,?_,?_,hA.defers,hA.size,hA.xlt⟩
 · obtain⟨j,o',hj,rfl,h1,rfl⟩:=hobj i o ho;exact RepO.unsub hst hmv (hA.mo j o' h1).2 (hm j hj) (hA.s.objs j o' h1)
 ·
  simp only[mvO]at hi;simp only[ρ2];split at hi
  · rename_i e;rw[if_pos e];exact hA.s.none id (by simp_all)
  ·
   rename_i e;rw[if_neg e];split at hi
   · grind
   · rename_i e2;rw[if_neg e2];exact hA.s.none i (by simp_all)
 · obtain⟨j,_,rfl,e1⟩:=hinv i L h1;obtain⟨j',_,rfl,e2⟩:=hinv i' L' h2;rw[hA.s.apart j j' L L' b e1 e2 h3 h4]
 · obtain⟨j,_,rfl,e1⟩:=hinv i L h1;exact hA.s.xb j L b e1 h2
 ·
  have hj:fr t≠ .junk:=by intro e;apply ht;simp only[mvF,e,HV.ren]
  have hf:=hA.f t hj;exact⟨jQ.2 (RepH.stay hst hmv (hA.mf t) hf.1),by simp only[mvF,HV.ren_isAgg];exact hf.2⟩
 · exact men_ren.2 (HV.men_mono hmen (hA.mf t))
 · obtain⟨j,o',hj,rfl,h1,rfl⟩:=hobj i o ho;exact⟨hmen j hj,HO.men_ren.2 (HO.men_mono hmen (hA.mo j o' h1).2)⟩
 · exact(hM i (hA.m0 i hi)).1
 · exact hA.base.trans ⟨fun _ _ _=>rfl,fun b hb=> .inl (hown b hb),Nat.le_refl _,rfl,rfl,rfl⟩
 ·
  refine Moves.trans (M':=c.M0) (fun i hi=>hi) hA.moves fun i L hi hL=>⟨L,?_,.inl rfl⟩;rw[hk']at hi;have h1:i<k:=hi;simp only[ρ2]at hL
  rwa [if_neg (by omega),if_neg (by omega)]at hL
theorem cE2 {code:Code}(id d:Nat)(hk:k≤id)(hid:id<nx)(hd:nx≤d)(h:Hw P n k code Q (mvF id d fr) (mvO id d ob) (d+1)):Hw P n k code Q fr ob nx:=by
 intro c a w hn hk' hz hA;exact h c a w hn hk' hz (hA.mv hk' id d (d+1) hk (by omega) hid (fun i hi=>by omega) (by omega))
end
end Go.Hl
namespace Go.Pl
open Go Go.Hl
theorem cC2 (q:Rq):(wlR q).length≤5:=by grind[wlR]
theorem cC3 (n:Nd):(wlN n).length≤5:=by grind[wlN]
theorem vI : ∀(f m:Nat) (l:List Nd),∀x∈cC f m l,x.length≤5
 |0,m,l,x,h=>by simp[cC]at h
 |f+1,0,l,x,h=>by cases l<;>simp[cC]at h
 |f+1,m+1,[],x,h=>by simp[cC]at h
 |f+1,m+1,n::l,x,h=>by
  simp only[cC]at h;split at h
  ·
   rcases List.mem_cons.1 h with rfl|h
   · exact cC2 _
   · exact vI f _ _ x h
  ·
   rcases List.mem_cons.1 h with rfl|h
   · exact cC3 _
   ·
    rcases List.mem_append.1 h with h|h
    · exact vI f _ _ x h
    ·
     rcases List.mem_cons.1 h with rfl|h
     · simp
     · exact vI f _ _ x h
theorem pY (t:List Nd):eR t 0=mQ t:=by simp[eR,mQ]
def kD (p:Po)(i:Nat):List (List aJ):=[wPolicy,p.n,numW p.v]::(p.r.take i).flatMap gB
theorem tK {p:Po}{i:Nat}(hi:i<p.r.length):kD p (i+1)=kD p i++gB p.r[i]:=by grind[kD,List.take_succ_eq_append_getElem]
theorem rT (p:Po):kD p p.r.length=dS p:=by simp[kD,dS]
theorem bJ7 {r:Pr}(h:iW r=true):(gB r).length≤121:=by
 obtain⟨_,ht,_⟩:=iB h;have h0:0<r.t.length:=ht.ne;have h1:=xW ht h0;have h2:=(iM ht h0).2.1;have h3:=ht.len;grind[pY,gB,List.length_cons]
theorem xZ {p:Po}(h: ∀r∈p.r,iW r=true): ∀i,i≤p.r.length→(kD p i).length≤1+121*i
 |0,_=>by simp[kD]
 |i+1,hi=>by
  have:=xZ h i (by omega);grind[bJ7,List.getElem_mem,tK,List.length_append]
theorem bC0 (p:Po): ∀x∈dS p,x.length<2^40:=by
 intro x hx;have:x.length≤5:=by
  simp only[dS]at hx;rcases List.mem_cons.1 hx with rfl|hx
  · simp
  ·
   obtain⟨r,_,hx⟩:=List.mem_flatMap.1 hx;simp only[gB]at hx;rcases List.mem_cons.1 hx with rfl|hx
   · simp
   · exact vI _ _ _ x hx
 omega
end Go.Pl
