/- Plain Lean: a policy that was read is of small size (28.5). By an AI agent. -/
import Derived.Test.YtlldglbooaefhaaGreatDoorHzTr
import Derived.Test.YtlldglbooaefhaaGreatDoorHzU1
import Derived.Test.YtlldglbooaefhaaGreatDoorHlTlaw
import Derived.Shelf.LaysM
import Derived.Shelf.Strconv.Itoa4
import Derived.Test.YtlldglbooaefhaaGreatDoorHlZb
import Derived.Test.YtlldglbooaefhaaGreatDoorPl11v
import Derived.Test.YtlldglbooaefhaaGreatDoorHzT5
import Derived.Test.YtlldglbooaefhaaGreatDoorHzT9
set_option linter.unusedSimpArgs false
set_option linter.unusedVariables false
set_option linter.defProp false
namespace Go.Pl
open Go Go.Hl
variable {a:Nat}{ls:List (List aG)}
theorem cC2 (ha:a≤ls.length)(h:isV ls a wRule 5=false):rdR (ls.drop a)=(none,ls.drop a):=by
 rcases Nat.lt_or_ge a ls.length with hl|hl
 · rw[iJ hl]at h;rw[List.drop_eq_getElem_cons hl];simp_all[rdR,if_neg]
 · rw[List.drop_eq_nil_of_le hl];rfl
theorem bW0 (hl:a<ls.length)(h1:ls[a].length=5)(h2:wd ls[a] 0=wRule)(hn:bH (wd ls[a] 4)=none):rdR (ls.drop a)=(none,ls.drop a):=by
 rw[List.drop_eq_getElem_cons hl];simp_all[rdR,if_pos]
theorem bO4 (hl:a<ls.length)(h1:ls[a].length=5)(h2:wd ls[a] 0=wRule){g:Int}(hn:bH (wd ls[a] 4)=some g):
  rdR (ls.drop a)=((rdT (ls.drop (a+1))).1.map fun t=>⟨wd ls[a] 1,wd ls[a] 2,wd ls[a] 3,g,t⟩,(rdT (ls.drop (a+1))).2):=by
 rw[List.drop_eq_getElem_cons hl];simp only[rdR];grind
theorem aD7 (ls:List (List aG)): ∃j,j≤ls.length∧(rdR ls).2=ls.drop j∧ ∀p,(rdR ls).1=some p→1≤j:=by
 match ls with
 |[]=>exact⟨0,by simp,rfl,fun p h=>by cases h⟩
 |w::r=>
  simp only[rdR];split
  ·
   cases bH (wd w 4)with
   |none=>exact⟨0,by simp,rfl,fun p h=>by cases h⟩
   |some g=>
    obtain⟨j,hj,h2⟩:=aW7 (2*r.length+2) r;simp only[rdT]
    match hm:rdN (2*r.length+2) r with
    |(none,r')=>rw[hm]at h2;exact⟨j+1,by grind,h2,fun p h=>by cases h⟩
    |(some t,r')=>rw[hm]at h2;exact⟨j+1,by grind,h2,fun p h=>by omega⟩
  · exact⟨0,by simp,rfl,fun p h=>by cases h⟩
abbrev Rls :=Option (List Pr)×List (List aG)
structure RsSt (ls:List (List aG))(X:Rls)(acc:List Pr)(p:Nat):Prop where
 eq:X=kI (ls.length-p+1) (ls.drop p) acc
 le:p≤ls.length
 len:acc.length≤p
theorem zM : ∀(f g:Nat) (ls:List (List aG)) (acc:List Pr),ls.length<f→f≤g→kI g ls acc=kI f ls acc
 |0,_,_,_,h,_=>by omega
 |f+1,g,ls,acc,h,hg=>by
  obtain⟨q,rfl⟩: ∃q,g=q+1:=⟨g-1,by omega⟩;simp only[kI];split
  · rfl
  ·
   obtain⟨j,hj,h2,h3⟩:=aD7 ls
   match hm:rdR ls with
   |(none,r)=>rfl
   |(some x,r)=>
    rw[hm]at h2 h3;have h4:=h3 x rfl;simp only at h2;exact zM f q r _ (by rw[h2,List.length_drop];omega) (by omega)
variable {p:Nat}{acc:List Pr}{X:Rls}
theorem RsSt.done (h:RsSt ls X acc p)(hp: ¬p<ls.length):p=ls.length∧X=(some acc,[]):=by
 have h1:=h.le;refine⟨by omega,?_⟩;rw[h.eq,List.drop_eq_nil_of_le (by omega),kI,if_pos rfl]
theorem RsSt.no (h:RsSt ls X acc p)(hp:p<ls.length)(hn:(rdR (ls.drop p)).1=none):X=(none,(rdR (ls.drop p)).2):=by
 rw[h.eq,kI,if_neg (by simp_all)];grind
theorem RsSt.some_ (h:RsSt ls X acc p)(hp:p<ls.length){x:Pr}(hs:(rdR (ls.drop p)).1=some x):
  RsSt ls X (acc++[x]) (ls.length-(rdR (ls.drop p)).2.length)∧p<ls.length-(rdR (ls.drop p)).2.length:=by
 obtain⟨j,hj,h2,h3⟩:=aD7 (ls.drop p);have h4:=h3 x hs;rw[List.length_drop]at hj;have hlen:=h.len;have hpos:ls.length-(rdR (ls.drop p)).2.length=p+j:=by rw[h2];simp only[List.length_drop];omega
 rw[hpos];refine⟨⟨?_,by omega,by grind⟩,by omega⟩;rw[h.eq,kI,if_neg (by grind)];grind[rdR,List.drop_drop,zM,List.length_drop]
theorem cC3 (h:isV ls 0 wPolicy 3=false):rdP ls=(none,ls):=by
 match ls with
 |[]=>rfl
 |w::r=>
  simp_all[iJ,rdP,if_neg]
theorem bW1 (hl:0<ls.length)(h1:ls[0].length=3)(h2:wd ls[0] 0=wPolicy)(hn:bH (wd ls[0] 2)=none):rdP ls=(none,ls):=by
 match ls,hl with
 |w::r,_=>
  simp_all[List.getElem_cons_zero,rdP,if_pos]
theorem bO5 (hl:0<ls.length)(h1:ls[0].length=3)(h2:wd ls[0] 0=wPolicy){v:Int}(hn:bH (wd ls[0] 2)=some v):
  ∃X:Rls,rdP ls=(X.1.map fun l=>⟨wd ls[0] 1,v,l⟩,X.2)∧RsSt ls X [] 1:=by
 match ls,hl with
 |w::r,_=>
  simp only[List.getElem_cons_zero]at h1 h2 hn⊢;refine⟨kI (r.length+1) r [],?_,⟨by simp,by simp,by simp⟩⟩;simp only[rdP];grind
end Go.Pl
namespace Go.Proofs.YtlldglbooaefhaaGreatDoor
open Go Go.Hl Go.Pl
set_option maxRecDepth 10000
set_option maxHeartbeats 16000000
def pr0 :Pr:=⟨[],[],[],0,[]⟩
theorem bD4 (ls:List (List aG))(a:Nat)(hal:a≤ls.length)(hls:ls.length<2^39):
  tA Tryz.prog 90 94 (rdr ls a) [] (fun u x v'=> ∃q:Pr,u=q.cv∧x= .bool (rdR (ls.drop a)).1.isSome∧v'=rdr ls (ls.length-(rdR (ls.drop a)).2.length)∧ ∀p,(rdR (ls.drop a)).1=some p→q=p):=by
 refine bR Tryz.func90 rfl (by kernel_rfl) (cZ _ _ _) (Nat.le_of_ble_eq_true rfl) ?_;refine R0 ?_;refine aC fun K hK=>?_;refine aC fun K hK=>Rg ?_;refine S0 ?_;refine HS rfl rfl fun K' hK'=>T5 ?_;refine bV (args:=[_,_]) (zK ls a 5 wRule (by omega)) rfl (by simp) ⟨rfl,rfl,rfl,rfl⟩ ?_;rintro u v' ⟨rfl,rfl⟩;refine AX (hK' _ _ ?_);clear hK' K';refine S0 ?_;refine T2 (hK _ _ _ ?_);clear hK K;refine aJ (b:=!isV ls a wRule 5) rfl (fun hb=>?_) (fun hb=>?_)
 ·
  have hX:=cC2 hal (show isV ls a wRule 5=false by simpa using hb);refine aC fun K hK=>Rg ?_;iterate 3 refine S0 ?_
  refine T2 (hK _ _ _ ?_);clear hK K;refine aF (RT Tryz.results90 ?_);rw[hX];exact bS [] pr0.cv (.bool false) (rdr ls a) rfl rfl (by simp[HV.close,HV.closeL,rdr,CV.denil,CV.denilL,aQ,HV.norm,HV.toC,HV.toCL]) (by simp) (by refine⟨pr0,rfl,rfl,?_⟩;first|exact(by simp only[List.length_drop];congr 1;omega)|exact⟨by simp only[List.length_drop];congr 1;omega,fun t h=>by cases h⟩)
 refine aK ?_;refine T0 (hK _ _ _ ?_);clear hK K;obtain⟨hl,hl1,hl2⟩:=fR (show isV ls a wRule 5=true by simpa using hb);have h1:1<ls[a].length:=by omega
 have h2:2<ls[a].length:=by omega
 have h3:3<ls[a].length:=by omega
 have hw:IntKind.i64.wrap ((a:Int)+1)=((a+1:Nat):Int):=IntWalk.i64_in _ (by omega);clear hb;refine aC fun K hK=>QR ?_;iterate 11 refine S0 ?_ (e:=fun _ h_=>by simp only[sH,↓sP,sA,tyS,simprocAttr,rdr,Int.natCast_nonneg,Int.ofNat_lt,hl,bN hl,kV];exact AX h_)
 refine T2 (hK _ _ _ ?_);clear hK K;refine aC fun K hK=>Rg ?_;refine S0 ?_;refine HS rfl rfl fun K' hK'=>T5 ?_;refine dT (args:=[_]) (kX ls a 4 hl (by omega)) rfl (by simp) ⟨rfl,rfl,rfl,rfl⟩ ?_;rintro u x v' ⟨rfl,rfl,rfl⟩;refine AX (hK' _ _ ?_);clear hK' K';iterate 5 refine S0 ?_
 refine T2 (hK _ _ _ ?_);clear hK K;refine aC fun K hK=>?_;refine R0 ?_;refine aJ (b:=!(bH (wd ls[a] 4)).isSome) rfl (fun hb=>?_) (fun hb=>?_)
 ·
  have hX:=bW0 hl hl1 hl2 (show bH (wd ls[a] 4)=none by simpa using hb);refine aC fun K hK=>Rg ?_;iterate 3 refine S0 ?_
  refine T2 (hK _ _ _ ?_);clear hK K;refine aF (RT Tryz.results90 ?_);rw[hX];exact bS [] pr0.cv (.bool false) (rdr ls a) rfl rfl (by simp[HV.close,HV.closeL,rdr,CV.denil,CV.denilL,aQ,HV.norm,HV.toC,HV.toCL]) (by simp) (by refine⟨pr0,rfl,rfl,?_⟩;first|exact(by simp only[List.length_drop];congr 1;omega)|exact⟨by simp only[List.length_drop];congr 1;omega,fun t h=>by cases h⟩)
 refine aK ?_;refine T0 (hK _ _ _ ?_);clear hK K;obtain⟨g,hg⟩: ∃g,bH (wd ls[a] 4)=some g:=by
  cases h:bH (wd ls[a] 4)with
  |none=>rw[h]at hb;simp at hb
  |some g=>exact⟨g,rfl⟩
 have hX:=bO4 hl hl1 hl2 hg;clear hb;simp only[hg,Option.getD_some];have hN:tA Tryz.prog 108 94 (rdr ls (a+1)) [.nils] (fun u x v'=> ∃T':List Nd,u= .slc (T'.map Nd.cv)∧x= .bool (rdT (ls.drop (a+1))).1.isSome∧v'=rdr ls (ls.length-(rdT (ls.drop (a+1))).2.length)∧ ∀t,(rdT (ls.drop (a+1))).1=some t→T'=t):=bO3 (2*(ls.drop (a+1)).length+2) ls (a+1) hl (by simp only[List.length_drop];omega) hls;refine aC fun K hK=>Rg ?_;iterate 8 refine S0 ?_ (e:=fun _ h_=>by simp only[sH,↓sP,sA,tyS,simprocAttr,rdr,hw];exact AX h_)
 refine T2 (hK _ _ _ ?_);clear hK K;refine aC fun K hK=>bE (by kernel_rfl) ?_;simp only[sR,simprocAttr];refine SG0 ?_;refine sX (g:=none) rfl rfl fun K' hK'=>?_;simp only[sN,↓hopH.eq_def,sH,↓sP,sA,tyS,simprocAttr];refine dT (args:=[_]) hN rfl (by simp) ⟨rfl,rfl,rfl,rfl⟩ ?_;rintro u x v' ⟨T',rfl,rfl,rfl,hT⟩;refine AX (hK' _ _ ?_);clear hK' K';iterate 5 refine SG0 ?_
 refine T2 (hK _ _ _ ?_);clear hK K;refine aC fun K hK=>DW [(0,[],[]),(1,[],[]),(2,[],[]),(3,[],[]),(4,[],[]),(5,[],[]),(6,[],[]),(7,[],[]),(8,[],[]),(9,[],[]),(10,[],[]),(11,[],[]),(12,[],[]),(13,[],[12]),(14,[],[])] [0,1,3,0,8,24,0,64,192,0,0,2047,0,4095,16383] ?_;iterate 15 refine W0 ?_ (e:=fun _ h_=>by simp only[sH,↓sP,sA,tyS,simprocAttr,lsC,Int.one_nonneg,vY h1,vY h2,vY h3,hl1];exact AX h_)
 refine T2 (hK _ _ _ ?_);clear hK K;refine aF (RT Tryz.results90 ?_);rw[hX];exact bS [] (Pr.cv ⟨wd ls[a] 1,wd ls[a] 2,wd ls[a] 3,g,T'⟩) (.bool (rdT (ls.drop (a+1))).1.isSome) (rdr ls (ls.length-(rdT (ls.drop (a+1))).2.length)) (by simp[HV.close,HV.closeL,Pr.cv,CV.denil,CV.denilL,denilL_Nd,HV.norm,HV.toC,HV.toCL]) rfl (by simp[HV.close,HV.closeL,rdr,CV.denil,CV.denilL,aQ,HV.norm,HV.toC,HV.toCL]) (by simp) ⟨_,rfl,by simp,rfl,fun p h=>by
  cases h4:(rdT (ls.drop (a+1))).1 with
  |none=>simp[h4]at h
  |some t=>simp[h4]at h;rw[←h,hT t h4]⟩
theorem bO6 (ls:List (List aG))(hls:ls.length<2^39):
  tA Tryz.prog 63 94 (rdr ls 0) [] (fun u x v'=> ∃q:Po,u=q.cv∧x= .bool (rdP ls).1.isSome∧v'=rdr ls (ls.length-(rdP ls).2.length)∧ ∀p,(rdP ls).1=some p→q=p):=by
 refine bR Tryz.func63 rfl (by kernel_rfl) (cZ _ _ _) (Nat.le_of_ble_eq_true rfl) ?_;refine R0 ?_;refine aC fun K hK=>?_;refine aC fun K hK=>Rg ?_;refine S0 ?_;refine HS rfl rfl fun K' hK'=>T5 ?_;refine bV (args:=[_,_]) (zK ls 0 3 wPolicy (by omega)) rfl (by simp) ⟨rfl,rfl,rfl,rfl⟩ ?_;rintro u v' ⟨rfl,rfl⟩;refine AX (hK' _ _ ?_);clear hK' K';refine S0 ?_;refine T2 (hK _ _ _ ?_);clear hK K;refine aJ (b:=!isV ls 0 wPolicy 3) rfl (fun hb=>?_) (fun hb=>?_)
 ·
  have hX:=cC3 (show isV ls 0 wPolicy 3=false by simpa using hb);refine aC fun K hK=>Rg ?_;iterate 3 refine S0 ?_
  refine T2 (hK _ _ _ ?_);clear hK K;refine aF (RT Tryz.results63 ?_);rw[hX];exact bS [] po0.cv (.bool false) (rdr ls 0) (by simp[HV.close,HV.closeL,HO.close,fob_at,upd_at,po0,Po.cv,CV.denil,CV.denilL,denilL_Pr,HV.norm,HV.toC,HV.toCL]) rfl (by simp[HV.close,HV.closeL,rdr,CV.denil,CV.denilL,aQ,HV.norm,HV.toC,HV.toCL]) (by simp) (by refine⟨po0,rfl,rfl,?_⟩;first|exact(by simp only[List.length_drop];congr 1;omega)|exact rfl|exact⟨by simp,fun t h=>by cases h⟩)
 refine aK ?_;refine T0 (hK _ _ _ ?_);clear hK K;obtain⟨hl,hl1,hl2⟩:=fR (show isV ls 0 wPolicy 3=true by simpa using hb);have h1:1<ls[0].length:=by omega
 clear hb;refine aC fun K hK=>Rg ?_;refine S0 ?_;refine HS rfl rfl fun K' hK'=>T5 ?_;refine dT (args:=[_]) (kX ls 0 2 hl (by omega)) rfl (by simp) ⟨rfl,rfl,rfl,rfl⟩ ?_;rintro u x v' ⟨rfl,rfl,rfl⟩;refine AX (hK' _ _ ?_);clear hK' K';iterate 5 refine S0 ?_
 refine T2 (hK _ _ _ ?_);clear hK K;refine aC fun K hK=>?_;refine R0 ?_;refine aJ (b:=!(bH (wd ls[0] 2)).isSome) rfl (fun hb=>?_) (fun hb=>?_)
 ·
  have hX:=bW1 hl hl1 hl2 (show bH (wd ls[0] 2)=none by simpa using hb);refine aC fun K hK=>Rg ?_;iterate 3 refine S0 ?_
  refine T2 (hK _ _ _ ?_);clear hK K;refine aF (RT Tryz.results63 ?_);rw[hX];exact bS [] po0.cv (.bool false) (rdr ls 0) (by simp[HV.close,HV.closeL,HO.close,fob_at,upd_at,po0,Po.cv,CV.denil,CV.denilL,denilL_Pr,HV.norm,HV.toC,HV.toCL]) rfl (by simp[HV.close,HV.closeL,rdr,CV.denil,CV.denilL,aQ,HV.norm,HV.toC,HV.toCL]) (by simp) (by refine⟨po0,rfl,rfl,?_⟩;first|exact(by simp only[List.length_drop];congr 1;omega)|exact rfl|exact⟨by simp,fun t h=>by cases h⟩)
 refine aK ?_;refine T0 (hK _ _ _ ?_);clear hK K;obtain⟨v,hv⟩: ∃v,bH (wd ls[0] 2)=some v:=by
  cases h:bH (wd ls[0] 2)with
  |none=>rw[h]at hb;simp at hb
  |some v=>exact⟨v,rfl⟩
 obtain⟨X,hX,hst⟩:=bO5 hl hl1 hl2 hv;clear hb;simp only[hv,Option.getD_some];refine aC fun K hK=>Rg ?_;iterate 12 refine S0 ?_ (e:=fun _ h_=>by simp only[sH,↓sP,sA,tyS,simprocAttr,rdr,hl,bN hl,lsC,vY h1,Int.one_nonneg,hl1,Int.natCast_pos];exact AX h_)
 refine T2 (hK _ _ _ ?_);clear hK K;refine aC fun K hK=>?_;refine aC fun K hK=>Rg ?_;iterate 8 refine S0 ?_ (e:=fun _ h_=>by simp only[sH,↓sP,sA,tyS,simprocAttr,rdr];exact AX h_)
 refine T2 (hK _ _ _ ?_);clear hK K;refine aL ?_;refine aA9 97 2 54 5 rfl rfl rfl rfl ?_;refine bD (α:={y:List Pr×Nat//RsSt ls X y.1 y.2}) (fun y=>(fin [(0,.ptr 0 0),(2,.ptr 1 0),(6,.ptr 97 0)],fob [(0,.box 94 (.c (rdr ls y.1.2))),(1,.box 45 (.c (.agg [.str [],.int .i64 0,.nils]))),(97,.box 45 (.agg [.c (.str (wd ls[0] 1)),.c (.int .i64 v),.own 137 y.1.1.length])),(137,.row 54 5 (y.1.1.map Pr.cv))])) 2000 (fun y=>ls.length-y.1.2) ⟨([],1),hst⟩ (aN (by omega) (by simp[aZ,fin_at,finA_at,upd_at,HV.men,HV.menL,HV.norm,HV.toC,HV.toCL,rdr,show IntKind.i64.wrap 1=1 from rfl]) (by simp[aY,fob_at,upd_at,none0_at,bU,HO.men,HV.men,HV.menL,HV.norm,HV.toC,HV.toCL,rdr,show IntKind.i64.wrap 1=1 from rfl])) ?_;rintro⟨⟨acc,p⟩,hΦ⟩;simp only at hΦ;refine aC fun K hK=>?_;refine aC fun K hK=>QR ?_;iterate 10 refine S0 ?_ (e:=fun _ h_=>by simp only[sH,↓sP,sA,tyS,simprocAttr,rdr];exact AX h_)
 refine T2 (hK _ _ _ ?_);clear hK K;refine aJ (b:=decide ((p:Int)<ls.length)) rfl (fun hb=>?_) (fun hb=>?_)
 ·
  have hp:p<ls.length:=by simpa using hb
  have hp1:=hΦ.le;have hp2:=hΦ.len;clear hb;refine aK ?_;refine T0 (hK _ _ _ ?_);clear hK K;refine aL ?_;refine aC fun K hK=>Rg ?_;refine S0 ?_;refine HS rfl rfl fun K' hK'=>T5 ?_;refine dT (args:=[]) (bD4 ls p hp1 hls) rfl (by simp) ⟨rfl,rfl,rfl,rfl⟩ ?_;rintro u x v' ⟨q,rfl,rfl,rfl,hq⟩;refine AX (hK' _ _ ?_);clear hK' K';iterate 6 refine S0 ?_
  refine T2 (hK _ _ _ ?_);clear hK K;refine aC fun K hK=>?_;refine R0 ?_;refine aJ (b:=!(rdR (ls.drop p)).1.isSome) rfl (fun hb=>?_) (fun hb=>?_)
  ·
   have hno:(rdR (ls.drop p)).1=none:=by simpa using hb
   have hXn:=hΦ.no hp hno;refine aC fun K hK=>Rg ?_;iterate 3 refine S0 ?_
   refine T2 (hK _ _ _ ?_);clear hK K;refine aF (RT Tryz.results63 ?_);rw[hX,hXn];exact bS [] po0.cv (.bool false) (rdr ls (ls.length-(rdR (ls.drop p)).2.length)) (by simp[HV.close,HV.closeL,HO.close,fob_at,upd_at,po0,Po.cv,CV.denil,CV.denilL,denilL_Pr,HV.norm,HV.toC,HV.toCL]) rfl (by simp[HV.close,HV.closeL,rdr,CV.denil,CV.denilL,aQ,HV.norm,HV.toC,HV.toCL]) (by simp) (by refine⟨po0,rfl,rfl,?_⟩;first|exact(by simp only[List.length_drop];congr 1;omega)|exact rfl|exact⟨by simp,fun t h=>by cases h⟩)
  obtain⟨x,hx⟩: ∃x,(rdR (ls.drop p)).1=some x:=by
   cases h:(rdR (ls.drop p)).1 with
   |none=>rw[h]at hb;simp at hb
   |some x=>exact⟨x,rfl⟩
  obtain⟨hst2,hlt2⟩:=hΦ.some_ hp hx;obtain rfl:=hq x hx;clear hb;refine aK ?_;refine T0 (hK _ _ _ ?_);clear hK K;refine Rg ?_;iterate 7 refine S0 ?_
  refine T4 ?_;refine⟨⟨(acc++[q],ls.length-(rdR (ls.drop p)).2.length),hst2⟩,aN (by omega) (by simp[aZ,fin_at,finA_at,upd_at,HV.men,HV.menL,HV.norm,HV.toC,HV.toCL,List.map_append]) (by simp[aY,fob_at,upd_at,none0_at,bU,HO.men,HV.men,HV.menL,HV.norm,HV.toC,HV.toCL,List.map_append]),?_⟩;show ls.length-(ls.length-(rdR (ls.drop p)).2.length)<ls.length-p;omega
 have hp: ¬p<ls.length:=by simpa using hb
 obtain⟨rfl,hXs⟩:=hΦ.done hp;refine bA (T3 ?_);clear hK K;refine AX (hK _ _ _ ?_);clear hK K;refine aC fun K hK=>Rg ?_;iterate 3 refine S0 ?_
 refine T2 (hK _ _ _ ?_);clear hK K;refine aF (RT Tryz.results63 ?_);rw[hX,hXs];refine⟨rfl,?_⟩;exact bS [137] (Po.cv ⟨wd ls[0] 1,v,acc⟩) (.bool true) (rdr ls ls.length) (by simp[HV.close,HV.closeL,HO.close,fob_at,upd_at,po0,Po.cv,CV.denil,CV.denilL,denilL_Pr,HV.norm,HV.toC,HV.toCL]) rfl (by simp[HV.close,HV.closeL,rdr,CV.denil,CV.denilL,aQ,HV.norm,HV.toC,HV.toCL]) (by simp) (by exact⟨_,rfl,rfl,by simp,fun p h=>by cases h;rfl⟩)
end Go.Proofs.YtlldglbooaefhaaGreatDoor
namespace Go.Proofs.YtlldglbooaefhaaGreatDoor
open Go Go.Hl Go.Pl Go.RowKit Go.Shelf
set_option maxRecDepth 100000
def bW2 :Go.Shelf.Ren:=⟨fun|173=>77|246=>102|283=>117|284=>118|285=>119|286=>120|129=>137|317=>136|318=>138|319=>139|320=>140|337=>148|338=>149|n=>n,fun|2=>2|3=>3|9=>9|4=>4|171=>155|0=>0|53=>116|37=>47|5=>5|173=>158|212=>169|51=>170|20=>20|213=>171|46=>41|232=>184|233=>185|n=>n,fun|17=>1|18=>4|19=>5|n=>n⟩
theorem cC4 :Go.Proofs.LaysM.n173 Tryz.prog bW2:={
  mixed:=by kernel_rfl
  f129:=Tryz.func137.trans (congrArg some (by kernel_rfl))
  f173:=Tryz.func77.trans (congrArg some (by kernel_rfl))
  f246:=Tryz.func102.trans (congrArg some (by kernel_rfl))
  f283:=Tryz.func117.trans (congrArg some (by kernel_rfl))
  f284:=Tryz.func118.trans (congrArg some (by kernel_rfl))
  f285:=Tryz.func119.trans (congrArg some (by kernel_rfl))
  f286:=Tryz.func120.trans (congrArg some (by kernel_rfl))
  f317:=Tryz.func136.trans (congrArg some (by kernel_rfl))
  f318:=Tryz.func138.trans (congrArg some (by kernel_rfl))
  f319:=Tryz.func139.trans (congrArg some (by kernel_rfl))
  f320:=Tryz.func140.trans (congrArg some (by kernel_rfl))
  f337:=Tryz.func148.trans (congrArg some (by kernel_rfl))
  f338:=Tryz.func149.trans (congrArg some (by kernel_rfl))
  t0:=Tryz.underlying0
  a0:=Tryz.isAgg0
  z0:=Tryz.sizeOf0
  v0:=Tryz.zeroValue0
  t2:=Tryz.underlying2
  a2:=Tryz.isAgg2
  z2:=Tryz.sizeOf2
  v2:=Tryz.zeroValue2
  t3:=Tryz.underlying3
  a3:=Tryz.isAgg3
  z3:=Tryz.sizeOf3
  v3:=Tryz.zeroValue3
  t4:=Tryz.underlying4
  a4:=Tryz.isAgg4
  z4:=Tryz.sizeOf4
  v4:=Tryz.zeroValue4
  t5:=Tryz.underlying5
  a5:=Tryz.isAgg5
  z5:=Tryz.sizeOf5
  v5:=Tryz.zeroValue5
  t9:=Tryz.underlying9
  a9:=Tryz.isAgg9
  z9:=Tryz.sizeOf9
  v9:=Tryz.zeroValue9
  t20:=Tryz.underlying20
  a20:=Tryz.isAgg20
  z20:=Tryz.sizeOf20
  v20:=Tryz.zeroValue20
  t37:=Tryz.underlying47
  a37:=Tryz.isAgg47
  z37:=Tryz.sizeOf47
  v37:=Tryz.zeroValue47
  t46:=Tryz.underlying41
  a46:=Tryz.isAgg41
  z46:=Tryz.sizeOf41
  v46:=Tryz.zeroValue41
  t51:=Tryz.underlying170
  a51:=Tryz.isAgg170
  z51:=Tryz.sizeOf170
  v51:=Tryz.zeroValue170
  t53:=Tryz.underlying116
  a53:=Tryz.isAgg116
  z53:=Tryz.sizeOf116
  v53:=Tryz.zeroValue116
  t171:=Tryz.underlying155
  a171:=Tryz.isAgg155
  z171:=Tryz.sizeOf155
  v171:=Tryz.zeroValue155
  t173:=Tryz.underlying158
  a173:=Tryz.isAgg158
  z173:=Tryz.sizeOf158
  v173:=Tryz.zeroValue158
  t212:=Tryz.underlying169
  a212:=Tryz.isAgg169
  z212:=Tryz.sizeOf169
  v212:=Tryz.zeroValue169
  t213:=Tryz.underlying171
  a213:=Tryz.isAgg171
  z213:=Tryz.sizeOf171
  t232:=Tryz.underlying184
  a232:=Tryz.isAgg184
  z232:=Tryz.sizeOf184
  v232:=Tryz.zeroValue184
  t233:=Tryz.underlying185
  a233:=Tryz.isAgg185
  z233:=Tryz.sizeOf185
  v233:=Tryz.zeroValue185
  g17:=by kernel_rfl
  g18:=by kernel_rfl
  g19:=by kernel_rfl
  i0:=by kernel_rfl
  i2:=by kernel_rfl
  i3:=by kernel_rfl
  i4:=by kernel_rfl
  i5:=by kernel_rfl
  i9:=by kernel_rfl
  i20:=by kernel_rfl
  i37:=by kernel_rfl
  i46:=by kernel_rfl
  i51:=by kernel_rfl
  i53:=by kernel_rfl
  i171:=by kernel_rfl
  i173:=by kernel_rfl
  i212:=by kernel_rfl
  i232:=by kernel_rfl
  i233:=by kernel_rfl
  m17:=by kernel_rfl
  m18:=by kernel_rfl
  m19:=by kernel_rfl}
theorem aD8 :Tryz.prog.globalNamed "internal/strconv.uint64pow10" =some 1:=by kernel_rfl
def tabs :kG:=[(1,Lib.pow10Tab.map fun z=>Value.int .u64 z)]
theorem bD5 (n:Int)(h: -9223372036854775808≤n∧n≤9223372036854775807):lJ Tryz.prog 77 tabs [.int .i64 n,.int .i64 10] (fun v=>v= .str (numW n)):=
  aP6 (by kernel_rfl) aD8 (List.mem_cons_self) (fun w hw=>Any.strconv_FormatInt_10 cC4 n h.1 h.2 w hw)
end Go.Proofs.YtlldglbooaefhaaGreatDoor
namespace Go.Proofs.YtlldglbooaefhaaGreatDoor
open Go Go.Hl Go.Pl
set_option maxRecDepth 10000
set_option maxHeartbeats 16000000
theorem wP (n:Int)(hn: -9223372036854775808≤n∧n≤9223372036854775807):lJ Tryz.prog 51 tabs [.int .i64 n] (fun v=>v= .str (numW n)):=by
 refine bR (args:=[.c (.int .i64 n)]) Tryz.func51 rfl (by kernel_rfl) (fA tabs [.int .i64 n]) (Nat.le_of_ble_eq_true rfl) ?_;refine R0 ?_;refine aC fun K hK=>Rg ?_;refine S0 ?_;refine HS rfl rfl fun K' hK'=>T5 ?_;refine eW (args:=[_,_]) 0 (bD5 n hn) (fM _ 0) (by simp) ⟨rfl,rfl,rfl,rfl⟩ ?_;rintro u rfl;refine AX (hK' _ _ ?_);clear hK' K';refine S0 ?_;refine T2 (hK _ _ _ ?_);clear hK K;refine aF (RT Tryz.results51 ?_);exact dQ [] (.str _) rfl (fM _ 0) (by simp) rfl
def cH1 (n:Int):Prop:= -9223372036854775808≤n∧n≤9223372036854775807
theorem bO7 (q:Rq)(hn:cH1 q.n)(hm:cH1 q.m):lJ Tryz.prog 78 tabs [q.cv] (fun v=>v=lsC (wlR q)):=by
 refine bR (args:=[.c q.cv]) Tryz.func78 rfl (by kernel_rfl) (fA tabs [q.cv]) (Nat.le_of_ble_eq_true rfl) ?_;unfold eK;refine R0 ?_;refine aC fun K hK=>Rg ?_;iterate 2 refine S0 ?_
 refine HS rfl rfl fun K' hK'=>T5 ?_;refine eW (args:=[_]) 0 (wP q.n hn) rfl (by simp) ⟨rfl,rfl,rfl,rfl⟩ ?_;rintro u rfl;refine AX (hK' _ _ ?_);clear hK' K';refine S0 ?_;refine T2 (hK _ _ _ ?_);clear hK K;refine aC fun K hK=>?_;refine R0 ?_;refine aL ?_;refine R0 ?_;refine aJ (b:=(q.k==1)) rfl (fun hb=>?_) (fun hb=>?_)
 ·
  have hk:q.k=1:=by simpa using hb
  clear hb;refine R0 ?_;refine aF (RT Tryz.results78 ?_);exact dQ [45] (lsC (wlR q)) (by rw[show wlR q=[dO,numW q.n]from by simp[wlR, *]];simp[lsC,HV.close,fob_at,upd_at,HV.norm,HV.toC,HV.closeL,HV.toCL,CV.denil];rfl) rfl (by simp) rfl
 have hk1: ¬q.k=1:=by simpa using hb
 clear hb;refine R0 ?_;refine aJ (b:=(q.k==2)) rfl (fun hb=>?_) (fun hb=>?_)
 ·
  have hk:q.k=2:=by simpa using hb
  clear hb;refine aC fun K hK=>Rg ?_;iterate 4 refine S0 ?_
  refine T2 (hK _ _ _ ?_);clear hK K;refine aF (RT Tryz.results78 ?_);exact dQ [57] (lsC (wlR q)) (by rw[show wlR q=[eG,q.t]from by simp[wlR, *]];simp[lsC,HV.close,fob_at,upd_at,HV.norm,HV.toC,HV.closeL,HV.toCL,CV.denil];rfl) rfl (by simp) rfl
 have hk2: ¬q.k=2:=by simpa using hb
 clear hb;refine R0 ?_;refine aJ (b:=(q.k==3)) rfl (fun hb=>?_) (fun hb=>?_)
 ·
  have hk:q.k=3:=by simpa using hb
  clear hb;refine R0 ?_;refine aF (RT Tryz.results78 ?_);exact dQ [61] (lsC (wlR q)) (by rw[show wlR q=[dU,numW q.n]from by simp[wlR, *]];simp[lsC,HV.close,fob_at,upd_at,HV.norm,HV.toC,HV.closeL,HV.toCL,CV.denil];rfl) rfl (by simp) rfl
 have hk3: ¬q.k=3:=by simpa using hb
 clear hb;refine R0 ?_;refine aJ (b:=(q.k==4)) rfl (fun hb=>?_) (fun hb=>?_)
 ·
  have hk:q.k=4:=by simpa using hb
  clear hb;refine aC fun K hK=>Rg ?_;iterate 3 refine S0 ?_
  refine HS rfl rfl fun K' hK'=>T5 ?_;refine eW (args:=[_]) 0 (wP q.m hm) rfl (by simp) ⟨rfl,rfl,rfl,rfl⟩ ?_;rintro u rfl;refine AX (hK' _ _ ?_);clear hK' K';iterate 2 refine S0 ?_
  refine T2 (hK _ _ _ ?_);clear hK K;refine aF (RT Tryz.results78 ?_);exact dQ [81] (lsC (wlR q)) (by rw[show wlR q=[fN,numW q.n,numW q.m]from by simp[wlR, *]];simp[lsC,HV.close,fob_at,upd_at,HV.norm,HV.toC,HV.closeL,HV.toCL,CV.denil];rfl) rfl (by simp) rfl
 have hk4: ¬q.k=4:=by simpa using hb
 clear hb;refine R0 ?_;refine aJ (b:=(q.k==5)) rfl (fun hb=>?_) (fun hb=>?_)
 ·
  have hk:q.k=5:=by simpa using hb
  clear hb;refine R0 ?_;refine aF (RT Tryz.results78 ?_);exact dQ [77] (lsC (wlR q)) (by rw[show wlR q=[gK,numW q.n]from by simp[wlR, *]];simp[lsC,HV.close,fob_at,upd_at,HV.norm,HV.toC,HV.closeL,HV.toCL,CV.denil];rfl) rfl (by simp) rfl
 have hk5: ¬q.k=5:=by simpa using hb
 clear hb;refine R0 ?_;refine aJ (b:=(q.k==6)) rfl (fun hb=>?_) (fun hb=>?_)
 ·
  have hk:q.k=6:=by simpa using hb
  clear hb;refine R0 ?_;refine aF (RT Tryz.results78 ?_);exact dQ [85] (lsC (wlR q)) (by rw[show wlR q=[kH,numW q.n]from by simp[wlR, *]];simp[lsC,HV.close,fob_at,upd_at,HV.norm,HV.toC,HV.closeL,HV.toCL,CV.denil];rfl) rfl (by simp) rfl
 have hk6: ¬q.k=6:=by simpa using hb
 clear hb;refine R0 ?_;refine aJ (b:=(q.k==7)) rfl (fun hb=>?_) (fun hb=>?_)
 ·
  have hk:q.k=7:=by simpa using hb
  clear hb;refine R0 ?_;refine aF (RT Tryz.results78 ?_);exact dQ [93] (lsC (wlR q)) (by rw[show wlR q=[lO,numW q.n]from by simp[wlR, *]];simp[lsC,HV.close,fob_at,upd_at,HV.norm,HV.toC,HV.closeL,HV.toCL,CV.denil];rfl) rfl (by simp) rfl
 have hk7: ¬q.k=7:=by simpa using hb
 clear hb;refine aK ?_;refine T0 (hK _ _ _ ?_);clear hK K;refine R0 ?_;refine aF (RT Tryz.results78 ?_);exact dQ [89] (lsC (wlR q)) (by rw[show wlR q=[jF]from by simp[wlR, *]];simp[lsC,HV.close,fob_at,upd_at,HV.norm,HV.toC,HV.closeL,HV.toCL,CV.denil];rfl) rfl (by simp) rfl
end Go.Proofs.YtlldglbooaefhaaGreatDoor
namespace Go.Pl
open Go Go.Hl
variable {n:Nd}
theorem bW3 (h:bL n=true)(h1:n.k≠1)(h2:n.k≠2)(h3:n.k≠3):n.k=4:=by simp_all[bL,if_neg]
theorem bO8 {q:Rq}(h:dB q=true):(0≤q.n∧q.n≤1099511627776)∧(0≤q.m∧q.m≤1099511627776):=by
 unfold dB inB at h
 repeat' split at h
 all_goals first
  |cases h;done
  |(simp only[Bool.and_eq_true,decide_eq_true_eq,beq_iff_eq]at h;(try rw[gJ]at h);omega)
theorem bW4 (h:bL n=true)(h1:n.k=1):dB n.q=true:=by simp_all[bL,if_pos,Bool.and_eq_true]
theorem bW5 (h:bL n=true)(h1:n.k=4):1≤n.n∧n.n≤60:=by
 unfold bL inB at h;grind
variable {i:Nat}{l:List Nd}
theorem aL9 (ht:IsTree l)(hi:i<l.length)(hk:l[i].k=1):aft l i=i+1:=by
 obtain⟨_,_,c3,_⟩:=cI (ht.node _ (List.getElem_mem hi));refine aQ5 hi ?_;rw[List.drop_eq_getElem_cons hi];simp_all[skip,cF]
theorem wQ (ht:IsTree l)(hi:i<l.length):cK l l[i].c.toNat (i+1)=aft l i:=by
 obtain⟨h1,h2,h3⟩:=fW ht hi l[i].c.toNat (Nat.le_refl _);simp_all[iH,Nat.sub_self,cF,congrArg,List.length,Option.some.inj,List.length_drop]
theorem sC {l:List Nd}(ht:IsTree l): ∀(m:Nat) (i:Nat) (hi:i<l.length),l.length-i≤m→(jH l i).length≤2*(aft l i-i)∧ ∀k,k≤l[i].c.toNat→l[i].k≠1→(dY l i k).length≤2*(cK l k (i+1)-(i+1))
 |0,i,hi,hm=>by omega
 |m+1,i,hi,hm=>by
  have hkids: ∀k,k≤l[i].c.toNat→l[i].k≠1→(dY l i k).length≤2*(cK l k (i+1)-(i+1)):=by
   intro k;induction k with
   |zero=>grind[lP]
   |succ k ih=>
    intro hk hn;have h1:=ih (by omega) hn;have hlt:=gZ ht hi (k:=k) (by omega);obtain⟨_,_,h3⟩:=fW ht hi k (by omega);have h4:=(sC ht m (cK l k (i+1)) hlt (by omega)).1;grind[iH,qJ,List.length_append,cL]
  refine⟨?_,hkids⟩;by_cases hk:l[i].k=1
  · grind[wC,aL9]
  · have h1:=hkids _ (Nat.le_refl _) hk;obtain⟨_,_,h3⟩:=fW ht hi _ (Nat.le_refl l[i].c.toNat);grind[wQ,tF,List.length_cons,List.length_append,List.length_nil]
theorem aM0 (ht:IsTree l){k:Nat}(hi:i<l.length)(hk:k≤l[i].c.toNat)(hn:l[i].k≠1):(dY l i k).length≤2*(cK l k (i+1)-(i+1)):=(sC ht _ i hi (Nat.le_refl _)).2 k hk hn
theorem bO9 (ht:IsTree l)(hi:i<l.length):(jH l i).length≤2*(aft l i-i):=(sC ht _ i hi (Nat.le_refl _)).1
end Go.Pl
namespace Go.Proofs.YtlldglbooaefhaaGreatDoor
open Go Go.Hl Go.Pl
set_option maxRecDepth 10000
set_option maxHeartbeats 16000000
theorem cH2 (L:List (List aG)):lst [.tab tabs,.row 60 1 (L.map lsC)]=fob [(0,.tab tabs),(1,.row 60 1 (L.map lsC))]:=by
 funext i
 match i with
 |0=>rfl
 |1=>rfl
 |i+2=>simp[lst,fob,upd]
theorem aS0 (n:Nat)(ob:Ob)(e:TypeId)(sz:Nat)(T:kG)(L:List CV):jD (sub [0,1] n) ob 0 [.tab T,.row e sz L]=upd (upd ob 0 (some (.tab T))) 1 (some (.row e sz L)):=rfl
theorem wR {ob:Ob}{L:List CV}{M:List (List aG)}{m:Nat}{a:Nat}(h0:ob 0=some (.tab tabs))(h1:ob 1=some (.row 60 1 L))(hm:m=M.length)(hL:L=M.map lsC):
  lT 2 (.tup [.own 1 m,.c (.int .i64 a)]) ob (fun r ob'=> ∃os',ob'=lst os'∧(2≤os'.length∧os'.length≤2+4)∧r= .tup [.own 1 M.length,.c (.int .i64 a)]∧os'=[.tab tabs,.row 60 1 (M.map lsC)]):=by
 subst hm hL;exact eA [] [] (.tup [.own 1 M.length,.c (.int .i64 a)]) [.tab tabs,.row 60 1 (M.map lsC)] rfl (by simp[HV.men,HV.menL]) ⟨⟨by simp[HO.men],by simp,_,h0,rfl⟩,⟨by simp[HO.men],by simp,_,h1,rfl⟩,trivial⟩ rfl List.nodup_nil (by simp) (by simp) ⟨rfl,rfl⟩
theorem bP0 (l:List Nd)(ht:IsTree l)(m:Nat): ∀(L:List (List aG)) (i:Nat) (hi:i<l.length),l.length-i≤m→0<L.length→L.length+2*(l.length-i)<2^40→
  HGe Tryz.prog 52 [.own 1 L.length,.c (.slc (l.map Nd.cv)),.c (.int .i64 i)] [.tab tabs,.row 60 1 (L.map lsC)] (fun r os'=>r= .tup [.own 1 (L++jH l i).length,.c (.int .i64 (aft l i:Nat))]∧os'=[.tab tabs,.row 60 1 ((L++jH l i).map lsC)]):=by
 induction m using Nat.strongRecOn with
 |ind m ih=>?_
 intro L i hi hfu hL0 hLl;refine bR (args:=[.own 1 L.length,.c (.slc (l.map Nd.cv)),.c (.int .i64 i)]) Tryz.func52 rfl (by kernel_rfl) (eV rfl (by simp[eE,HO.men,HV.men,HV.menL]) (by simp[HV.menL,HV.men])) (Nat.le_of_ble_eq_true rfl) ?_;show Hw _ _ 2 _ _ _ (lst _) 2;rw[cH2];have hnode:=ht.node _ (List.getElem_mem hi);obtain⟨c1,c2,c3,c4⟩:=cI hnode;have hll:=ht.len;have hwi:IntKind.i64.wrap ((i:Int)+1)=((i+1:Nat):Int):=IntWalk.i64_in _ (by omega);obtain⟨a1,a2,a3⟩:=iH ht hi;refine R0 ?_;refine aC fun K hK=>Rg ?_;have F:=aI @Int.natCast_nonneg (aI @Int.ofNat_lt (aI hi (nM hi)));iterate 6 refine SF ?_
 refine T2 (hK _ _ _ ?_);clear hK K;have F:=hwi;refine RF ?_;refine aC fun K hK=>?_;have key: ∀fr ob nx,l[i].k≠1→Fits 2 fr ob (fin [(0,.own 1 (L.length+1)),(1,.c (.slc (l.map Nd.cv))),(2,.c (.int .i64 ((i+1:Nat):Int))),(8,.ptr 26 0)]) (fob [(0,.tab tabs),(1,.row 60 1 ((L++[wlN l[i]]).map lsC)),(26,.box 40 (.c l[i].cv))]) 300→K fr ob nx:=by
  rintro fr ob nx hk1 hf;refine hK _ _ _ (bK hf ?_);clear hf hK K;refine aC fun K hK=>?_;refine R0 ?_;refine aL ?_;refine bD (α:={k:Nat//k≤l[i].c.toNat}) (fun k=>(fin [(0,.own 1 (L.length+1+(dY l i k.1).length)),(1,.c (.slc (l.map Nd.cv))),(2,.c (.int .i64 (cK l k.1 (i+1):Nat))),(48,.c (.int .i64 l[i].c)),(49,.c (.int .i64 k.1))],fob [(0,.tab tabs),(1,.row 60 1 ((L++wlN l[i]::dY l i k.1).map lsC))])) 2000 (fun k=>l[i].c.toNat-k.1) ⟨0,by omega⟩ (aN (by omega) (by simp[aZ,fin_at,finA_at,upd_at,HV.men,HV.menL,HV.norm,HV.toC,HV.toCL,lP,cK]) (by simp[aY,fob_at,upd_at,none0_at,bU,HO.men,HV.men,HV.menL,HV.norm,HV.toC,HV.toCL,lP,cK])) ?_;rintro⟨k,hk⟩;obtain⟨k1,k2,k3⟩:=fW ht hi k hk;have hkl:=aM0 ht hi hk hk1;refine R0 ?_;refine aC fun K hK=>?_;refine aJ (b:=decide ((k:Int)<l[i].c)) rfl (fun hb=>?_) (fun hb=>?_)
  ·
   have hlt:k<l[i].c.toNat:=by simp at hb;omega
   have hkid:=gZ ht hi hlt;clear hb;obtain⟨M,hM⟩: ∃M,M=L++wlN l[i]::dY l i k:=⟨_,rfl⟩;have hMl:L.length+1+(dY l i k).length=M.length:=by rw[hM];simp;omega
   rw[←hM,hMl];refine aK ?_;refine T0 (hK _ _ _ ?_);clear hK K;refine aC fun K hK=>?_;refine aL ?_;refine Rg ?_;iterate 3 refine S0 ?_
   refine HS rfl rfl fun K' hK'=>T5 ?_;refine fQ [0,1] (ih (l.length-cK l k (i+1)) (by omega) M (cK l k (i+1)) hkid (by omega) (by omega) (by omega)) rfl ⟨rfl,rfl,trivial⟩ (by simp) (by simp) ⟨rfl,rfl,rfl,rfl⟩ (by simp[eE,HO.men,HV.men,HV.menL]) (by simp[HV.menL,HV.men]) ?_;rintro r os' ⟨rfl,rfl⟩;rw[aS0,aL8];refine AX (hK' _ _ ?_);clear hK' K';iterate 5 refine S0 ?_
   refine T2 (hK _ _ _ ?_);clear hK K;refine aM (by kernel_rfl) ?_;refine TQ (IntWalk.i64_in ((k:Int)+1) (by omega)) ?_;refine⟨⟨k+1,hlt⟩,?_,?_⟩
   ·
    have e1:M++jH l (cK l k (i+1))=L++wlN l[i]::dY l i (k+1):=by rw[hM,qJ ht hi hlt];simp
    have e2:(M++jH l (cK l k (i+1))).length=L.length+1+(dY l i (k+1)).length:=by rw[e1];simp;omega
    simp only[];rw[←e1,←e2,cL];exact fF
   show l[i].c.toNat-(k+1)<l[i].c.toNat-k;omega
  refine bA (T3 ?_);clear hK K;refine AX (hK _ _ _ ?_);clear hK K;have hke:k=l[i].c.toNat:=by simp at hb;omega
  subst hke;rw[wQ ht hi]at hkl k3;clear hb;refine aC fun K hK=>bE (by kernel_rfl) ?_;simp only[sR,simprocAttr];have F:=aI @kW @kV;refine SGF ?_;refine cW (g:=none) 2008 rfl rfl fun K' hK'=>?_;simp only[gX,kP,sH,↓sP,sA,tyS,simprocAttr,kW,kV];repeat refine AI ?_
  refine dN (by first|rfl|simp) ?_;try simp only[sH,↓sP,sA,tyS,simprocAttr,kW,kV]
  refine AX (hK' _ _ ?_);clear hK' K';iterate 5 refine SGF ?_
  refine T2 (hK _ _ _ ?_);clear hK K;refine aF (RT Tryz.results52 ?_);rw[tF ht hi hk1,wQ ht hi];exact wR (M:=L++wlN l[i]::(dY l i l[i].c.toNat++[[wEnd]])) rfl rfl (by simp) (by simp[lsC,wEnd])
 refine R0 ?_;refine aL ?_;refine R0 ?_;refine aJ (b:=(l[i].k==1)) rfl (fun hb=>?_) (fun hb=>?_)
 ·
  have hk:l[i].k=1:=by simpa using hb
  obtain⟨⟨r1,r2⟩,r3,r4⟩:=bO8 (bW4 hnode hk);clear hb;refine aC fun K hK=>Rg ?_;have F:=aI @kW @kV;iterate 3 refine SF ?_
  refine HS rfl rfl fun K' hK'=>T6 ?_;refine eW (args:=[_]) 0 (bO7 l[i].q ⟨by omega,by omega⟩ ⟨by omega,by omega⟩) rfl (by simp) ⟨rfl,rfl,rfl,rfl⟩ ?_;rintro u rfl;refine AX (hK' _ _ ?_);clear hK' K';iterate 5 refine SF ?_
  refine T2 (hK _ _ _ ?_);clear hK K;refine aF (RT Tryz.results52 ?_);rw[wC hi hk,aL9 ht hi hk];exact wR (M:=L++[wlR l[i].q]) rfl rfl (by simp) (by simp)
 have hk1:l[i].k≠1:=by simpa using hb
 clear hb;refine R0 ?_;refine aJ (b:=(l[i].k==2)) rfl (fun hb=>?_) (fun hb=>?_)
 ·
  have hk:l[i].k=2:=by simpa using hb
  have hwl:wlN l[i]=[pB]:=by simp[wlN,hk]
  clear hb;refine bE (by kernel_rfl) ?_;simp only[sR,simprocAttr];refine SG0 ?_;refine cW (g:=none) 74 rfl rfl fun K' hK'=>?_;simp only[gX,kP,sH,↓sP,sA,tyS,simprocAttr];repeat refine AI ?_
  refine dN (by first|rfl|simp) ?_;try simp only[sH,↓sP,sA,tyS,simprocAttr]
  refine AX (hK' _ _ ?_);clear hK' K';iterate 3 refine SG0 ?_
  refine T4 ?_;exact key _ _ _ hk1 (by rw[hwl];exact aN (by omega) (by simp[aZ,fin_at,finA_at,upd_at,HV.men,HV.menL,HV.norm,HV.toC,HV.toCL,lsC,pB,pC,dD]) (by simp[aY,fob_at,upd_at,none0_at,bU,HO.men,HV.men,HV.menL,HV.norm,HV.toC,HV.toCL,lsC,pB,pC,dD]))
 have hk2:l[i].k≠2:=by simpa using hb
 clear hb;refine R0 ?_;refine aJ (b:=(l[i].k==3)) rfl (fun hb=>?_) (fun hb=>?_)
 ·
  have hk:l[i].k=3:=by simpa using hb
  have hwl:wlN l[i]=[pC]:=by simp[wlN,hk]
  clear hb;refine bE (by kernel_rfl) ?_;simp only[sR,simprocAttr];refine SG0 ?_;refine cW (g:=none) 82 rfl rfl fun K' hK'=>?_;simp only[gX,kP,sH,↓sP,sA,tyS,simprocAttr];repeat refine AI ?_
  refine dN (by first|rfl|simp) ?_;try simp only[sH,↓sP,sA,tyS,simprocAttr]
  refine AX (hK' _ _ ?_);clear hK' K';iterate 3 refine SG0 ?_
  refine T4 ?_;exact key _ _ _ hk1 (by rw[hwl];exact aN (by omega) (by simp[aZ,fin_at,finA_at,upd_at,HV.men,HV.menL,HV.norm,HV.toC,HV.toCL,lsC,pB,pC,dD]) (by simp[aY,fob_at,upd_at,none0_at,bU,HO.men,HV.men,HV.menL,HV.norm,HV.toC,HV.toCL,lsC,pB,pC,dD]))
 have hk3:l[i].k≠3:=by simpa using hb
 have hk4:=bW3 hnode hk1 hk2 hk3;clear hb;refine R0 ?_;refine aJ (b:=(l[i].k==4)) rfl (fun hb=>?_) (fun hb=>?_)
 ·
  have hwl:wlN l[i]=[dD,numW l[i].n]:=by simp[wlN,hk2,hk3]
  have hnn:=bW5 hnode hk4;clear hb;refine bE (by kernel_rfl) ?_;simp only[sR,simprocAttr];iterate 3 refine SG0 ?_
  refine bJ (g:=none) rfl rfl fun K' hK'=>T5 ?_;refine eW (args:=[_]) 0 (wP l[i].n ⟨by omega,by omega⟩) rfl (by simp) ⟨rfl,rfl,rfl,rfl⟩ ?_;rintro u rfl;refine AX (hK' _ _ ?_);clear hK' K';refine cW (g:=none) 102 rfl rfl fun K' hK'=>?_;simp only[gX,kP,sH,↓sP,sA,tyS,simprocAttr];repeat refine AI ?_
  refine dN (by first|rfl|simp) ?_;try simp only[sH,↓sP,sA,tyS,simprocAttr]
  refine AX (hK' _ _ ?_);clear hK' K';iterate 3 refine SG0 ?_
  refine T4 ?_;exact key _ _ _ hk1 (by rw[hwl];exact aN (by omega) (by simp[aZ,fin_at,finA_at,upd_at,HV.men,HV.menL,HV.norm,HV.toC,HV.toCL,lsC,pB,pC,dD]) (by simp[aY,fob_at,upd_at,none0_at,bU,HO.men,HV.men,HV.menL,HV.norm,HV.toC,HV.toCL,lsC,pB,pC,dD]))
 rw[hk4]at hb;cases hb
end Go.Proofs.YtlldglbooaefhaaGreatDoor
namespace Go.Pl
open Go Go.Hl
theorem zN : ∀(l:List Pr) (i:Nat),fX l=true→fX (l.take i)=true
 |[],i,h=>by grind
 |r::l,0,h=>rfl
 |r::l,i+1,h=>by
  simp only[fX,Bool.and_eq_true,Bool.not_eq_true']at h;simp only[List.take_succ_cons,fX,Bool.and_eq_true,Bool.not_eq_true'];refine⟨?_,zN l i h.2⟩;grind
def bD6 (l:List Pr)(r:Pr):Bool:=(l.map Pr.a).contains r.a||(!dL r.a||(!(gP r.b).isSome||(!(gP r.c).isSome||(!inB r.g 0 tP||!cT r.t))))
structure RlSt (l:List Pr)(i:Nat):Prop where
 le:i≤l.length
 all:(l.take i).all iL=true
 apart:fX (l.take i)=true
theorem RlSt.zero (l:List Pr):RlSt l 0:=⟨by omega,by simp,by simp[fX]⟩
theorem aW8 (l:List Pr)(r:Pr):bD6 l r=!(!(l.map Pr.a).contains r.a&&iL r):=by simp_all[bD6,iL,Pr.a,dL,gP,inB,tP,cT]
variable {i:Nat}{l:List Pr}
theorem RlSt.succ (h:RlSt l i)(hi:i<l.length)(hb:bD6 (l.take i) l[i]=false):RlSt l (i+1):=by
 rw[aW8]at hb;simp only[Bool.not_eq_false',Bool.and_eq_true]at hb;refine⟨hi,?_,?_⟩
 · rw[List.take_succ_eq_append_getElem hi,List.all_append,h.all,List.all_cons,hb.2];rfl
 · rw[List.take_succ_eq_append_getElem hi,nB,h.apart,hb.1];rfl
theorem bW6 (hi:i<l.length)(hb:bD6 (l.take i) l[i]=true):(l.all iL&&fX l)=false:=by
 rw[Bool.eq_false_iff];intro h;simp only[Bool.and_eq_true]at h;have h1:=zN l (i+1) h.2;rw[List.take_succ_eq_append_getElem hi,nB]at h1;simp_all[Bool.and_eq_true,List.all_eq_true,List.getElem_mem,aW8]
variable {p:Po}
theorem bW7 (h:(p.r.all iL&&fX p.r)=false):fC p=false:=by
 simp only[fC,h,Bool.and_false]
def nmD (l:List Pr):MD:=l.foldl (fun D r=>jL D r.a (.val (.bool true))) []
theorem bP1 (l:List Pr)(r:Pr):nmD (l++[r])=jL (nmD l) r.a (.val (.bool true)):=by simp[nmD,List.foldl_append]
theorem cH3 (D:MD)(k j:aG)(h:k≠j)(m:MV):cE (jL D k m) j=cE D j:=by
 induction D with
 |nil=>simp[jL,cE,h]
 |cons x D ih=>
  grind[jL,cE]
theorem bP2 (s:aG): ∀(l:List Pr) (D:MD),cE (l.foldl (fun D r=>jL D r.a (.val (.bool true))) D) s=if(l.map Pr.a).contains s then some (.val (.bool true))else cE D s
 |[],D=>rfl
 |r::l,D=>by
  rw[List.foldl_cons,bP2 s l,List.map_cons,List.contains_cons];by_cases h:r.a=s;all_goals simp_all[cD,cH3,Ne.symm,Bool.false_or]
theorem aW9 (s:aG)(l:List Pr):cE (nmD l) s=if(l.map Pr.a).contains s then some (.val (.bool true))else none:=bP2 s l []
def xL (p:Po):Bool:=!dL p.n||(!inB p.v 1 1099511627776||decide ((16:Int)<p.r.length))
def nJ (c:Bool)(r:Pr):Bool:=c||(!dL r.a||(!(gP r.b).isSome||(!(gP r.c).isSome||(!inB r.g 0 1099511627776||!cT r.t))))
theorem aM1 (l:List Pr)(r:Pr):nJ ((l.map Pr.a).contains r.a) r=bD6 l r:=by simp only[nJ,bD6,gJ]
theorem bD7 (h:xL p=true):fC p=false:=by grind[xL,fC,gJ,dL,inB,decide]
theorem bP3 (h:xL p=false)(h2:RlSt p.r p.r.length):fC p=true:=by
 unfold xL at h;rw[fC,gJ];have h3:=h2.all;have h4:=h2.apart;grind
structure PoSz (p:Po):Prop where
 n:p.n.length<2^63
 r:p.r.length<2^40
 a: ∀r∈p.r,r.a.length<2^63
 t: ∀r∈p.r,∀n∈r.t,n.q.t.length<2^63
end Go.Pl
namespace Go.Proofs.YtlldglbooaefhaaGreatDoor
open Go Go.Hl Go.Pl
set_option maxRecDepth 10000
set_option maxHeartbeats 16000000
theorem sD (p:Po)(hp:PoSz p):bW Tryz.prog 29 [p.cv] (fun v=>v= .bool (fC p)):=by
 have hpn:=hp.n;have hpr:=hp.r;refine FW Tryz.func29 ?_;refine R0 ?_;refine aC fun K hK=>?_;refine aC fun K hK=>?_;have key: ∀(b:Bool) fr ob nx,b=xL p→Fits 0 fr ob (fin [(1,.ptr 0 0),(21,.c (.bool b))]) (fob [(0,.box 45 (.c p.cv))]) 600→K fr ob nx:=by
  rintro b fr ob nx rfl hf;refine hK _ _ _ (bK hf ?_);clear hf hK K;refine aJ (b:=xL p) rfl (fun hb=>?_) (fun hb=>?_)
  · refine R0 ?_;refine aF (RT Tryz.results29 ?_);exact aH [] (.bool false) rfl (by rw[bD7 hb])
  refine aK ?_;refine T0 (hK _ _ _ ?_);clear hK K;refine R0 ?_;refine aC fun K hK=>?_;refine aC fun K hK=>Rg ?_;iterate 4 refine S0 ?_
  refine T2 (hK _ _ _ ?_);clear hK K;refine aL ?_;have hhead:=hb;clear hb;refine bD (α:={i:Nat//RlSt p.r i}) (fun i=>(fin [(3,.mapr 600),(24,.c (.slc (p.r.map Pr.cv))),(25,.c (.int .i64 p.r.length)),(26,.c (.int .i64 i.1))],fob [(600,.mp 0 0 (nmD (p.r.take i.1)))])) 2000 (fun i=>p.r.length-i.1) ⟨0,RlSt.zero p.r⟩ (aN (by omega) (by simp[aZ,fin_at,finA_at,upd_at,HV.men,HV.menL,HV.norm,HV.toC,HV.toCL,nmD]) (by simp[aY,fob_at,upd_at,none0_at,bU,HO.men,HV.men,HV.menL,HV.norm,HV.toC,HV.toCL,nmD])) ?_;rintro⟨i,hΦ⟩;refine R0 ?_;refine aC fun K hK=>?_;refine aJ (b:=decide ((i:Int)<p.r.length)) rfl (fun hb=>?_) (fun hb=>?_)
  ·
   have hlt:i<p.r.length:=by simpa using hb
   clear hb;obtain⟨r,hr⟩: ∃r,r=p.r[i]:=⟨_,rfl⟩;have hmem:r∈p.r:=by rw[hr];exact List.getElem_mem hlt
   have hra:=hp.a r hmem;have hrt:=hp.t r hmem;have hra2:r.a.length≤maxLen:=by simp[maxLen];omega
   have hiv:mC (cE (nmD (p.r.take i)) r.a)=true:=by rw[aW9];split<;>rfl
   have hva:Go.Hl.xS (CV.bool false) (cE (nmD (p.r.take i)) r.a)=CV.bool (((p.r.take i).map Pr.a).contains r.a):=by rw[aW9];split<;>simp_all[Go.Hl.xS]
   refine aK ?_;refine T0 (hK _ _ _ ?_);clear hK K;refine aC fun K hK=>?_;refine aL ?_;refine aC fun K hK=>Rg ?_;iterate 4 refine S0 ?_ (e:=fun _ h_=>by simp only[sH,↓sP,sA,tyS,simprocAttr,Int.natCast_nonneg,Int.ofNat_lt,hlt,bN hlt,←hr];exact AX h_)
   refine T2 (hK _ _ _ ?_);clear hK K;refine aC fun K hK=>?_;refine aC fun K hK=>?_;have key: ∀(b:Bool) fr ob nx,b=nJ (((p.r.take i).map Pr.a).contains r.a) r→Fits 0 fr ob (fin [(3,.mapr 600),(24,.c (.slc (p.r.map Pr.cv))),(25,.c (.int .i64 p.r.length)),(26,.c (.int .i64 i)),(5,.ptr 2012 0),(63,.c (.bool b))]) (fob [(600,.mp 0 0 (nmD (p.r.take i))),(2012,.box 54 (.c r.cv))]) 3000→K fr ob nx:=by
    rintro b fr ob nx rfl hf;refine hK _ _ _ (bK hf ?_);clear hf hK K;refine aJ (b:=nJ (((p.r.take i).map Pr.a).contains r.a) r) rfl (fun hb=>?_) (fun hb=>?_)
    · refine R0 ?_;refine aF (RT Tryz.results29 ?_);exact aH [] (.bool false) rfl (by rw[bW7 (bW6 hlt (by rw[←aM1,←hr];exact hb))])
    have hΦ2:=hΦ.succ hlt (by rw[←aM1,←hr];exact hb);have hnm:jL (nmD (p.r.take i)) r.a (.val (.bool true))=nmD (p.r.take (i+1)):=by rw[List.take_succ_eq_append_getElem hlt,bP1,hr]
    clear hb;refine aK ?_;refine T0 (hK _ _ _ ?_);clear hK K;refine Rg ?_;have F:=aI hra2 (aI hiv hnm);iterate 4 refine SF ?_
    refine T2 (hK _ _ _ ?_);clear hK K;refine aM (by kernel_rfl) ?_;refine TQ (IntWalk.i64_in ((i:Int)+1) (by omega)) ?_;refine⟨⟨i+1,hΦ2⟩,fF,?_⟩;show p.r.length-(i+1)<p.r.length-i;omega
   refine Rg ?_;have F:=aI hra2 (aI hiv hva);iterate 5 refine SF ?_
   refine aE 33 rfl (fun h7_33=>?_) (fun h7_33=>?_)
   ·
    have F:=aI hra2 (aI hiv (aI hva h7_33));iterate 29 refine SF ?_
    refine T4 ?_;exact key true _ _ _ (by simp only[nJ,h7_33,Bool.not_true,Bool.not_false,Bool.true_or,Bool.false_or]) (fF)
   have F:=aI hra2 (aI hiv (aI hva h7_33));iterate 2 refine SF ?_
   refine aV (g:=some (34,false)) rfl rfl fun K' hK'=>T6 ?_;refine C1 (aB9 r.a (by omega)) ?_;rintro u rfl;refine AX (hK' _ _ ?_);clear hK' K';iterate 3 refine SF ?_
   refine aE 37 rfl (fun h7_37=>?_) (fun h7_37=>?_)
   ·
    have F:=aI hra2 (aI hiv (aI hva (aI h7_33 h7_37)));iterate 2 refine SF ?_
    refine aV (g:=some (40,false)) rfl rfl fun K' hK'=>T6 ?_;refine C1 (aW1 r.b) ?_;rintro u rfl;refine AX (hK' _ _ ?_);clear hK' K';iterate 3 refine SF ?_
    refine aE 43 rfl (fun h7_43=>?_) (fun h7_43=>?_)
    ·
     have F:=aI hra2 (aI hiv (aI hva (aI h7_33 (aI h7_37 h7_43))));iterate 2 refine SF ?_
     refine aV (g:=some (46,false)) rfl rfl fun K' hK'=>T6 ?_;refine C1 (aW1 r.c) ?_;rintro u rfl;refine AX (hK' _ _ ?_);clear hK' K';iterate 3 refine SF ?_
     refine aE 49 rfl (fun h7_49=>?_) (fun h7_49=>?_)
     ·
      have F:=aI hra2 (aI hiv (aI hva (aI h7_33 (aI h7_37 (aI h7_43 h7_49)))));iterate 2 refine SF ?_
      refine aV (g:=some (52,false)) rfl rfl fun K' hK'=>T6 ?_;refine C3 (gS _ _ _) ?_;rintro u rfl;refine AX (hK' _ _ ?_);clear hK' K';iterate 3 refine SF ?_
      refine aE 55 rfl (fun h7_55=>?_) (fun h7_55=>?_)
      ·
       have F:=aI hra2 (aI hiv (aI hva (aI h7_33 (aI h7_37 (aI h7_43 (aI h7_49 h7_55))))));iterate 2 refine SF ?_
       refine aV (g:=some (58,false)) rfl rfl fun K' hK'=>T6 ?_;refine C1 (qR r.t hrt) ?_;rintro u rfl;refine AX (hK' _ _ ?_);clear hK' K';iterate 2 refine SF ?_
       refine aE 61 rfl (fun h7_61=>?_) (fun h7_61=>?_)
       · simp only[h7_61];refine T4 ?_;exact key false _ _ _ (by simp only[nJ,h7_33,h7_37,h7_43,h7_49,h7_55,h7_61,Bool.not_true,Bool.not_false,Bool.true_or,Bool.false_or]) (fF)
       simp only[h7_61];refine T4 ?_;exact key true _ _ _ (by simp only[nJ,h7_33,h7_37,h7_43,h7_49,h7_55,h7_61,Bool.not_true,Bool.not_false,Bool.true_or,Bool.false_or]) (fF)
      have F:=aI hra2 (aI hiv (aI hva (aI h7_33 (aI h7_37 (aI h7_43 (aI h7_49 h7_55))))));iterate 5 refine SF ?_
      refine T4 ?_;exact key true _ _ _ (by simp only[nJ,h7_33,h7_37,h7_43,h7_49,h7_55,Bool.not_true,Bool.not_false,Bool.true_or,Bool.false_or]) (fF)
     have F:=aI hra2 (aI hiv (aI hva (aI h7_33 (aI h7_37 (aI h7_43 h7_49)))));iterate 11 refine SF ?_
     refine T4 ?_;exact key true _ _ _ (by simp only[nJ,h7_33,h7_37,h7_43,h7_49,Bool.not_true,Bool.not_false,Bool.true_or,Bool.false_or]) (fF)
    have F:=aI hra2 (aI hiv (aI hva (aI h7_33 (aI h7_37 h7_43))));iterate 17 refine SF ?_
    refine T4 ?_;exact key true _ _ _ (by simp only[nJ,h7_33,h7_37,h7_43,Bool.not_true,Bool.not_false,Bool.true_or,Bool.false_or]) (fF)
   have F:=aI hra2 (aI hiv (aI hva (aI h7_33 h7_37)));iterate 23 refine SF ?_
   refine T4 ?_;exact key true _ _ _ (by simp only[nJ,h7_33,h7_37,Bool.not_true,Bool.not_false,Bool.true_or,Bool.false_or]) (fF)
  refine bA (T3 ?_);clear hK K;refine AX (hK _ _ _ ?_);clear hK K;refine R0 ?_;refine aF (RT Tryz.results29 ?_);have hie:i=p.r.length:=by have:=hΦ.le;simp at hb;omega
  subst hie;exact aH [] (.bool true) rfl (by rw[bP3 hhead hΦ])
 refine Rg ?_;iterate 2 refine S0 ?_
 refine HS rfl rfl fun K' hK'=>T5 ?_;refine C1 (aB9 p.n (by omega)) ?_;rintro u rfl;refine AX (hK' _ _ ?_);clear hK' K';iterate 2 refine S0 ?_
 refine aE 8 rfl (fun h1_8=>?_) (fun h1_8=>?_)
 ·
  have F:=h1_8;iterate 2 refine SF ?_
  refine aV (g:=some (10,false)) rfl rfl fun K' hK'=>T6 ?_;refine C3 (gS _ _ _) ?_;rintro u rfl;refine AX (hK' _ _ ?_);clear hK' K';iterate 3 refine SF ?_
  refine aE 13 rfl (fun h1_13=>?_) (fun h1_13=>?_)
  ·
   have F:=aI h1_8 h1_13;iterate 5 refine SF ?_
   refine aE 20 rfl (fun h1_20=>?_) (fun h1_20=>?_)
   · simp only[h1_20];refine T4 ?_;exact key true _ _ _ (by simp only[xL,h1_8,h1_13,h1_20,Bool.not_true,Bool.not_false,Bool.true_or,Bool.false_or]) (fF)
   simp only[h1_20];refine T4 ?_;exact key false _ _ _ (by simp only[xL,h1_8,h1_13,h1_20,Bool.not_true,Bool.not_false,Bool.true_or,Bool.false_or]) (fF)
  have F:=aI h1_8 h1_13;iterate 5 refine SF ?_
  refine T4 ?_;exact key true _ _ _ (by simp only[xL,h1_8,h1_13,Bool.not_true,Bool.not_false,Bool.true_or,Bool.false_or]) (fF)
 have F:=h1_8;iterate 11 refine SF ?_
 refine T4 ?_;exact key true _ _ _ (by simp only[xL,h1_8,Bool.not_true,Bool.not_false,Bool.true_or,Bool.false_or]) (fF)
end Go.Proofs.YtlldglbooaefhaaGreatDoor
namespace Go.Pl
open Go Go.Hl
theorem bW8 (q:Rq):(wlR q).length≤5:=by grind[wlR]
theorem bW9 (n:Nd):(wlN n).length≤5:=by grind[wlN]
theorem tZ : ∀(f m:Nat) (l:List Nd),∀x∈dR f m l,x.length≤5
 |0,m,l,x,h=>by simp[dR]at h
 |f+1,0,l,x,h=>by cases l<;>simp[dR]at h
 |f+1,m+1,[],x,h=>by simp[dR]at h
 |f+1,m+1,n::l,x,h=>by
  simp only[dR]at h;split at h
  ·
   rcases List.mem_cons.1 h with rfl|h
   · exact bW8 _
   · exact tZ f _ _ x h
  ·
   rcases List.mem_cons.1 h with rfl|h
   · exact bW9 _
   ·
    rcases List.mem_append.1 h with h|h
    · exact tZ f _ _ x h
    ·
     rcases List.mem_cons.1 h with rfl|h
     · simp
     · exact tZ f _ _ x h
theorem wS (t:List Nd):jH t 0=aQ9 t:=by simp[jH,aQ9]
def pJ (p:Po)(i:Nat):List (List aG):=[wPolicy,p.n,numW p.v]::(p.r.take i).flatMap jG
theorem zO {p:Po}{i:Nat}(hi:i<p.r.length):pJ p (i+1)=pJ p i++jG p.r[i]:=by grind[pJ,List.take_succ_eq_append_getElem]
theorem aM2 (p:Po):pJ p p.r.length=pD p:=by simp[pJ,pD]
theorem bD8 {r:Pr}(h:iL r=true):(jG r).length≤121:=by
 obtain⟨_,ht,_⟩:=nD h;have h0:0<r.t.length:=ht.ne;have h1:=bO9 ht h0;have h2:=(iH ht h0).2.1;have h3:=ht.len;grind[wS,jG,List.length_cons]
theorem aM3 {p:Po}(h: ∀r∈p.r,iL r=true): ∀i,i≤p.r.length→(pJ p i).length≤1+121*i
 |0,_=>by simp[pJ]
 |i+1,hi=>by
  have:=aM3 h i (by omega);grind[bD8,List.getElem_mem,zO,List.length_append]
theorem bX0 (p:Po): ∀x∈pD p,x.length<2^40:=by
 intro x hx;have:x.length≤5:=by
  simp only[pD]at hx;rcases List.mem_cons.1 hx with rfl|hx
  · simp
  ·
   obtain⟨r,_,hx⟩:=List.mem_flatMap.1 hx;simp only[jG]at hx;rcases List.mem_cons.1 hx with rfl|hx
   · simp
   · exact tZ _ _ _ x hx
 omega
end Go.Pl
namespace Go.Proofs.YtlldglbooaefhaaGreatDoor
open Go Go.Hl Go.Pl
set_option maxRecDepth 10000
set_option maxHeartbeats 16000000
theorem bP4 (ls:List (List aG))(h0:ls.length<2^40)(h1: ∀l∈ls,l.length<2^40):mR Tryz.prog 53 [.slc (ls.map lsC)] (fun u v=>u= .slc ((pW ls).map eB)∧v= .int .i64 (lF ls)):=cB3 ls h0 h1
theorem aS1 (N n:Nat)(ob:Ob)(e:TypeId)(sz:Nat)(T:kG)(L:List CV):jD (sub [0,N] n) ob 0 [.tab T,.row e sz L]=upd (upd ob 0 (some (.tab T))) N (some (.row e sz L)):=rfl
theorem aX0 (p:Po)(hp:PoSz p):aU5 Tryz.prog 27 tabs [p.cv] (fun u v=>u= .slc ((rW p).map eB)∧v= .int .i64 (xH p)):=by
 refine bR (args:=[.c p.cv]) Tryz.func27 rfl (by kernel_rfl) (fA tabs [p.cv]) (Nat.le_of_ble_eq_true rfl) ?_;unfold eK;refine R0 ?_;refine aC fun K hK=>?_;refine aC fun K hK=>Rg ?_;refine S0 ?_;refine HS rfl rfl fun K' hK'=>T5 ?_;refine C1 (sD p hp) ?_;rintro u rfl;refine AX (hK' _ _ ?_);clear hK' K';refine S0 ?_;refine T2 (hK _ _ _ ?_);clear hK K;refine aJ (b:=!fC p) rfl (fun hb=>?_) (fun hb=>?_)
 ·
  refine R0 ?_;refine aF (RT Tryz.results27 ?_);have hv:fC p=false:=by simpa using hb
  refine tB [] (.slc []) (.int .i64 1) ?_ rfl (by simp) ⟨by rw[rW,hv];rfl,by rw[xH,hv];rfl⟩;simp[HV.close,HV.closeL,CV.denil,CV.denilL,HV.norm,HV.toC,HV.toCL]
 refine aK ?_;refine T0 (hK _ _ _ ?_);clear hK K;have hv:fC p=true:=by simpa using hb
 clear hb;obtain⟨⟨v1,v2⟩,hr16,_,hrules⟩:=aC2 hv;refine aC fun K hK=>eZ mixed [(0,[],[]),(1,[],[]),(2,[],[]),(3,[],[]),(4,[],[0,1]),(5,[],[]),(6,[],[]),(7,[],[])] [0,1,0,4,12,31,63,127] (by kernel_rfl) (by kernel_rfl) (by kernel_rfl) (by kernel_rfl) rfl (by kernel_rfl) ?_;iterate 4 refine WG0 ?_
 refine iP (g:=none) rfl rfl fun K' hK'=>T5 ?_;refine eW (args:=[_]) 0 (wP p.v ⟨by omega,by omega⟩) rfl (by simp) ⟨rfl,rfl,rfl,rfl⟩ ?_;rintro u rfl;refine AX (hK' _ _ ?_);clear hK' K';refine oN (g:=none) 45 rfl rfl fun K' hK'=>?_;simp only[gX,kP,sH,↓sP,sA,tyS,simprocAttr];repeat refine AI ?_
 refine dN (by first|rfl|simp) ?_;try simp only[sH,↓sP,sA,tyS,simprocAttr]
 refine AX (hK' _ _ ?_);clear hK' K';iterate 2 refine WG0 ?_
 refine T2 (hK _ _ _ ?_);clear hK K;refine aC fun K hK=>?_;refine aC fun K hK=>Rg ?_;iterate 4 refine S0 ?_
 refine T2 (hK _ _ _ ?_);clear hK K;refine aL ?_;refine bD (α:={i:Nat//i≤p.r.length}) (fun i=>(fin [(4,.own 49 (pJ p i.1).length),(18,.c (.slc (p.r.map Pr.cv))),(19,.c (.int .i64 p.r.length)),(20,.c (.int .i64 i.1))],fob [(0,.tab tabs),(49,.row 60 1 ((pJ p i.1).map lsC))])) 2000 (fun i=>p.r.length-i.1) ⟨0,by omega⟩ (aN (by omega) (by simp[aZ,fin_at,finA_at,upd_at,HV.men,HV.menL,HV.norm,HV.toC,HV.toCL,pJ,lsC,wPolicy]) (by simp[aY,fob_at,upd_at,none0_at,bU,HO.men,HV.men,HV.menL,HV.norm,HV.toC,HV.toCL,pJ,lsC,wPolicy])) ?_;rintro⟨i,hi⟩;have hll:=aM3 hrules i hi;have hl0:0<(pJ p i).length:=by simp[pJ]
 refine R0 ?_;refine aC fun K hK=>?_;refine aJ (b:=decide ((i:Int)<p.r.length)) rfl (fun hb=>?_) (fun hb=>?_)
 ·
  have hlt:i<p.r.length:=by simpa using hb
  clear hb;obtain⟨r,hr⟩: ∃r,r=p.r[i]:=⟨_,rfl⟩;have hrule:=hrules r (by rw[hr];exact List.getElem_mem hlt);obtain⟨⟨g1,g2⟩,ht,_⟩:=nD hrule;have ht0:0<r.t.length:=ht.ne;have htl:=ht.len;obtain⟨L,hL⟩: ∃L,L=pJ p i:=⟨_,rfl⟩;rw[←hL]at hll hl0⊢;refine aK ?_;refine T0 (hK _ _ _ ?_);clear hK K;refine aC fun K hK=>?_;refine aL ?_;refine aC fun K hK=>Rg ?_;iterate 4 refine S0 ?_ (e:=fun _ h_=>by simp only[sH,↓sP,sA,tyS,simprocAttr,Int.natCast_nonneg,Int.ofNat_lt,hlt,bN hlt,←hr];exact AX h_)
  refine T2 (hK _ _ _ ?_);clear hK K;refine aC fun K hK=>eZ mixed [(0,[],[]),(1,[],[]),(2,[],[]),(3,[],[]),(4,[],[]),(5,[],[]),(6,[],[]),(7,[],[]),(8,[],[]),(9,[],[0,1,2,3,4,5,6]),(10,[],[]),(11,[],[]),(12,[],[]),(13,[],[])] [0,0,2,0,8,0,32,0,128,384,1022,2046,4095,8191] (by kernel_rfl) (by kernel_rfl) (by kernel_rfl) (by kernel_rfl) rfl (by kernel_rfl) ?_;iterate 9 refine WG0 ?_
  refine iP (g:=none) rfl rfl fun K' hK'=>T5 ?_;refine eW (args:=[_]) 0 (wP r.g ⟨by omega,by omega⟩) rfl (by simp) ⟨rfl,rfl,rfl,rfl⟩ ?_;rintro u rfl;refine AX (hK' _ _ ?_);clear hK' K';refine oN (g:=none) 2060 rfl rfl fun K' hK'=>?_;simp only[gX,kP,sH,↓sP,sA,tyS,simprocAttr];repeat refine AI ?_
  refine dN (by first|rfl|simp) ?_;try simp only[sH,↓sP,sA,tyS,simprocAttr]
  refine AX (hK' _ _ ?_);clear hK' K';iterate 3 refine WG0 ?_
  refine T2 (hK _ _ _ ?_);clear hK K;obtain⟨M,hM⟩: ∃M,M=L++[[wRule,r.a,r.b,r.c,numW r.g]]:=⟨_,rfl⟩;have hMm:List.map lsC L++[CV.slc [CV.str [114,117,108,101],CV.str r.a,CV.str r.b,CV.str r.c,CV.str (numW r.g)]]=List.map lsC M:=by rw[hM];simp[lsC,wRule]
  have hMl:L.length+1=M.length:=by rw[hM];simp
  rw[hMm];simp only[List.length_map];refine Rg ?_;iterate 3 refine S0 ?_
  refine HS rfl rfl fun K' hK'=>T5 ?_;refine fQ [0,49] (bP0 r.t ht r.t.length M 0 ht0 (by omega) (by rw[hM];simp) (by rw[hM];simp;omega)) rfl ⟨rfl,rfl,trivial⟩ (by simp) (by simp) ⟨rfl,rfl,rfl,rfl⟩ (by simp[eE,HO.men,HV.men,HV.menL]) (by simp[HV.menL,HV.men]) ?_;rintro q os' ⟨rfl,rfl⟩;rw[aS1,zL];refine AX (hK' _ _ ?_);clear hK' K';iterate 4 refine S0 ?_
  refine T2 (hK _ _ _ ?_);clear hK K;refine aM (by kernel_rfl) ?_;refine TQ (IntWalk.i64_in ((i:Int)+1) (by omega)) ?_;refine⟨⟨i+1,hlt⟩,?_,?_⟩
  ·
   have e1:M++jH r.t 0=pJ p (i+1):=by rw[zO hlt,hM,hL,wS,←hr];simp[jG]
   rw[e1];exact fF
  show p.r.length-(i+1)<p.r.length-i;omega
 refine bA (T3 ?_);clear hK K;refine AX (hK _ _ _ ?_);clear hK K;have hei:i=p.r.length:=by simp at hb;omega
 subst hei;clear hb;rw[aM2];refine eC [49] (bK (fr2:=fin [(4,.c (.slc ((pD p).map lsC)))]) (ob2:=fob [(0,.tab tabs)]) (nx2:=3000) (aN (by omega) (by simp[aZ,dF,fin_at,finA_at,upd_at,fob_at,HV.close,HV.closeL,CV.denil,CV.denilL,aQ,HV.men,HV.menL,HV.norm,HV.toC,HV.toCL]) (by simp[aY,dG,fob_at,upd_at,none0_at,bU,HO.close,HV.close,HV.closeL,HO.men,HV.men,HV.menL,HV.norm,HV.toC,HV.toCL])) ?_);rw[aM2]at hll;refine aC fun K hK=>Rg ?_;have F:=@aQ;refine SF ?_;refine HS rfl rfl fun K' hK'=>T6 ?_;refine D1 (bP4 (pD p) (by omega) (bX0 p)) ?_;rintro u v ⟨rfl,rfl⟩;refine AX (hK' _ _ ?_);clear hK' K';iterate 4 refine SF ?_
 refine T2 (hK _ _ _ ?_);clear hK K;refine aF (RT Tryz.results27 ?_);exact tB [] (.slc ((pW (pD p)).map eB)) (.int .i64 (lF (pD p))) (by simp[HV.close,HV.closeL,CV.denil,CV.denilL,dW,HV.norm,HV.toC,HV.toCL]) rfl (by simp) ⟨by rw[rW,if_pos hv],by rw[xH,if_pos hv]⟩
end Go.Proofs.YtlldglbooaefhaaGreatDoor
namespace Go.Hl
open Go
def aX1 (P:Program)(f:FuncId)(T:kG)(args:List CV)(R:CV→CV→CV→Prop):Prop:=
 HFn P f (args.map .c) 1 (eK T) (fun r ob'=> ∃u v x,r= .tup [.c u,.c v,.c x]∧ob'=eK T∧R u v x)
variable {R:CV→CV→CV→Prop}{T:kG}{ob:Ob}
theorem iF {r:HV}(cl:List Nat)(u v x:CV)(h:(r.close ob cl).norm= .tup [.c u,.c v,.c x])(hb:ob 0=some (.tab T))(h0:0∉cl)(hR:R u v x):
  lT 1 r ob (fun r ob'=> ∃u v x,r= .tup [.c u,.c v,.c x]∧ob'=eK T∧R u v x):=
 ⟨cl,id,.tup [.c u,.c v,.c x],eK T,⟨u,v,x,rfl,rfl,hR⟩,by grind[HV.ren,HV.renL],fun _ _=>rfl,fun _ _ _ _ h=>h,by simp[HV.men,HV.menL],aP5 hb h0⟩
theorem aM4 {P:Program}{av:List Nat}{f:FuncId}{nid:Nat}{K:HV→Ob→Prop}{args:List CV}(id:Nat)(h:aX1 P f T args R)(hid:ob id=some (.tab T))(hav:id∉av)
  (hfree:ob nid=none∧ob (nid+1)=none∧ob (nid+2)=none∧ob (nid+3)=none) (hK: ∀u v x,R u v x→K (.tup [.c u,.c v,.c x]) ob):HCall P av f (args.map .c) ob nid K:=by
 refine⟨[id],args.map .c,_,_,h,fA T args,⟨by simp,by grind⟩,(HV.renL_c _ _).symm,rP hid,fun r lob' hR _=>?_⟩;obtain⟨u,v,x,rfl,rfl,hR⟩:=hR;rw[mS hid hfree];exact hK u v x hR
end Go.Hl
namespace Go.Pl
open Go Go.Hl
def LsB (ls:List (List aG)):Prop:= ∀l∈ls,∀w∈l,w.length<2^40
variable {ls:List (List aG)}
theorem LsB.drop (h:LsB ls)(j:Nat):LsB (ls.drop j):=fun l hl=>h l (List.mem_of_mem_drop hl)
theorem cC5 {l:List aG}(h: ∀w∈l,w.length<2^40)(i:Nat):(wd l i).length<2^40:=by grind[wd,Nat.lt_or_ge,List.getElem?_eq_getElem,List.getElem_mem,List.getElem?_eq_none]
variable {w:List aG}
theorem cC6 (h: ∀x∈w,x.length<2^40){q:Rq}(hq:eY w=some q):q.t.length<2^40:=by
 have h1:=cC5 h 1;have hm: ∀(k:Int) (o:Option Int),o.map (fun n=>(⟨k,n,0,[]⟩:Rq))=some q→q.t.length<2^40:=fun k o ho=>by
  cases o with
  |none=>grind
  |some n=>grind
 unfold eY at hq;split at hq
 · exact hm _ _ hq
 ·
  split at hq
  · grind
  ·
   split at hq
   · exact hm _ _ hq
   ·
    split at hq
    · grind
    ·
     split at hq
     · exact hm _ _ hq
     ·
      split at hq
      · exact hm _ _ hq
      ·
       split at hq
       · exact hm _ _ hq
       grind
theorem cC7 {n:Nd}(h:jI w=some n):n.q=rq0:=by grind[jI,bH,wd]
theorem cH4 : ∀f,(∀ls,LsB ls→ ∀t,(rdN f ls).1=some t→ ∀n∈t,n.q.t.length<2^40)∧(∀ls,LsB ls→ ∀p,(rdK f ls).1=some p→ ∀n∈p.1,n.q.t.length<2^40)
 |0=>⟨fun ls _ t h=>by simp[rdN]at h,fun ls _ t h=>by simp[rdK]at h⟩
 |f+1=>by
  obtain⟨ihN,ihK⟩:=cH4 f;refine⟨fun ls hb t h=>?_,fun ls hb p h=>?_⟩
  ·
   match ls with
   |[]=>simp[rdN]at h
   |w::r=>
    cases h1:eY w with
    |some q=>
     rw[nH h1]at h;cases h;intro n hn;rw[List.mem_singleton]at hn;subst hn;exact cC6 (hb w (by simp)) h1
    |none=>
     cases h2:jI w with
     |none=>grind[nI]
     |some n=>
      rw[oF h1 h2]at h;cases hk:(rdK f r).1 with
      |none=>simp[xK,hk]at h
      |some p=>
       simp only[xK,hk,Option.map_some,Option.some.injEq]at h;subst h;intro x hx;rcases List.mem_cons.1 hx with rfl|hx
       · grind[cC7,rq0]
       · exact ihK r (fun l hl=>hb l (by grind)) p hk x hx
  ·
   cases he:iB (ls.headD [])with
   |true=>grind[aD5]
   |false=>
    match h2:rdN f ls with
    |(none,r)=>simp_all[aR9]
    |(some t,r)=>
     rw[wO he h2]at h;obtain⟨j,hj,_⟩:=(aD6 f).1 ls;rw[h2]at hj;have hj':r=ls.drop j:=hj;cases hk:(rdK f r).1 with
     |none=>simp[pI,hk]at h
     |some q=>
      simp only[pI,hk,Option.map_some,Option.some.injEq]at h;subst h;intro x hx;rcases List.mem_append.1 hx with hx|hx
      · grind
      · exact ihK r (by rw[hj'];exact hb.drop j) q hk x hx
def cC8 (r:Pr):Prop:=r.a.length<2^40∧ ∀n∈r.t,n.q.t.length<2^63
theorem cH5 (hb:LsB ls){x:Pr}(h:(rdR ls).1=some x):cC8 x:=by
 match ls with
 |[]=>cases h
 |w::r=>
  simp only[rdR]at h;split at h
  ·
   cases hn:bH (wd w 4)with
   |none=>grind
   |some g=>
    rw[hn]at h;simp only at h
    match hm:rdT r with
    |(none,r')=>grind
    |(some t,r')=>
     rw[hm]at h;cases h;have h1:=(cH4 (2*r.length+2)).1 r (fun l hl=>hb l (by grind)) t (by grind[rdT]);exact⟨cC5 (hb w (by simp)) 1,fun n hn=>Nat.lt_trans (h1 n hn) (by decide)⟩
  grind
theorem bP5 : ∀(f:Nat) (ls:List (List aG)) (acc:List Pr),LsB ls→(∀r∈acc,cC8 r)→ ∀l,(kI f ls acc).1=some l→(∀r∈l,cC8 r)∧l.length≤acc.length+f
 |0,ls,acc,_,_,l,h=>by simp[kI]at h
 |f+1,ls,acc,hb,ha,l,h=>by
  simp only[kI]at h;split at h
  · grind
  ·
   match hm:rdR ls with
   |(none,r)=>grind
   |(some x,r)=>
    rw[hm]at h;obtain⟨j,_,hj,_⟩:=aD7 ls;rw[hm]at hj;have hj':r=ls.drop j:=hj;have hx:=cH5 hb (x:=x) (by rw[hm]);obtain⟨h1,h2⟩:=bP5 f r (acc++[x]) (by rw[hj'];exact hb.drop j) (fun y hy=>by grind) l h;grind
theorem cH6 (hb:LsB ls)(hl:ls.length<2^39){p:Po}(h:(rdP ls).1=some p):PoSz p:=by
 match ls with
 |[]=>cases h
 |w::r=>
  simp only[rdP]at h;split at h
  ·
   cases hn:bH (wd w 2)with
   |none=>grind
   |some v=>
    rw[hn]at h;simp only at h
    match hm:kI (r.length+1) r []with
    |(none,r')=>grind
    |(some l,r')=>
     rw[hm]at h;cases h;obtain⟨h1,h2⟩:=bP5 (r.length+1) r [] (fun x hx=>hb x (by grind)) (by simp) l (by rw[hm]);simp only[List.length_cons,List.length_nil]at hl h2;exact⟨Nat.lt_of_lt_of_le (cC5 (hb w (by simp)) 1) (by decide),by grind,fun x hx=>Nat.lt_of_lt_of_le (h1 x hx).1 (by decide),fun x hx=>(h1 x hx).2⟩
  grind
end Go.Pl
