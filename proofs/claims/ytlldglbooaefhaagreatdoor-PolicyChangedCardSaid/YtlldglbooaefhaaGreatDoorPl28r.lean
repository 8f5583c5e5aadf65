/- Plain Lean: the lines of a policy, counted (28.4). By an AI agent. -/
import Derived.Test.YtlldglbooaefhaaGreatDoorHzU1
import Derived.Test.YtlldglbooaefhaaGreatDoorHzTp
import Derived.Test.YtlldglbooaefhaaGreatDoorHlTlaw
import Derived.Test.YtlldglbooaefhaaGreatDoorPl28o
import Derived.Shelf.LaysM
import Derived.Shelf.Strconv.Itoa4
import Derived.Test.YtlldglbooaefhaaGreatDoorHlZb
import Derived.Test.YtlldglbooaefhaaGreatDoorPl11v
import Derived.Test.YtlldglbooaefhaaGreatDoorHzUf
set_option linter.unusedSimpArgs false
set_option linter.unusedVariables false
set_option linter.defProp false
namespace Go.Proofs.YtlldglbooaefhaaGreatDoor
open Go Go.Hl Go.Pl
set_option maxRecDepth 10000
set_option maxHeartbeats 16000000
def cC4 (ls:List (List aH))(a n:Nat)(T:List Nd)(X:Option (List Nd)×List (List aH))(r:HV)(os':List HO):Prop:=
 ∃T':List Nd,r= .tup [.own 1 T'.length,.c (.bool X.1.isSome)]∧os'=[.box 94 (.c (rdr ls (ls.length-X.2.length))),.row 40 7 (T'.map Nd.cv)]∧(∀t,X.1=some t→T'=T++t)∧0<T'.length∧T'.length+X.2.length≤n+(ls.length-a)
theorem cK2 (ls:List (List aH))(a:Nat)(T:List Nd):lst [.box 94 (.c (rdr ls a)),.row 40 7 (T.map Nd.cv)]=fob [(0,.box 94 (.c (rdr ls a))),(1,.row 40 7 (T.map Nd.cv))]:=by
 funext i
 match i with
 |0=>rfl
 |1=>rfl
 |i+2=>simp[lst,fob,upd]
theorem bH4 (n:Nat)(ob:Ob)(e:TypeId)(sz:Nat)(v:CV)(L:List CV)(t:TypeId):jP (sub [0,1] n) ob 0 [.box t (.c v),.row e sz L]=upd (upd ob 0 (some (.box t (.c v)))) 1 (some (.row e sz L)):=rfl
theorem aP2 (n m:Nat)(v:CV):HV.ren (sub [0,1] n) (.tup [.own 1 m,.c v])= .tup [.own 1 m,.c v]:=rfl
theorem innR_c {w:List aH}{n:Nd}(h:jS w=some n):n.c=0:=by
 unfold jS at h;split at h
 · cases h;rfl
 split at h
 · cases h;rfl
 split at h
 ·
  cases hn:bN (wd w 1)with
  |none=>rw[hn]at h;cases h
  |some x=>rw[hn]at h;cases h;rfl
 cases h
theorem oU {ob:Ob}{ls:List (List aH)}{a b n m:Nat}{T T':List Nd}{L:List CV}{bo:Bool}{X:Option (List Nd)×List (List aH)}(h0:ob 0=some (.box 94 (.c (rdr ls b))))(h1:ob 1=some (.row 40 7 L))(hm:m=T'.length)(hL:L=T'.map Nd.cv)(hb:b=ls.length-X.2.length)(hbo:bo=X.1.isSome)
  (hT: ∀t,X.1=some t→T'=T++t) (hp:0<T'.length) (hl:T'.length+X.2.length≤n+(ls.length-a)):
  mK 2 (.tup [.own 1 m,.c (.bool bo)]) ob (fun r ob'=> ∃os',ob'=lst os'∧(2≤os'.length∧os'.length≤2+4)∧cC4 ls a n T X r os'):=by
 subst hb hbo hm hL;exact eD [] [] (.tup [.own 1 T'.length,.c (.bool X.1.isSome)]) [.box 94 (.c (rdr ls (ls.length-X.2.length))),.row 40 7 (T'.map Nd.cv)] rfl (by simp[HV.men,HV.menL]) ⟨⟨by simp[HO.men,HV.men],by simp,_,h0,by simp[HO.close,HV.close,HO.ren,HV.ren,HV.norm,fB,HV.toC,rdr,CV.denil,CV.denilL,aQ]⟩,⟨by simp[HO.men],by simp,_,h1,rfl⟩,trivial⟩ rfl List.nodup_nil (by simp) (by simp) ⟨T',rfl,rfl,hT,hp,hl⟩
theorem cA4 (f:Nat): ∀(ls:List (List aH)) (a:Nat) (T:List Nd),a≤ls.length→2*(ls.length-a)+1≤f→0<T.length→ls.length<2^39→T.length+(ls.length-a)<2^39→
  HGe Tryz.prog 108 [.ptr 0 0,.own 1 T.length] [.box 94 (.c (rdr ls a)),.row 40 7 (T.map Nd.cv)] (cC4 ls a T.length T (rdN f (ls.drop a))):=by
 induction f using Nat.strongRecOn with
 |ind f ih=>?_
 intro ls a T hal hfu hT0 hls hTl;refine bT (args:=[.ptr 0 0,.own 1 T.length]) Tryz.func108 rfl (by kernel_rfl) (eS rfl (by simp[eH,HO.men,HV.men,HV.menL]) (by simp[HV.menL,HV.men])) (Nat.le_of_ble_eq_true rfl) ?_;show Hw _ _ 2 _ _ _ (lst _) 2;rw[cK2];refine R0 ?_;refine aC fun K hK=>?_;refine aC fun K hK=>Rg ?_;refine S0 ?_;refine HS rfl rfl fun K' hK'=>T5 ?_;refine eJ (args:=[]) (aP0 ls a (by omega)) rfl (by simp) ⟨rfl,rfl,rfl,rfl⟩ ?_;rintro u x v' ⟨rfl,rfl,rfl⟩;refine AX (hK' _ _ ?_);clear hK' K';iterate 6 refine S0 ?_
 refine T2 (hK _ _ _ ?_);clear hK K;refine R0 ?_;refine aG (b:=(jZ ls a).isSome) rfl (fun hb=>?_) (fun hb=>?_)
 ·
  obtain⟨q,hq⟩:=Option.isSome_iff_exists.1 hb;obtain⟨hl,hq2⟩: ∃h:a<ls.length,fO ls[a]=some q:=by
   unfold jZ at hq;split at hq
   · exact⟨by assumption,hq⟩
   cases hq
  obtain⟨g,rfl⟩: ∃g,f=g+1:=⟨f-1,by omega⟩;rw[List.drop_eq_getElem_cons hl,nY hq2];simp only[hq,Option.isSome_some,if_true,Option.getD_some];refine aC fun K hK=>Rg ?_;iterate 7 refine S0 ?_
  refine T2 (hK _ _ _ ?_);clear hK K;refine aF (RT Tryz.results108 ?_);exact oU (T':=T++[⟨1,0,0,q⟩]) rfl rfl (by simp) (by simp) (by simp only[List.length_drop];omega) rfl (fun t h=>by cases h;rfl) (by simp) (by simp only[List.length_append,List.length_cons,List.length_nil,List.length_drop];omega)
 have hno:jZ ls a=none:=by simpa using hb
 simp only[hno,Option.isSome_none,Bool.false_eq_true,if_false,Option.getD_none];clear hb;refine aK ?_;refine T0 (hK _ _ _ ?_);clear hK K;refine aC fun K hK=>Rg ?_;refine S0 ?_;refine HS rfl rfl fun K' hK'=>T5 ?_;refine eJ (args:=[]) (aP1 ls a (by omega)) rfl (by simp) ⟨rfl,rfl,rfl,rfl⟩ ?_;rintro u x v' ⟨rfl,rfl,rfl⟩;refine AX (hK' _ _ ?_);clear hK' K';iterate 6 refine S0 ?_
 refine T2 (hK _ _ _ ?_);clear hK K;refine aC fun K hK=>?_;refine R0 ?_;refine aG (b:=!(jT ls a).isSome) rfl (fun hb=>?_) (fun hb=>?_)
 ·
  have hi:jT ls a=none:=by simpa using hb
  have hX:rdN f (ls.drop a)=(none,ls.drop a):=by
   obtain⟨g,rfl⟩: ∃g,f=g+1:=⟨f-1,by omega⟩;rcases Nat.lt_or_ge a ls.length with hl|hl
   · rw[gE hl]at hno;unfold jT at hi;rw[dif_pos hl]at hi;rw[List.drop_eq_getElem_cons hl,nZ hno hi]
   rw[List.drop_eq_nil_of_le hl];rfl
  rw[hX];simp only[hi,Option.isSome_none,Bool.false_eq_true,if_false];refine R0 ?_;refine aF (RT Tryz.results108 ?_);exact oU (T':=T) rfl rfl rfl rfl (by simp only[List.length_drop];omega) rfl (fun t h=>by cases h) hT0 (by simp only[List.length_drop];omega)
 refine aK ?_;refine T0 (hK _ _ _ ?_);clear hK K;obtain⟨nd,hi⟩: ∃nd,jT ls a=some nd:=by
  cases h:jT ls a with
  |none=>rw[h]at hb;simp at hb
  |some nd=>exact⟨nd,rfl⟩
 obtain⟨hl,hi2⟩: ∃h:a<ls.length,jS ls[a]=some nd:=by
  unfold jT at hi;split at hi
  · exact⟨by assumption,hi⟩
  cases hi
 rw[gE hl]at hno;have hc0:=innR_c hi2;have hnd:({k:=nd.k,n:=nd.n,c:=0,q:=nd.q}:Nd)=nd:=by cases nd;simp only at hc0;rw[hc0]
 have hst:=KdSt.init hl hfu hno hi2;simp only[hi,Option.isSome_some,if_true,Option.getD_some];clear hb;refine R0 ?_;refine aC fun K hK=>Rg ?_;iterate 5 refine S0 ?_
 refine T2 (hK _ _ _ ?_);clear hK K;refine aC fun K hK=>?_;refine aM ?_;refine bI (α:={y:Nat×List Nd×Nat×Nat//KdSt f ls a nd y.1 y.2.1 y.2.2.1 y.2.2.2}) (fun y=>(fin [(0,.ptr 0 0),(1,.own 1 (T.length+1+y.1.2.1.length)),(10,.c (.int .i64 T.length))],fob [(0,.box 94 (.c (rdr ls y.1.2.2.2))),(1,.row 40 7 ((T++{nd with c:=(y.1.2.2.1:Int)}::y.1.2.1).map Nd.cv))])) 2000 (fun y=>y.1.1) ⟨(f-1,[],0,a+1),hst⟩ (aL (by omega) (by simp[aS,fin_at,finA_at,upd_at,HV.men,HV.menL,HV.norm,HV.toC,HV.toCL,hnd]) (by simp[aT,fob_at,upd_at,none0_at,bL,HO.men,HV.men,HV.menL,HV.norm,HV.toC,HV.toCL,hnd])) ?_;rintro⟨⟨g,ts,k,p⟩,hΦ⟩;simp only at hΦ;refine aC fun K hK=>?_;refine aC fun K hK=>Rg ?_;refine S0 ?_;refine HS rfl rfl fun K' hK'=>T5 ?_;refine bJ (args:=[_,_]) (oB ls p wEnd (by omega)) rfl (by simp) ⟨rfl,rfl,rfl,rfl⟩ ?_;rintro u v' ⟨rfl,rfl⟩;refine AX (hK' _ _ ?_);clear hK' K';refine S0 ?_;refine T2 (hK _ _ _ ?_);clear hK K;refine aG (b:=!isV ls p wEnd 1) rfl (fun hb=>?_) (fun hb=>?_)
 ·
  have hev:isV ls p wEnd 1=false:=by simpa using hb
  obtain⟨Tq,hTq⟩: ∃Tq,Tq=T++{nd with c:=(k:Int)}::ts:=⟨_,rfl⟩;have hTql:T.length+1+ts.length=Tq.length:=by rw[hTq];simp;omega
  have hp1:=hΦ.le;have hp2:=hΦ.fuel;have hp3:=hΦ.lt;have hp4:=hΦ.len;have hp5:=hΦ.kids;rw[←hTq,hTql,hev];simp only[Bool.false_eq_true,if_false];clear hb;refine aK ?_;refine T0 (hK _ _ _ ?_);clear hK K;refine aM ?_;refine aC fun K hK=>?_;refine aC fun K hK=>Rg ?_;iterate 2 refine S0 ?_
  refine HS rfl rfl fun K' hK'=>T5 ?_;refine eZ [0,1] (ih (g-1) (by omega) ls p Tq hp1 (by omega) (by omega) hls (by omega)) rfl ⟨rfl,rfl,trivial⟩ (by simp) (by simp) ⟨rfl,rfl,rfl,rfl⟩ (by simp[eH,HO.men,HV.men,HV.menL]) (by simp[HV.menL,HV.men]) ?_;rintro r os' ⟨T',rfl,rfl,h1,h2,h3⟩;rw[bH4,aP2];refine AX (hK' _ _ ?_);clear hK' K';iterate 5 refine S0 ?_
  refine T2 (hK _ _ _ ?_);clear hK K;refine R0 ?_;refine aG (b:=!(rdN (g-1) (ls.drop p)).1.isSome) rfl (fun hb=>?_) (fun hb=>?_)
  ·
   have hn2:(rdN (g-1) (ls.drop p)).1=none:=by simpa using hb
   rw[hΦ.no hev hn2];refine R0 ?_;refine aF (RT Tryz.results108 ?_);exact oU (T':=T') rfl rfl rfl rfl rfl rfl (fun t h=>by cases h) h2 (by simp only;omega)
  obtain⟨t,ht⟩: ∃t,(rdN (g-1) (ls.drop p)).1=some t:=by
   cases h:(rdN (g-1) (ls.drop p)).1 with
   |none=>rw[h]at hb;simp at hb
   |some t=>exact⟨t,rfl⟩
  have hst2:=hΦ.some_ hev ht;have hT':=h1 t ht;have hlt:T.length<T'.length:=by rw[hT',List.length_append];omega
  have hge:T'[T.length]={nd with c:=(k:Int)}:=by simp[hT',hTq]
  have hw:IntKind.i64.wrap ((k:Int)+1)=((k+1:Nat):Int):=IntWalk.i64_in _ (by omega);have hmne:(T'.map Nd.cv=[])=False:=by simp;intro h;rw[h]at hlt;cases hlt
  clear hb;refine aK ?_;refine T0 (hK _ _ _ ?_);clear hK K;refine Rg ?_;have F:=aI @Int.natCast_nonneg (aI @Int.ofNat_lt (aI hlt (aI (nM hlt) (aI hge (aI hw (aI hmne (aI not_false_eq_true @List.length_map.{0,0})))))));iterate 9 refine SF ?_
  refine T4 ?_;refine⟨⟨(g-1,ts++t,k+1,ls.length-(rdN (g-1) (ls.drop p)).2.length),hst2⟩,?_,?_⟩
  ·
   have hrow:(List.map Nd.cv T').set T.length (Nd.cv {nd with c:=((k+1:Nat):Int)})=List.map Nd.cv (T++{nd with c:=((k+1:Nat):Int)}::(ts++t)):=by
    rw[hT',hTq,←List.map_set];simp[List.set_append]
   have hlen:T'.length=T.length+1+(ts++t).length:=by rw[hT',hTq];simp;omega
   simp only[];rw[←hrow,←hlen];exact fF
  show g-1<g;omega
 have hev:isV ls p wEnd 1=true:=by simpa using hb
 obtain⟨hp,hX⟩:=hΦ.end_ hev;have hp4:=hΦ.len;rw[hev];simp only[if_true];refine bD (T3 ?_);clear hK K;refine AX (hK _ _ _ ?_);clear hK K;refine R0 ?_;refine aF (RT Tryz.results108 ?_);rw[hX];exact oU (T':=T++{nd with c:=(k:Int)}::ts) rfl rfl (by simp;omega) rfl (by simp only[List.length_drop];omega) rfl (fun t h=>by cases h;rfl) (by simp;omega) (by simp only[List.length_append,List.length_cons,List.length_drop];omega)
theorem bH5 (N n:Nat)(ob:Ob)(e:TypeId)(sz:Nat)(v:CV)(L:List CV)(t:TypeId):jP (sub [0,N] n) ob 0 [.box t (.c v),.row e sz L]=upd (upd ob 0 (some (.box t (.c v)))) N (some (.row e sz L)):=rfl
theorem aB2 (N n m:Nat)(v:CV):HV.ren (sub [0,N] n) (.tup [.own 1 m,.c v])= .tup [.own N m,.c v]:=rfl
theorem bT1 (f:Nat)(ls:List (List aH))(a:Nat)(hal:a≤ls.length)(hfu:2*(ls.length-a)+1≤f)(hls:ls.length<2^39):
  tQ Tryz.prog 108 94 (rdr ls a) [.nils] (fun u x v'=> ∃T':List Nd,u= .slc (T'.map Nd.cv)∧x= .bool (rdN f (ls.drop a)).1.isSome∧v'=rdr ls (ls.length-(rdN f (ls.drop a)).2.length)∧ ∀t,(rdN f (ls.drop a)).1=some t→T'=t):=by
 refine bT Tryz.func108 rfl (by kernel_rfl) (dN _ _ _) (Nat.le_of_ble_eq_true rfl) ?_;refine R0 ?_;refine aC fun K hK=>?_;refine aC fun K hK=>Rg ?_;refine S0 ?_;refine HS rfl rfl fun K' hK'=>T5 ?_;refine eJ (args:=[]) (aP0 ls a (by omega)) rfl (by simp) ⟨rfl,rfl,rfl,rfl⟩ ?_;rintro u x v' ⟨rfl,rfl,rfl⟩;refine AX (hK' _ _ ?_);clear hK' K';iterate 6 refine S0 ?_
 refine T2 (hK _ _ _ ?_);clear hK K;refine R0 ?_;refine aG (b:=(jZ ls a).isSome) rfl (fun hb=>?_) (fun hb=>?_)
 ·
  obtain⟨q,hq⟩:=Option.isSome_iff_exists.1 hb;obtain⟨hl,hq2⟩: ∃h:a<ls.length,fO ls[a]=some q:=by
   unfold jZ at hq;split at hq
   · exact⟨by assumption,hq⟩
   cases hq
  obtain⟨g,rfl⟩: ∃g,f=g+1:=⟨f-1,by omega⟩;rw[List.drop_eq_getElem_cons hl,nY hq2];simp only[hq,Option.isSome_some,if_true,Option.getD_some];refine aC fun K hK=>Rg ?_;iterate 7 refine S0 ?_
  refine T2 (hK _ _ _ ?_);clear hK K;refine aF (RT Tryz.results108 ?_);exact bW [61] (.slc [Nd.cv ⟨1,0,0,q⟩]) (.bool true) (rdr ls (a+1)) (by simp[HV.close,HV.closeL,HO.close,fob_at,upd_at,CV.denil,CV.denilL,denilL_Nd,HV.norm,HV.toC,HV.toCL]) rfl (by simp[HV.close,HV.closeL,rdr,CV.denil,CV.denilL,aQ,HV.norm,HV.toC,HV.toCL]) (by simp) ⟨[⟨1,0,0,q⟩],rfl,rfl,by simp only[List.length_drop];congr 1;omega,fun t h=>by cases h;rfl⟩
 have hno:jZ ls a=none:=by simpa using hb
 simp only[hno,Option.isSome_none,Bool.false_eq_true,if_false,Option.getD_none];clear hb;refine aK ?_;refine T0 (hK _ _ _ ?_);clear hK K;refine aC fun K hK=>Rg ?_;refine S0 ?_;refine HS rfl rfl fun K' hK'=>T5 ?_;refine eJ (args:=[]) (aP1 ls a (by omega)) rfl (by simp) ⟨rfl,rfl,rfl,rfl⟩ ?_;rintro u x v' ⟨rfl,rfl,rfl⟩;refine AX (hK' _ _ ?_);clear hK' K';iterate 6 refine S0 ?_
 refine T2 (hK _ _ _ ?_);clear hK K;refine aC fun K hK=>?_;refine R0 ?_;refine aG (b:=!(jT ls a).isSome) rfl (fun hb=>?_) (fun hb=>?_)
 ·
  have hi:jT ls a=none:=by simpa using hb
  have hX:rdN f (ls.drop a)=(none,ls.drop a):=by
   obtain⟨g,rfl⟩: ∃g,f=g+1:=⟨f-1,by omega⟩;rcases Nat.lt_or_ge a ls.length with hl|hl
   · rw[gE hl]at hno;unfold jT at hi;rw[dif_pos hl]at hi;rw[List.drop_eq_getElem_cons hl,nZ hno hi]
   rw[List.drop_eq_nil_of_le hl];rfl
  rw[hX];simp only[hi,Option.isSome_none,Bool.false_eq_true,if_false];refine R0 ?_;refine aF (RT Tryz.results108 ?_);exact bW [] (.slc []) (.bool false) (rdr ls a) (by simp[HV.close,HV.closeL,HO.close,fob_at,upd_at,CV.denil,CV.denilL,denilL_Nd,HV.norm,HV.toC,HV.toCL]) rfl (by simp[HV.close,HV.closeL,rdr,CV.denil,CV.denilL,aQ,HV.norm,HV.toC,HV.toCL]) (by simp) (by refine⟨[],rfl,rfl,?_⟩;first|exact(by simp only[List.length_drop];congr 1;omega)|exact⟨by simp only[List.length_drop];congr 1;omega,fun t h=>by cases h⟩)
 refine aK ?_;refine T0 (hK _ _ _ ?_);clear hK K;obtain⟨nd,hi⟩: ∃nd,jT ls a=some nd:=by
  cases h:jT ls a with
  |none=>rw[h]at hb;simp at hb
  |some nd=>exact⟨nd,rfl⟩
 obtain⟨hl,hi2⟩: ∃h:a<ls.length,jS ls[a]=some nd:=by
  unfold jT at hi;split at hi
  · exact⟨by assumption,hi⟩
  cases hi
 rw[gE hl]at hno;have hc0:=innR_c hi2;have hnd:({k:=nd.k,n:=nd.n,c:=0,q:=nd.q}:Nd)=nd:=by cases nd;simp only at hc0;rw[hc0]
 have hst:=KdSt.init hl hfu hno hi2;simp only[hi,Option.isSome_some,if_true,Option.getD_some];clear hb;refine R0 ?_;refine aC fun K hK=>Rg ?_;iterate 5 refine S0 ?_
 refine T2 (hK _ _ _ ?_);clear hK K;refine aC fun K hK=>?_;refine aM ?_;refine bI (α:={y:Nat×List Nd×Nat×Nat//KdSt f ls a nd y.1 y.2.1 y.2.2.1 y.2.2.2}) (fun y=>(fin [(0,.ptr 0 0),(1,.own 109 (1+y.1.2.1.length)),(10,.c (.int .i64 0))],fob [(0,.box 94 (.c (rdr ls y.1.2.2.2))),(109,.row 40 7 (({nd with c:=(y.1.2.2.1:Int)}::y.1.2.1).map Nd.cv))])) 2000 (fun y=>y.1.1) ⟨(f-1,[],0,a+1),hst⟩ (aL (by omega) (by simp[aS,fin_at,finA_at,upd_at,HV.men,HV.menL,HV.norm,HV.toC,HV.toCL,hnd]) (by simp[aT,fob_at,upd_at,none0_at,bL,HO.men,HV.men,HV.menL,HV.norm,HV.toC,HV.toCL,hnd])) ?_;rintro⟨⟨g,ts,k,p⟩,hΦ⟩;simp only at hΦ;refine aC fun K hK=>?_;refine aC fun K hK=>Rg ?_;refine S0 ?_;refine HS rfl rfl fun K' hK'=>T5 ?_;refine bJ (args:=[_,_]) (oB ls p wEnd (by omega)) rfl (by simp) ⟨rfl,rfl,rfl,rfl⟩ ?_;rintro u v' ⟨rfl,rfl⟩;refine AX (hK' _ _ ?_);clear hK' K';refine S0 ?_;refine T2 (hK _ _ _ ?_);clear hK K;refine aG (b:=!isV ls p wEnd 1) rfl (fun hb=>?_) (fun hb=>?_)
 ·
  have hev:isV ls p wEnd 1=false:=by simpa using hb
  obtain⟨Tq,hTq⟩: ∃Tq,Tq={nd with c:=(k:Int)}::ts:=⟨_,rfl⟩;have hTql:1+ts.length=Tq.length:=by rw[hTq];simp;omega
  have hp1:=hΦ.le;have hp2:=hΦ.fuel;have hp3:=hΦ.lt;have hp4:=hΦ.len;have hp5:=hΦ.kids;have hTm:Nd.cv {nd with c:=(k:Int)}::List.map Nd.cv ts=List.map Nd.cv Tq:=by rw[hTq];rfl
  rw[hTm,hTql,hev];simp only[Bool.false_eq_true,if_false];clear hb;refine aK ?_;refine T0 (hK _ _ _ ?_);clear hK K;refine aM ?_;refine aC fun K hK=>?_;refine aC fun K hK=>Rg ?_;iterate 2 refine S0 ?_
  refine HS rfl rfl fun K' hK'=>T5 ?_;refine eZ [0,109] (cA4 (g-1) ls p Tq hp1 (by omega) (by omega) hls (by omega)) rfl ⟨rfl,rfl,trivial⟩ (by simp) (by simp) ⟨rfl,rfl,rfl,rfl⟩ (by simp[eH,HO.men,HV.men,HV.menL]) (by simp[HV.menL,HV.men]) ?_;rintro r os' ⟨T',rfl,rfl,h1,h2,h3⟩;rw[bH5,aB2];refine AX (hK' _ _ ?_);clear hK' K';iterate 5 refine S0 ?_
  refine T2 (hK _ _ _ ?_);clear hK K;refine R0 ?_;refine aG (b:=!(rdN (g-1) (ls.drop p)).1.isSome) rfl (fun hb=>?_) (fun hb=>?_)
  ·
   have hn2:(rdN (g-1) (ls.drop p)).1=none:=by simpa using hb
   rw[hΦ.no hev hn2];refine R0 ?_;refine aF (RT Tryz.results108 ?_);exact bW [109] (.slc (T'.map Nd.cv)) (.bool false) (rdr ls (ls.length-(rdN (g-1) (ls.drop p)).2.length)) (by simp[HV.close,HV.closeL,HO.close,fob_at,upd_at,CV.denil,CV.denilL,denilL_Nd,HV.norm,HV.toC,HV.toCL]) rfl (by simp[HV.close,HV.closeL,rdr,CV.denil,CV.denilL,aQ,HV.norm,HV.toC,HV.toCL]) (by simp) (by refine⟨T',rfl,rfl,?_⟩;first|exact rfl|exact⟨rfl,fun t h=>by cases h⟩)
  obtain⟨t,ht⟩: ∃t,(rdN (g-1) (ls.drop p)).1=some t:=by
   cases h:(rdN (g-1) (ls.drop p)).1 with
   |none=>rw[h]at hb;simp at hb
   |some t=>exact⟨t,rfl⟩
  have hst2:=hΦ.some_ hev ht;have hT':=h1 t ht;have hlt:0<T'.length:=by rw[hT',List.length_append];omega
  have hge:T'[0]={nd with c:=(k:Int)}:=by simp[hT',hTq]
  have hw:IntKind.i64.wrap ((k:Int)+1)=((k+1:Nat):Int):=IntWalk.i64_in _ (by omega);have hmne:(T'.map Nd.cv=[])=False:=by simp;intro h;rw[h]at hlt;cases hlt
  clear hb;refine aK ?_;refine T0 (hK _ _ _ ?_);clear hK K;refine Rg ?_;have F:=aI @Int.natCast_nonneg (aI @Int.ofNat_lt (aI hlt (aI (nM hlt) (aI hge (aI hw (aI hmne (aI not_false_eq_true @List.length_map.{0,0})))))));iterate 9 refine SF ?_
  refine T4 ?_;refine⟨⟨(g-1,ts++t,k+1,ls.length-(rdN (g-1) (ls.drop p)).2.length),hst2⟩,?_,?_⟩
  ·
   have hrow:(List.map Nd.cv T').set 0 (Nd.cv {nd with c:=((k+1:Nat):Int)})=List.map Nd.cv ({nd with c:=((k+1:Nat):Int)}::(ts++t)):=by
    rw[hT',hTq,←List.map_set];simp
   have hlen:T'.length=1+(ts++t).length:=by rw[hT',hTq];simp;omega
   simp only[];rw[←hrow,←hlen];exact fF
  show g-1<g;omega
 have hev:isV ls p wEnd 1=true:=by simpa using hb
 obtain⟨hp,hX⟩:=hΦ.end_ hev;have hp4:=hΦ.len;rw[hev];simp only[if_true];refine bD (T3 ?_);clear hK K;refine AX (hK _ _ _ ?_);clear hK K;refine R0 ?_;refine aF (RT Tryz.results108 ?_);rw[hX];exact bW [109] (.slc (({nd with c:=(k:Int)}::ts).map Nd.cv)) (.bool true) (rdr ls (p+1)) (by simp[show 1+ts.length=ts.length+1 from by omega,HV.close,HV.closeL,HO.close,fob_at,upd_at,CV.denil,CV.denilL,denilL_Nd,HV.norm,HV.toC,HV.toCL]) rfl (by simp[HV.close,HV.closeL,rdr,CV.denil,CV.denilL,aQ,HV.norm,HV.toC,HV.toCL]) (by simp) ⟨_,rfl,rfl,by simp only[List.length_drop];congr 1;omega,fun t h=>by cases h;rfl⟩
def pr0 :Pr:=⟨[],[],[],0,[]⟩
theorem bH6 (ls:List (List aH))(a:Nat)(hal:a≤ls.length)(hls:ls.length<2^39):
  tQ Tryz.prog 90 94 (rdr ls a) [] (fun u x v'=> ∃q:Pr,u=q.cv∧x= .bool (rdR (ls.drop a)).1.isSome∧v'=rdr ls (ls.length-(rdR (ls.drop a)).2.length)∧ ∀p,(rdR (ls.drop a)).1=some p→q=p):=by
 refine bT Tryz.func90 rfl (by kernel_rfl) (dN _ _ _) (Nat.le_of_ble_eq_true rfl) ?_;refine R0 ?_;refine aC fun K hK=>?_;refine aC fun K hK=>Rg ?_;refine S0 ?_;refine HS rfl rfl fun K' hK'=>T5 ?_;refine bJ (args:=[_,_]) (aB1 ls a 5 wRule (by omega)) rfl (by simp) ⟨rfl,rfl,rfl,rfl⟩ ?_;rintro u v' ⟨rfl,rfl⟩;refine AX (hK' _ _ ?_);clear hK' K';refine S0 ?_;refine T2 (hK _ _ _ ?_);clear hK K;refine aG (b:=!isV ls a wRule 5) rfl (fun hb=>?_) (fun hb=>?_)
 ·
  have hX:=cF0 hal (show isV ls a wRule 5=false by simpa using hb);refine aC fun K hK=>Rg ?_;iterate 3 refine S0 ?_
  refine T2 (hK _ _ _ ?_);clear hK K;refine aF (RT Tryz.results90 ?_);rw[hX];exact bW [] pr0.cv (.bool false) (rdr ls a) rfl rfl (by simp[HV.close,HV.closeL,rdr,CV.denil,CV.denilL,aQ,HV.norm,HV.toC,HV.toCL]) (by simp) (by refine⟨pr0,rfl,rfl,?_⟩;first|exact(by simp only[List.length_drop];congr 1;omega)|exact⟨by simp only[List.length_drop];congr 1;omega,fun t h=>by cases h⟩)
 refine aK ?_;refine T0 (hK _ _ _ ?_);clear hK K;obtain⟨hl,hl1,hl2⟩:=gD (show isV ls a wRule 5=true by simpa using hb);have h1:1<ls[a].length:=by omega
 have h2:2<ls[a].length:=by omega
 have h3:3<ls[a].length:=by omega
 have hw:IntKind.i64.wrap ((a:Int)+1)=((a+1:Nat):Int):=IntWalk.i64_in _ (by omega);clear hb;refine aC fun K hK=>QR ?_;iterate 11 refine S0 ?_ (e:=fun _ h_=>by simp only[sH,↓sP,sA,tyS,simprocAttr,rdr,Int.natCast_nonneg,Int.ofNat_lt,hl,bH hl,eX];exact AX h_)
 refine T2 (hK _ _ _ ?_);clear hK K;refine aC fun K hK=>Rg ?_;refine S0 ?_;refine HS rfl rfl fun K' hK'=>T5 ?_;refine eJ (args:=[_]) (lN ls a 4 hl (by omega)) rfl (by simp) ⟨rfl,rfl,rfl,rfl⟩ ?_;rintro u x v' ⟨rfl,rfl,rfl⟩;refine AX (hK' _ _ ?_);clear hK' K';iterate 5 refine S0 ?_
 refine T2 (hK _ _ _ ?_);clear hK K;refine aC fun K hK=>?_;refine R0 ?_;refine aG (b:=!(bN (wd ls[a] 4)).isSome) rfl (fun hb=>?_) (fun hb=>?_)
 ·
  have hX:=bZ0 hl hl1 hl2 (show bN (wd ls[a] 4)=none by simpa using hb);refine aC fun K hK=>Rg ?_;iterate 3 refine S0 ?_
  refine T2 (hK _ _ _ ?_);clear hK K;refine aF (RT Tryz.results90 ?_);rw[hX];exact bW [] pr0.cv (.bool false) (rdr ls a) rfl rfl (by simp[HV.close,HV.closeL,rdr,CV.denil,CV.denilL,aQ,HV.norm,HV.toC,HV.toCL]) (by simp) (by refine⟨pr0,rfl,rfl,?_⟩;first|exact(by simp only[List.length_drop];congr 1;omega)|exact⟨by simp only[List.length_drop];congr 1;omega,fun t h=>by cases h⟩)
 refine aK ?_;refine T0 (hK _ _ _ ?_);clear hK K;obtain⟨g,hg⟩: ∃g,bN (wd ls[a] 4)=some g:=by
  cases h:bN (wd ls[a] 4)with
  |none=>rw[h]at hb;simp at hb
  |some g=>exact⟨g,rfl⟩
 have hX:=bR5 hl hl1 hl2 hg;clear hb;simp only[hg,Option.getD_some];have hN:tQ Tryz.prog 108 94 (rdr ls (a+1)) [.nils] (fun u x v'=> ∃T':List Nd,u= .slc (T'.map Nd.cv)∧x= .bool (rdT (ls.drop (a+1))).1.isSome∧v'=rdr ls (ls.length-(rdT (ls.drop (a+1))).2.length)∧ ∀t,(rdT (ls.drop (a+1))).1=some t→T'=t):=bT1 (2*(ls.drop (a+1)).length+2) ls (a+1) hl (by simp only[List.length_drop];omega) hls;refine aC fun K hK=>Rg ?_;iterate 8 refine S0 ?_ (e:=fun _ h_=>by simp only[sH,↓sP,sA,tyS,simprocAttr,rdr,hw];exact AX h_)
 refine T2 (hK _ _ _ ?_);clear hK K;refine aC fun K hK=>bA (by kernel_rfl) ?_;simp only[sR,simprocAttr];refine SG0 ?_;refine tN (g:=none) rfl rfl fun K' hK'=>?_;simp only[sN,↓hopH.eq_def,sH,↓sP,sA,tyS,simprocAttr];refine eJ (args:=[_]) hN rfl (by simp) ⟨rfl,rfl,rfl,rfl⟩ ?_;rintro u x v' ⟨T',rfl,rfl,rfl,hT⟩;refine AX (hK' _ _ ?_);clear hK' K';iterate 5 refine SG0 ?_
 refine T2 (hK _ _ _ ?_);clear hK K;refine aC fun K hK=>DW [(0,[],[]),(1,[],[]),(2,[],[]),(3,[],[]),(4,[],[]),(5,[],[]),(6,[],[]),(7,[],[]),(8,[],[]),(9,[],[]),(10,[],[]),(11,[],[]),(12,[],[]),(13,[],[12]),(14,[],[])] [0,1,3,0,8,24,0,64,192,0,0,2047,0,4095,16383] ?_;iterate 15 refine W0 ?_ (e:=fun _ h_=>by simp only[sH,↓sP,sA,tyS,simprocAttr,lsC,Int.one_nonneg,wQ h1,wQ h2,wQ h3,hl1];exact AX h_)
 refine T2 (hK _ _ _ ?_);clear hK K;refine aF (RT Tryz.results90 ?_);rw[hX];exact bW [] (Pr.cv ⟨wd ls[a] 1,wd ls[a] 2,wd ls[a] 3,g,T'⟩) (.bool (rdT (ls.drop (a+1))).1.isSome) (rdr ls (ls.length-(rdT (ls.drop (a+1))).2.length)) (by simp[HV.close,HV.closeL,Pr.cv,CV.denil,CV.denilL,denilL_Nd,HV.norm,HV.toC,HV.toCL]) rfl (by simp[HV.close,HV.closeL,rdr,CV.denil,CV.denilL,aQ,HV.norm,HV.toC,HV.toCL]) (by simp) ⟨_,rfl,by simp,rfl,fun p h=>by
  cases h4:(rdT (ls.drop (a+1))).1 with
  |none=>simp[h4]at h
  |some t=>simp[h4]at h;rw[←h,hT t h4]⟩
theorem bT2 (ls:List (List aH))(hls:ls.length<2^39):
  tQ Tryz.prog 63 94 (rdr ls 0) [] (fun u x v'=> ∃q:Po,u=q.cv∧x= .bool (rdP ls).1.isSome∧v'=rdr ls (ls.length-(rdP ls).2.length)∧ ∀p,(rdP ls).1=some p→q=p):=by
 refine bT Tryz.func63 rfl (by kernel_rfl) (dN _ _ _) (Nat.le_of_ble_eq_true rfl) ?_;refine R0 ?_;refine aC fun K hK=>?_;refine aC fun K hK=>Rg ?_;refine S0 ?_;refine HS rfl rfl fun K' hK'=>T5 ?_;refine bJ (args:=[_,_]) (aB1 ls 0 3 wPolicy (by omega)) rfl (by simp) ⟨rfl,rfl,rfl,rfl⟩ ?_;rintro u v' ⟨rfl,rfl⟩;refine AX (hK' _ _ ?_);clear hK' K';refine S0 ?_;refine T2 (hK _ _ _ ?_);clear hK K;refine aG (b:=!isV ls 0 wPolicy 3) rfl (fun hb=>?_) (fun hb=>?_)
 ·
  have hX:=cF1 (show isV ls 0 wPolicy 3=false by simpa using hb);refine aC fun K hK=>Rg ?_;iterate 3 refine S0 ?_
  refine T2 (hK _ _ _ ?_);clear hK K;refine aF (RT Tryz.results63 ?_);rw[hX];exact bW [] po0.cv (.bool false) (rdr ls 0) (by simp[HV.close,HV.closeL,HO.close,fob_at,upd_at,po0,Po.cv,CV.denil,CV.denilL,denilL_Pr,HV.norm,HV.toC,HV.toCL]) rfl (by simp[HV.close,HV.closeL,rdr,CV.denil,CV.denilL,aQ,HV.norm,HV.toC,HV.toCL]) (by simp) (by refine⟨po0,rfl,rfl,?_⟩;first|exact(by simp only[List.length_drop];congr 1;omega)|exact rfl|exact⟨by simp,fun t h=>by cases h⟩)
 refine aK ?_;refine T0 (hK _ _ _ ?_);clear hK K;obtain⟨hl,hl1,hl2⟩:=gD (show isV ls 0 wPolicy 3=true by simpa using hb);have h1:1<ls[0].length:=by omega
 clear hb;refine aC fun K hK=>Rg ?_;refine S0 ?_;refine HS rfl rfl fun K' hK'=>T5 ?_;refine eJ (args:=[_]) (lN ls 0 2 hl (by omega)) rfl (by simp) ⟨rfl,rfl,rfl,rfl⟩ ?_;rintro u x v' ⟨rfl,rfl,rfl⟩;refine AX (hK' _ _ ?_);clear hK' K';iterate 5 refine S0 ?_
 refine T2 (hK _ _ _ ?_);clear hK K;refine aC fun K hK=>?_;refine R0 ?_;refine aG (b:=!(bN (wd ls[0] 2)).isSome) rfl (fun hb=>?_) (fun hb=>?_)
 ·
  have hX:=bZ1 hl hl1 hl2 (show bN (wd ls[0] 2)=none by simpa using hb);refine aC fun K hK=>Rg ?_;iterate 3 refine S0 ?_
  refine T2 (hK _ _ _ ?_);clear hK K;refine aF (RT Tryz.results63 ?_);rw[hX];exact bW [] po0.cv (.bool false) (rdr ls 0) (by simp[HV.close,HV.closeL,HO.close,fob_at,upd_at,po0,Po.cv,CV.denil,CV.denilL,denilL_Pr,HV.norm,HV.toC,HV.toCL]) rfl (by simp[HV.close,HV.closeL,rdr,CV.denil,CV.denilL,aQ,HV.norm,HV.toC,HV.toCL]) (by simp) (by refine⟨po0,rfl,rfl,?_⟩;first|exact(by simp only[List.length_drop];congr 1;omega)|exact rfl|exact⟨by simp,fun t h=>by cases h⟩)
 refine aK ?_;refine T0 (hK _ _ _ ?_);clear hK K;obtain⟨v,hv⟩: ∃v,bN (wd ls[0] 2)=some v:=by
  cases h:bN (wd ls[0] 2)with
  |none=>rw[h]at hb;simp at hb
  |some v=>exact⟨v,rfl⟩
 obtain⟨X,hX,hst⟩:=bR6 hl hl1 hl2 hv;clear hb;simp only[hv,Option.getD_some];refine aC fun K hK=>Rg ?_;iterate 12 refine S0 ?_ (e:=fun _ h_=>by simp only[sH,↓sP,sA,tyS,simprocAttr,rdr,hl,bH hl,lsC,wQ h1,Int.one_nonneg,hl1,Int.natCast_pos];exact AX h_)
 refine T2 (hK _ _ _ ?_);clear hK K;refine aC fun K hK=>?_;refine aC fun K hK=>Rg ?_;iterate 8 refine S0 ?_ (e:=fun _ h_=>by simp only[sH,↓sP,sA,tyS,simprocAttr,rdr];exact AX h_)
 refine T2 (hK _ _ _ ?_);clear hK K;refine aM ?_;refine uK 97 2 54 5 rfl rfl rfl rfl ?_;refine bI (α:={y:List Pr×Nat//RsSt ls X y.1 y.2}) (fun y=>(fin [(0,.ptr 0 0),(2,.ptr 1 0),(6,.ptr 97 0)],fob [(0,.box 94 (.c (rdr ls y.1.2))),(1,.box 45 (.c (.agg [.str [],.int .i64 0,.nils]))),(97,.box 45 (.agg [.c (.str (wd ls[0] 1)),.c (.int .i64 v),.own 137 y.1.1.length])),(137,.row 54 5 (y.1.1.map Pr.cv))])) 2000 (fun y=>ls.length-y.1.2) ⟨([],1),hst⟩ (aL (by omega) (by simp[aS,fin_at,finA_at,upd_at,HV.men,HV.menL,HV.norm,HV.toC,HV.toCL,rdr,show IntKind.i64.wrap 1=1 from rfl]) (by simp[aT,fob_at,upd_at,none0_at,bL,HO.men,HV.men,HV.menL,HV.norm,HV.toC,HV.toCL,rdr,show IntKind.i64.wrap 1=1 from rfl])) ?_;rintro⟨⟨acc,p⟩,hΦ⟩;simp only at hΦ;refine aC fun K hK=>?_;refine aC fun K hK=>QR ?_;iterate 10 refine S0 ?_ (e:=fun _ h_=>by simp only[sH,↓sP,sA,tyS,simprocAttr,rdr];exact AX h_)
 refine T2 (hK _ _ _ ?_);clear hK K;refine aG (b:=decide ((p:Int)<ls.length)) rfl (fun hb=>?_) (fun hb=>?_)
 ·
  have hp:p<ls.length:=by simpa using hb
  have hp1:=hΦ.le;have hp2:=hΦ.len;clear hb;refine aK ?_;refine T0 (hK _ _ _ ?_);clear hK K;refine aM ?_;refine aC fun K hK=>Rg ?_;refine S0 ?_;refine HS rfl rfl fun K' hK'=>T5 ?_;refine eJ (args:=[]) (bH6 ls p hp1 hls) rfl (by simp) ⟨rfl,rfl,rfl,rfl⟩ ?_;rintro u x v' ⟨q,rfl,rfl,rfl,hq⟩;refine AX (hK' _ _ ?_);clear hK' K';iterate 6 refine S0 ?_
  refine T2 (hK _ _ _ ?_);clear hK K;refine aC fun K hK=>?_;refine R0 ?_;refine aG (b:=!(rdR (ls.drop p)).1.isSome) rfl (fun hb=>?_) (fun hb=>?_)
  ·
   have hno:(rdR (ls.drop p)).1=none:=by simpa using hb
   have hXn:=hΦ.no hp hno;refine aC fun K hK=>Rg ?_;iterate 3 refine S0 ?_
   refine T2 (hK _ _ _ ?_);clear hK K;refine aF (RT Tryz.results63 ?_);rw[hX,hXn];exact bW [] po0.cv (.bool false) (rdr ls (ls.length-(rdR (ls.drop p)).2.length)) (by simp[HV.close,HV.closeL,HO.close,fob_at,upd_at,po0,Po.cv,CV.denil,CV.denilL,denilL_Pr,HV.norm,HV.toC,HV.toCL]) rfl (by simp[HV.close,HV.closeL,rdr,CV.denil,CV.denilL,aQ,HV.norm,HV.toC,HV.toCL]) (by simp) (by refine⟨po0,rfl,rfl,?_⟩;first|exact(by simp only[List.length_drop];congr 1;omega)|exact rfl|exact⟨by simp,fun t h=>by cases h⟩)
  obtain⟨x,hx⟩: ∃x,(rdR (ls.drop p)).1=some x:=by
   cases h:(rdR (ls.drop p)).1 with
   |none=>rw[h]at hb;simp at hb
   |some x=>exact⟨x,rfl⟩
  obtain⟨hst2,hlt2⟩:=hΦ.some_ hp hx;obtain rfl:=hq x hx;clear hb;refine aK ?_;refine T0 (hK _ _ _ ?_);clear hK K;refine Rg ?_;iterate 7 refine S0 ?_
  refine T4 ?_;refine⟨⟨(acc++[q],ls.length-(rdR (ls.drop p)).2.length),hst2⟩,aL (by omega) (by simp[aS,fin_at,finA_at,upd_at,HV.men,HV.menL,HV.norm,HV.toC,HV.toCL,List.map_append]) (by simp[aT,fob_at,upd_at,none0_at,bL,HO.men,HV.men,HV.menL,HV.norm,HV.toC,HV.toCL,List.map_append]),?_⟩;show ls.length-(ls.length-(rdR (ls.drop p)).2.length)<ls.length-p;omega
 have hp: ¬p<ls.length:=by simpa using hb
 obtain⟨rfl,hXs⟩:=hΦ.done hp;refine bD (T3 ?_);clear hK K;refine AX (hK _ _ _ ?_);clear hK K;refine aC fun K hK=>Rg ?_;iterate 3 refine S0 ?_
 refine T2 (hK _ _ _ ?_);clear hK K;refine aF (RT Tryz.results63 ?_);rw[hX,hXs];refine⟨rfl,?_⟩;exact bW [137] (Po.cv ⟨wd ls[0] 1,v,acc⟩) (.bool true) (rdr ls ls.length) (by simp[HV.close,HV.closeL,HO.close,fob_at,upd_at,po0,Po.cv,CV.denil,CV.denilL,denilL_Pr,HV.norm,HV.toC,HV.toCL]) rfl (by simp[HV.close,HV.closeL,rdr,CV.denil,CV.denilL,aQ,HV.norm,HV.toC,HV.toCL]) (by simp) (by exact⟨_,rfl,rfl,by simp,fun p h=>by cases h;rfl⟩)
end Go.Proofs.YtlldglbooaefhaaGreatDoor
namespace Go.Proofs.YtlldglbooaefhaaGreatDoor
open Go Go.Hl Go.Pl Go.RowKit Go.Shelf
set_option maxRecDepth 100000
def cA5 :Go.Shelf.Ren:=⟨fun|173=>77|246=>102|283=>117|284=>118|285=>119|286=>120|129=>137|317=>136|318=>138|319=>139|320=>140|337=>148|338=>149|n=>n,fun|2=>2|3=>3|9=>9|4=>4|171=>155|0=>0|53=>116|37=>47|5=>5|173=>158|212=>169|51=>170|20=>20|213=>171|46=>41|232=>184|233=>185|n=>n,fun|17=>1|18=>4|19=>5|n=>n⟩
theorem cF6 :Go.Proofs.LaysM.n173 Tryz.prog cA5:={
  mixed:=by kernel_rfl
  f129:=Tryz.func137.trans (congrArg some (by kernel_rfl))
  f173:=Tryz.func77.trans (congrArg some (by kernel_rfl))
  f246:=Tryz.func102.trans (congrArg some (by kernel_rfl))
  f283:=Tryz.func117.trans (congrArg some (by kernel_rfl))
  f284:=Tryz.func118.trans (congrArg some (by kernel_rfl))
  f285:=Tryz.func119.trans (congrArg some (by kernel_rfl))
  f286:=Tryz.func120.trans (congrArg some (by kernel_rfl))
  f317:=Tryz.func136.trans (congrArg some (by kernel_rfl))
  f318:=Tryz.func138.trans (congrArg some (by kernel_rfl))
  f319:=Tryz.func139.trans (congrArg some (by kernel_rfl))
  f320:=Tryz.func140.trans (congrArg some (by kernel_rfl))
  f337:=Tryz.func148.trans (congrArg some (by kernel_rfl))
  f338:=Tryz.func149.trans (congrArg some (by kernel_rfl))
  t0:=Tryz.underlying0
  a0:=Tryz.isAgg0
  z0:=Tryz.sizeOf0
  v0:=Tryz.zeroValue0
  t2:=Tryz.underlying2
  a2:=Tryz.isAgg2
  z2:=Tryz.sizeOf2
  v2:=Tryz.zeroValue2
  t3:=Tryz.underlying3
  a3:=Tryz.isAgg3
  z3:=Tryz.sizeOf3
  v3:=Tryz.zeroValue3
  t4:=Tryz.underlying4
  a4:=Tryz.isAgg4
  z4:=Tryz.sizeOf4
  v4:=Tryz.zeroValue4
  t5:=Tryz.underlying5
  a5:=Tryz.isAgg5
  z5:=Tryz.sizeOf5
  v5:=Tryz.zeroValue5
  t9:=Tryz.underlying9
  a9:=Tryz.isAgg9
  z9:=Tryz.sizeOf9
  v9:=Tryz.zeroValue9
  t20:=Tryz.underlying20
  a20:=Tryz.isAgg20
  z20:=Tryz.sizeOf20
  v20:=Tryz.zeroValue20
  t37:=Tryz.underlying47
  a37:=Tryz.isAgg47
  z37:=Tryz.sizeOf47
  v37:=Tryz.zeroValue47
  t46:=Tryz.underlying41
  a46:=Tryz.isAgg41
  z46:=Tryz.sizeOf41
  v46:=Tryz.zeroValue41
  t51:=Tryz.underlying170
  a51:=Tryz.isAgg170
  z51:=Tryz.sizeOf170
  v51:=Tryz.zeroValue170
  t53:=Tryz.underlying116
  a53:=Tryz.isAgg116
  z53:=Tryz.sizeOf116
  v53:=Tryz.zeroValue116
  t171:=Tryz.underlying155
  a171:=Tryz.isAgg155
  z171:=Tryz.sizeOf155
  v171:=Tryz.zeroValue155
  t173:=Tryz.underlying158
  a173:=Tryz.isAgg158
  z173:=Tryz.sizeOf158
  v173:=Tryz.zeroValue158
  t212:=Tryz.underlying169
  a212:=Tryz.isAgg169
  z212:=Tryz.sizeOf169
  v212:=Tryz.zeroValue169
  t213:=Tryz.underlying171
  a213:=Tryz.isAgg171
  z213:=Tryz.sizeOf171
  t232:=Tryz.underlying184
  a232:=Tryz.isAgg184
  z232:=Tryz.sizeOf184
  v232:=Tryz.zeroValue184
  t233:=Tryz.underlying185
  a233:=Tryz.isAgg185
  z233:=Tryz.sizeOf185
  v233:=Tryz.zeroValue185
  g17:=by kernel_rfl
  g18:=by kernel_rfl
  g19:=by kernel_rfl
  i0:=by kernel_rfl
  i2:=by kernel_rfl
  i3:=by kernel_rfl
  i4:=by kernel_rfl
  i5:=by kernel_rfl
  i9:=by kernel_rfl
  i20:=by kernel_rfl
  i37:=by kernel_rfl
  i46:=by kernel_rfl
  i51:=by kernel_rfl
  i53:=by kernel_rfl
  i171:=by kernel_rfl
  i173:=by kernel_rfl
  i212:=by kernel_rfl
  i232:=by kernel_rfl
  i233:=by kernel_rfl
  m17:=by kernel_rfl
  m18:=by kernel_rfl
  m19:=by kernel_rfl}
theorem aG2 :Tryz.prog.globalNamed "internal/strconv.uint64pow10" =some 1:=by kernel_rfl
def tabs :kS:=[(1,Lib.pow10Tab.map fun z=>Value.int .u64 z)]
theorem bH7 (n:Int)(h: -9223372036854775808≤n∧n≤9223372036854775807):lX Tryz.prog 77 tabs [.int .i64 n,.int .i64 10] (fun v=>v= .str (numW n)):=
  aS2 (by kernel_rfl) aG2 (List.mem_cons_self) (fun w hw=>Any.strconv_FormatInt_10 cF6 n h.1 h.2 w hw)
end Go.Proofs.YtlldglbooaefhaaGreatDoor
namespace Go.Proofs.YtlldglbooaefhaaGreatDoor
open Go Go.Hl Go.Pl
set_option maxRecDepth 10000
set_option maxHeartbeats 16000000
theorem rJ (n:Int)(hn: -9223372036854775808≤n∧n≤9223372036854775807):cA Tryz.prog 54 [.int .i64 n] (fun v=>v= .str (numW n)):=by
 refine FW Tryz.func54 ?_;refine R0 ?_;refine aC fun K hK=>?_;refine R0 ?_;refine aG (b:=n==0) rfl (fun hb=>?_) (fun hb=>?_)
 · refine R0 ?_;refine aF (RT Tryz.results54 ?_);exact aJ [] (.str [48]) rfl (by rw[show n=0 from by simpa using hb,bF0])
 refine aK ?_;refine T0 (hK _ _ _ ?_);clear hK K;have hne:n≠0:=by simpa using hb
 clear hb;refine aC fun K hK=>Rg ?_;iterate 4 refine S0 ?_
 refine T2 (hK _ _ _ ?_);clear hK K;refine aC fun K hK=>?_;have key: ∀(sg:aH) (u:Nat) fr ob nx,(u<18446744073709551616∧u≠0∧sg.length≤1∧numW n=sg++Lib.decDigits u)→Fits 0 fr ob (fin [(3,.c (.str sg)),(4,.c (.int .u64 u))]) (fob []) 600→K fr ob nx:=by
  rintro sg u fr ob nx ⟨hu,hu0,hsg,hnum⟩ hf;refine hK _ _ _ (bF hf ?_);clear hf hK K;have hdl:=bN5 hu;refine R0 ?_;refine aC fun K hK=>?_;refine aM ?_;refine bI (α:={y:Nat×aH//y.1≤u∧(if y.1=0 then []else Lib.decDigits y.1)++y.2=Lib.decDigits u}) (fun y=>(fin [(3,.c (.str sg)),(4,.c (.int .u64 y.1.1)),(5,.c (.str y.1.2))],fob [])) 100 (fun y=>y.1.1) ⟨(u,[]),by simp,by simp[hu0]⟩ (fF) ?_;rintro⟨⟨v,s⟩,hv,hs⟩;simp only at hv hs⊢;have hsl:s.length≤20:=by
   have:=congrArg List.length hs;rw[List.length_append]at this;omega
  refine aC fun K hK=>?_;refine R0 ?_;refine aG (b:=decide ((0:Int)<v)) rfl (fun hb=>?_) (fun hb=>?_)
  ·
   have hv0:v≠0:=by simp at hb;omega
   clear hb;have hv64:v<18446744073709551616:=by omega
   have h10:((10:Int)=0)↔False:=by simp
   have hsl1:[UInt8.ofNat (48+v%10)].length+s.length≤9223372036854775807:=by simp;omega
   rw[if_neg hv0,bN4 hv0]at hs;refine aK ?_;refine T0 (hK _ _ _ ?_);clear hK K;refine aM ?_;refine aC fun K hK=>bA (by kernel_rfl) ?_;simp only[sR,simprocAttr];have F:=aI @wP (aI @cJ (aI h10 hsl1));iterate 4 refine SGF ?_
   refine cF (g:=none) 124 rfl rfl fun K' hK'=>?_;simp only[eG,fS,sH,↓sP,sA,tyS,simprocAttr,wP,cJ,h10,hsl1];repeat refine AI ?_
   refine bV (by first|rfl|simp) ?_;try simp only[sH,↓sP,sA,tyS,simprocAttr,wP,cJ,h10,hsl1]
   refine AX (hK' _ _ ?_);clear hK' K';iterate 4 refine SGF ?_
   refine T2 (hK _ _ _ ?_);clear hK K;refine aN (by kernel_rfl) ?_;simp only[↓sP,sA,tyS,simprocAttr,bX0 hv64,h10];refine⟨⟨(v/10,[UInt8.ofNat (48+v%10)]++s),by simp only;omega,by simp only;rw[←hs,List.append_assoc]⟩,fF,?_⟩;show v/10<v;omega
  have hv0:v=0:=by simp at hb;omega
  clear hb;subst hv0;rw[if_pos rfl,List.nil_append]at hs;subst hs;have hle:sg.length+(Lib.decDigits u).length≤9223372036854775807:=by omega
  refine bD (T3 ?_);clear hK K;refine AX (hK _ _ _ ?_);clear hK K;refine aC fun K hK=>Rg ?_;have F:=hle;iterate 4 refine SF ?_
  refine T2 (hK _ _ _ ?_);clear hK K;refine aF (RT Tryz.results54 ?_);exact aJ [] (.str _) rfl (by rw[hnum])
 refine R0 ?_;refine aG (b:=decide (n<0)) rfl (fun hb=>?_) (fun hb=>?_)
 ·
  have hlt:n<0:=by simpa using hb
  refine Rg ?_;have F:=aE5 hlt hn.1;iterate 4 refine SF ?_
  refine T4 ?_;first
   |exact key [45] n.natAbs _ _ _ ⟨by omega,by omega,by simp,aM0 (by simpa using hb)⟩ (by rw[←aE5 (by simpa using hb) hn.1];exact fF)
   |(have h0:0≤n:=(by simp at hb;omega);exact key [] n.natAbs _ _ _ ⟨by omega,by omega,by simp,qV h0⟩ (by rw[←aY6 h0 hn.2];exact fF))
 refine aK (T3 ?_);first
  |exact key [45] n.natAbs _ _ _ ⟨by omega,by omega,by simp,aM0 (by simpa using hb)⟩ (by rw[←aE5 (by simpa using hb) hn.1];exact fF)
  |(have h0:0≤n:=(by simp at hb;omega);exact key [] n.natAbs _ _ _ ⟨by omega,by omega,by simp,qV h0⟩ (by rw[←aY6 h0 hn.2];exact fF))
theorem xH (n:Int)(hn: -9223372036854775808≤n∧n≤9223372036854775807):lX Tryz.prog 51 tabs [.int .i64 n] (fun v=>v= .str (numW n)):=by
 refine bT (args:=[.c (.int .i64 n)]) Tryz.func51 rfl (by kernel_rfl) (fP tabs [.int .i64 n]) (Nat.le_of_ble_eq_true rfl) ?_;refine R0 ?_;refine aC fun K hK=>Rg ?_;refine S0 ?_;refine HS rfl rfl fun K' hK'=>T5 ?_;refine eR (args:=[_,_]) 0 (bH7 n hn) (fY _ 0) (by simp) ⟨rfl,rfl,rfl,rfl⟩ ?_;rintro u rfl;refine AX (hK' _ _ ?_);clear hK' K';refine S0 ?_;refine T2 (hK _ _ _ ?_);clear hK K;refine aF (RT Tryz.results51 ?_);exact dS [] (.str _) rfl (fY _ 0) (by simp) rfl
def cA6 (n:Int):Prop:= -9223372036854775808≤n∧n≤9223372036854775807
theorem bT3 (q:Rq)(hn:cA6 q.n)(hm:cA6 q.m):lX Tryz.prog 78 tabs [q.cv] (fun v=>v=lsC (wlR q)):=by
 refine bT (args:=[.c q.cv]) Tryz.func78 rfl (by kernel_rfl) (fP tabs [q.cv]) (Nat.le_of_ble_eq_true rfl) ?_;unfold eT;refine R0 ?_;refine aC fun K hK=>Rg ?_;iterate 2 refine S0 ?_
 refine HS rfl rfl fun K' hK'=>T5 ?_;refine eR (args:=[_]) 0 (xH q.n hn) rfl (by simp) ⟨rfl,rfl,rfl,rfl⟩ ?_;rintro u rfl;refine AX (hK' _ _ ?_);clear hK' K';refine S0 ?_;refine T2 (hK _ _ _ ?_);clear hK K;refine aC fun K hK=>?_;refine R0 ?_;refine aM ?_;refine R0 ?_;refine aG (b:=(q.k==1)) rfl (fun hb=>?_) (fun hb=>?_)
 ·
  have hk:q.k=1:=by simpa using hb
  clear hb;refine R0 ?_;refine aF (RT Tryz.results78 ?_);exact dS [45] (lsC (wlR q)) (by rw[show wlR q=[dO,numW q.n]from by simp[wlR, *]];simp[lsC,HV.close,fob_at,upd_at,HV.norm,HV.toC,HV.closeL,HV.toCL,CV.denil];rfl) rfl (by simp) rfl
 have hk1: ¬q.k=1:=by simpa using hb
 clear hb;refine R0 ?_;refine aG (b:=(q.k==2)) rfl (fun hb=>?_) (fun hb=>?_)
 ·
  have hk:q.k=2:=by simpa using hb
  clear hb;refine aC fun K hK=>Rg ?_;iterate 4 refine S0 ?_
  refine T2 (hK _ _ _ ?_);clear hK K;refine aF (RT Tryz.results78 ?_);exact dS [57] (lsC (wlR q)) (by rw[show wlR q=[eM,q.t]from by simp[wlR, *]];simp[lsC,HV.close,fob_at,upd_at,HV.norm,HV.toC,HV.closeL,HV.toCL,CV.denil];rfl) rfl (by simp) rfl
 have hk2: ¬q.k=2:=by simpa using hb
 clear hb;refine R0 ?_;refine aG (b:=(q.k==3)) rfl (fun hb=>?_) (fun hb=>?_)
 ·
  have hk:q.k=3:=by simpa using hb
  clear hb;refine R0 ?_;refine aF (RT Tryz.results78 ?_);exact dS [61] (lsC (wlR q)) (by rw[show wlR q=[eB,numW q.n]from by simp[wlR, *]];simp[lsC,HV.close,fob_at,upd_at,HV.norm,HV.toC,HV.closeL,HV.toCL,CV.denil];rfl) rfl (by simp) rfl
 have hk3: ¬q.k=3:=by simpa using hb
 clear hb;refine R0 ?_;refine aG (b:=(q.k==4)) rfl (fun hb=>?_) (fun hb=>?_)
 ·
  have hk:q.k=4:=by simpa using hb
  clear hb;refine aC fun K hK=>Rg ?_;iterate 3 refine S0 ?_
  refine HS rfl rfl fun K' hK'=>T5 ?_;refine eR (args:=[_]) 0 (xH q.m hm) rfl (by simp) ⟨rfl,rfl,rfl,rfl⟩ ?_;rintro u rfl;refine AX (hK' _ _ ?_);clear hK' K';iterate 2 refine S0 ?_
  refine T2 (hK _ _ _ ?_);clear hK K;refine aF (RT Tryz.results78 ?_);exact dS [81] (lsC (wlR q)) (by rw[show wlR q=[fN,numW q.n,numW q.m]from by simp[wlR, *]];simp[lsC,HV.close,fob_at,upd_at,HV.norm,HV.toC,HV.closeL,HV.toCL,CV.denil];rfl) rfl (by simp) rfl
 have hk4: ¬q.k=4:=by simpa using hb
 clear hb;refine R0 ?_;refine aG (b:=(q.k==5)) rfl (fun hb=>?_) (fun hb=>?_)
 ·
  have hk:q.k=5:=by simpa using hb
  clear hb;refine R0 ?_;refine aF (RT Tryz.results78 ?_);exact dS [77] (lsC (wlR q)) (by rw[show wlR q=[gC,numW q.n]from by simp[wlR, *]];simp[lsC,HV.close,fob_at,upd_at,HV.norm,HV.toC,HV.closeL,HV.toCL,CV.denil];rfl) rfl (by simp) rfl
 have hk5: ¬q.k=5:=by simpa using hb
 clear hb;refine R0 ?_;refine aG (b:=(q.k==6)) rfl (fun hb=>?_) (fun hb=>?_)
 ·
  have hk:q.k=6:=by simpa using hb
  clear hb;refine R0 ?_;refine aF (RT Tryz.results78 ?_);exact dS [85] (lsC (wlR q)) (by rw[show wlR q=[jR,numW q.n]from by simp[wlR, *]];simp[lsC,HV.close,fob_at,upd_at,HV.norm,HV.toC,HV.closeL,HV.toCL,CV.denil];rfl) rfl (by simp) rfl
 have hk6: ¬q.k=6:=by simpa using hb
 clear hb;refine R0 ?_;refine aG (b:=(q.k==7)) rfl (fun hb=>?_) (fun hb=>?_)
 ·
  have hk:q.k=7:=by simpa using hb
  clear hb;refine R0 ?_;refine aF (RT Tryz.results78 ?_);exact dS [93] (lsC (wlR q)) (by rw[show wlR q=[kT,numW q.n]from by simp[wlR, *]];simp[lsC,HV.close,fob_at,upd_at,HV.norm,HV.toC,HV.closeL,HV.toCL,CV.denil];rfl) rfl (by simp) rfl
 have hk7: ¬q.k=7:=by simpa using hb
 clear hb;refine aK ?_;refine T0 (hK _ _ _ ?_);clear hK K;refine R0 ?_;refine aF (RT Tryz.results78 ?_);exact dS [89] (lsC (wlR q)) (by rw[show wlR q=[iM]from by simp[wlR, *]];simp[lsC,HV.close,fob_at,upd_at,HV.norm,HV.toC,HV.closeL,HV.toCL,CV.denil];rfl) rfl (by simp) rfl
theorem cK3 (L:List (List aH)):lst [.tab tabs,.row 60 1 (L.map lsC)]=fob [(0,.tab tabs),(1,.row 60 1 (L.map lsC))]:=by
 funext i
 match i with
 |0=>rfl
 |1=>rfl
 |i+2=>simp[lst,fob,upd]
theorem aV0 (n:Nat)(ob:Ob)(e:TypeId)(sz:Nat)(T:kS)(L:List CV):jP (sub [0,1] n) ob 0 [.tab T,.row e sz L]=upd (upd ob 0 (some (.tab T))) 1 (some (.row e sz L)):=rfl
theorem xI {ob:Ob}{L:List CV}{M:List (List aH)}{m:Nat}{a:Nat}(h0:ob 0=some (.tab tabs))(h1:ob 1=some (.row 60 1 L))(hm:m=M.length)(hL:L=M.map lsC):
  mK 2 (.tup [.own 1 m,.c (.int .i64 a)]) ob (fun r ob'=> ∃os',ob'=lst os'∧(2≤os'.length∧os'.length≤2+4)∧r= .tup [.own 1 M.length,.c (.int .i64 a)]∧os'=[.tab tabs,.row 60 1 (M.map lsC)]):=by
 subst hm hL;exact eD [] [] (.tup [.own 1 M.length,.c (.int .i64 a)]) [.tab tabs,.row 60 1 (M.map lsC)] rfl (by simp[HV.men,HV.menL]) ⟨⟨by simp[HO.men],by simp,_,h0,rfl⟩,⟨by simp[HO.men],by simp,_,h1,rfl⟩,trivial⟩ rfl List.nodup_nil (by simp) (by simp) ⟨rfl,rfl⟩
theorem bT4 (l:List Nd)(ht:IsTree l)(m:Nat): ∀(L:List (List aH)) (i:Nat) (hi:i<l.length),l.length-i≤m→0<L.length→L.length+2*(l.length-i)<2^40→
  HGe Tryz.prog 52 [.own 1 L.length,.c (.slc (l.map Nd.cv)),.c (.int .i64 i)] [.tab tabs,.row 60 1 (L.map lsC)] (fun r os'=>r= .tup [.own 1 (L++eV l i).length,.c (.int .i64 (aft l i:Nat))]∧os'=[.tab tabs,.row 60 1 ((L++eV l i).map lsC)]):=by
 induction m using Nat.strongRecOn with
 |ind m ih=>?_
 intro L i hi hfu hL0 hLl;refine bT (args:=[.own 1 L.length,.c (.slc (l.map Nd.cv)),.c (.int .i64 i)]) Tryz.func52 rfl (by kernel_rfl) (eS rfl (by simp[eH,HO.men,HV.men,HV.menL]) (by simp[HV.menL,HV.men])) (Nat.le_of_ble_eq_true rfl) ?_;show Hw _ _ 2 _ _ _ (lst _) 2;rw[cK3];have hnode:=ht.node _ (List.getElem_mem hi);obtain⟨c1,c2,c3,c4⟩:=dV hnode;have hll:=ht.len;have hwi:IntKind.i64.wrap ((i:Int)+1)=((i+1:Nat):Int):=IntWalk.i64_in _ (by omega);obtain⟨a1,a2,a3⟩:=iB ht hi;refine R0 ?_;refine aC fun K hK=>Rg ?_;have F:=aI @Int.natCast_nonneg (aI @Int.ofNat_lt (aI hi (nM hi)));iterate 6 refine SF ?_
 refine T2 (hK _ _ _ ?_);clear hK K;have F:=hwi;refine RF ?_;refine aC fun K hK=>?_;have key: ∀fr ob nx,l[i].k≠1→Fits 2 fr ob (fin [(0,.own 1 (L.length+1)),(1,.c (.slc (l.map Nd.cv))),(2,.c (.int .i64 ((i+1:Nat):Int))),(8,.ptr 26 0)]) (fob [(0,.tab tabs),(1,.row 60 1 ((L++[wlN l[i]]).map lsC)),(26,.box 40 (.c l[i].cv))]) 300→K fr ob nx:=by
  rintro fr ob nx hk1 hf;refine hK _ _ _ (bF hf ?_);clear hf hK K;refine aC fun K hK=>?_;refine R0 ?_;refine aM ?_;refine bI (α:={k:Nat//k≤l[i].c.toNat}) (fun k=>(fin [(0,.own 1 (L.length+1+(cY l i k.1).length)),(1,.c (.slc (l.map Nd.cv))),(2,.c (.int .i64 (dB l k.1 (i+1):Nat))),(48,.c (.int .i64 l[i].c)),(49,.c (.int .i64 k.1))],fob [(0,.tab tabs),(1,.row 60 1 ((L++wlN l[i]::cY l i k.1).map lsC))])) 2000 (fun k=>l[i].c.toNat-k.1) ⟨0,by omega⟩ (aL (by omega) (by simp[aS,fin_at,finA_at,upd_at,HV.men,HV.menL,HV.norm,HV.toC,HV.toCL,gW,dB]) (by simp[aT,fob_at,upd_at,none0_at,bL,HO.men,HV.men,HV.menL,HV.norm,HV.toC,HV.toCL,gW,dB])) ?_;rintro⟨k,hk⟩;obtain⟨k1,k2,k3⟩:=gJ ht hi k hk;have hkl:=tY ht hi hk hk1;refine R0 ?_;refine aC fun K hK=>?_;refine aG (b:=decide ((k:Int)<l[i].c)) rfl (fun hb=>?_) (fun hb=>?_)
  ·
   have hlt:k<l[i].c.toNat:=by simp at hb;omega
   have hkid:=lC ht hi hlt;clear hb;obtain⟨M,hM⟩: ∃M,M=L++wlN l[i]::cY l i k:=⟨_,rfl⟩;have hMl:L.length+1+(cY l i k).length=M.length:=by rw[hM];simp;omega
   rw[←hM,hMl];refine aK ?_;refine T0 (hK _ _ _ ?_);clear hK K;refine aC fun K hK=>?_;refine aM ?_;refine Rg ?_;iterate 3 refine S0 ?_
   refine HS rfl rfl fun K' hK'=>T5 ?_;refine eZ [0,1] (ih (l.length-dB l k (i+1)) (by omega) M (dB l k (i+1)) hkid (by omega) (by omega) (by omega)) rfl ⟨rfl,rfl,trivial⟩ (by simp) (by simp) ⟨rfl,rfl,rfl,rfl⟩ (by simp[eH,HO.men,HV.men,HV.menL]) (by simp[HV.menL,HV.men]) ?_;rintro r os' ⟨rfl,rfl⟩;rw[aV0,aP2];refine AX (hK' _ _ ?_);clear hK' K';iterate 5 refine S0 ?_
   refine T2 (hK _ _ _ ?_);clear hK K;refine aN (by kernel_rfl) ?_;refine TQ (IntWalk.i64_in ((k:Int)+1) (by omega)) ?_;refine⟨⟨k+1,hlt⟩,?_,?_⟩
   ·
    have e1:M++eV l (dB l k (i+1))=L++wlN l[i]::cY l i (k+1):=by rw[hM,mB ht hi hlt];simp
    have e2:(M++eV l (dB l k (i+1))).length=L.length+1+(cY l i (k+1)).length:=by rw[e1];simp;omega
    simp only[];rw[←e1,←e2,fM];exact fF
   show l[i].c.toNat-(k+1)<l[i].c.toNat-k;omega
  refine bD (T3 ?_);clear hK K;refine AX (hK _ _ _ ?_);clear hK K;have hke:k=l[i].c.toNat:=by simp at hb;omega
  subst hke;rw[rF ht hi]at hkl k3;clear hb;refine aC fun K hK=>bA (by kernel_rfl) ?_;simp only[sR,simprocAttr];have F:=aI @eN @eX;refine SGF ?_;refine cF (g:=none) 2008 rfl rfl fun K' hK'=>?_;simp only[eG,fS,sH,↓sP,sA,tyS,simprocAttr,eN,eX];repeat refine AI ?_
  refine bV (by first|rfl|simp) ?_;try simp only[sH,↓sP,sA,tyS,simprocAttr,eN,eX]
  refine AX (hK' _ _ ?_);clear hK' K';iterate 5 refine SGF ?_
  refine T2 (hK _ _ _ ?_);clear hK K;refine aF (RT Tryz.results52 ?_);rw[nW ht hi hk1,rF ht hi];exact xI (M:=L++wlN l[i]::(cY l i l[i].c.toNat++[[wEnd]])) rfl rfl (by simp) (by simp[lsC,wEnd])
 refine R0 ?_;refine aM ?_;refine R0 ?_;refine aG (b:=(l[i].k==1)) rfl (fun hb=>?_) (fun hb=>?_)
 ·
  have hk:l[i].k=1:=by simpa using hb
  obtain⟨⟨r1,r2⟩,r3,r4⟩:=aN8 (aZ9 hnode hk);clear hb;refine aC fun K hK=>Rg ?_;have F:=aI @eN @eX;iterate 3 refine SF ?_
  refine HS rfl rfl fun K' hK'=>T6 ?_;refine eR (args:=[_]) 0 (bT3 l[i].q ⟨by omega,by omega⟩ ⟨by omega,by omega⟩) rfl (by simp) ⟨rfl,rfl,rfl,rfl⟩ ?_;rintro u rfl;refine AX (hK' _ _ ?_);clear hK' K';iterate 5 refine SF ?_
  refine T2 (hK _ _ _ ?_);clear hK K;refine aF (RT Tryz.results52 ?_);rw[pM hi hk,xD ht hi hk];exact xI (M:=L++[wlR l[i].q]) rfl rfl (by simp) (by simp)
 have hk1:l[i].k≠1:=by simpa using hb
 clear hb;refine R0 ?_;refine aG (b:=(l[i].k==2)) rfl (fun hb=>?_) (fun hb=>?_)
 ·
  have hk:l[i].k=2:=by simpa using hb
  have hwl:wlN l[i]=[lG]:=by simp[wlN,hk]
  clear hb;refine bA (by kernel_rfl) ?_;simp only[sR,simprocAttr];refine SG0 ?_;refine cF (g:=none) 74 rfl rfl fun K' hK'=>?_;simp only[eG,fS,sH,↓sP,sA,tyS,simprocAttr];repeat refine AI ?_
  refine bV (by first|rfl|simp) ?_;try simp only[sH,↓sP,sA,tyS,simprocAttr]
  refine AX (hK' _ _ ?_);clear hK' K';iterate 3 refine SG0 ?_
  refine T4 ?_;exact key _ _ _ hk1 (by rw[hwl];exact aL (by omega) (by simp[aS,fin_at,finA_at,upd_at,HV.men,HV.menL,HV.norm,HV.toC,HV.toCL,lsC,lG,lH,cR]) (by simp[aT,fob_at,upd_at,none0_at,bL,HO.men,HV.men,HV.menL,HV.norm,HV.toC,HV.toCL,lsC,lG,lH,cR]))
 have hk2:l[i].k≠2:=by simpa using hb
 clear hb;refine R0 ?_;refine aG (b:=(l[i].k==3)) rfl (fun hb=>?_) (fun hb=>?_)
 ·
  have hk:l[i].k=3:=by simpa using hb
  have hwl:wlN l[i]=[lH]:=by simp[wlN,hk]
  clear hb;refine bA (by kernel_rfl) ?_;simp only[sR,simprocAttr];refine SG0 ?_;refine cF (g:=none) 82 rfl rfl fun K' hK'=>?_;simp only[eG,fS,sH,↓sP,sA,tyS,simprocAttr];repeat refine AI ?_
  refine bV (by first|rfl|simp) ?_;try simp only[sH,↓sP,sA,tyS,simprocAttr]
  refine AX (hK' _ _ ?_);clear hK' K';iterate 3 refine SG0 ?_
  refine T4 ?_;exact key _ _ _ hk1 (by rw[hwl];exact aL (by omega) (by simp[aS,fin_at,finA_at,upd_at,HV.men,HV.menL,HV.norm,HV.toC,HV.toCL,lsC,lG,lH,cR]) (by simp[aT,fob_at,upd_at,none0_at,bL,HO.men,HV.men,HV.menL,HV.norm,HV.toC,HV.toCL,lsC,lG,lH,cR]))
 have hk3:l[i].k≠3:=by simpa using hb
 have hk4:=aZ8 hnode hk1 hk2 hk3;clear hb;refine R0 ?_;refine aG (b:=(l[i].k==4)) rfl (fun hb=>?_) (fun hb=>?_)
 ·
  have hwl:wlN l[i]=[cR,numW l[i].n]:=by simp[wlN,hk2,hk3]
  have hnn:=bA0 hnode hk4;clear hb;refine bA (by kernel_rfl) ?_;simp only[sR,simprocAttr];iterate 3 refine SG0 ?_
  refine bM (g:=none) rfl rfl fun K' hK'=>T5 ?_;refine eR (args:=[_]) 0 (xH l[i].n ⟨by omega,by omega⟩) rfl (by simp) ⟨rfl,rfl,rfl,rfl⟩ ?_;rintro u rfl;refine AX (hK' _ _ ?_);clear hK' K';refine cF (g:=none) 102 rfl rfl fun K' hK'=>?_;simp only[eG,fS,sH,↓sP,sA,tyS,simprocAttr];repeat refine AI ?_
  refine bV (by first|rfl|simp) ?_;try simp only[sH,↓sP,sA,tyS,simprocAttr]
  refine AX (hK' _ _ ?_);clear hK' K';iterate 3 refine SG0 ?_
  refine T4 ?_;exact key _ _ _ hk1 (by rw[hwl];exact aL (by omega) (by simp[aS,fin_at,finA_at,upd_at,HV.men,HV.menL,HV.norm,HV.toC,HV.toCL,lsC,lG,lH,cR]) (by simp[aT,fob_at,upd_at,none0_at,bL,HO.men,HV.men,HV.menL,HV.norm,HV.toC,HV.toCL,lsC,lG,lH,cR]))
 rw[hk4]at hb;cases hb
end Go.Proofs.YtlldglbooaefhaaGreatDoor
namespace Go.Pl
open Go Go.Hl
theorem cA7 (q:Rq):(wlR q).length≤5:=by grind[wlR]
theorem cA8 (n:Nd):(wlN n).length≤5:=by grind[wlN]
theorem uR : ∀(f m:Nat) (l:List Nd),∀x∈eE f m l,x.length≤5
 |0,m,l,x,h=>by simp[eE]at h
 |f+1,0,l,x,h=>by cases l<;>simp[eE]at h
 |f+1,m+1,[],x,h=>by simp[eE]at h
 |f+1,m+1,n::l,x,h=>by
  simp only[eE]at h;split at h
  ·
   rcases List.mem_cons.1 h with rfl|h
   · exact cA7 _
   · exact uR f _ _ x h
  ·
   rcases List.mem_cons.1 h with rfl|h
   · exact cA8 _
   ·
    rcases List.mem_append.1 h with h|h
    · exact uR f _ _ x h
    ·
     rcases List.mem_cons.1 h with rfl|h
     · simp
     · exact uR f _ _ x h
theorem pT (t:List Nd):eV t 0=aT5 t:=by simp[eV,aT5]
def jU (p:Po)(i:Nat):List (List aH):=[wPolicy,p.n,numW p.v]::(p.r.take i).flatMap iW
theorem sZ {p:Po}{i:Nat}(hi:i<p.r.length):jU p (i+1)=jU p i++iW p.r[i]:=by grind[jU,List.take_succ_eq_append_getElem]
theorem rK (p:Po):jU p p.r.length=mA p:=by simp[jU,mA]
theorem bH8 {r:Pr}(h:iL r=true):(iW r).length≤121:=by
 obtain⟨_,ht,_⟩:=lJ h;have h0:0<r.t.length:=ht.ne;have h1:=xE ht h0;have h2:=(iB ht h0).2.1;have h3:=ht.len;grind[pT,iW,List.length_cons]
theorem xJ {p:Po}(h: ∀r∈p.r,iL r=true): ∀i,i≤p.r.length→(jU p i).length≤1+121*i
 |0,_=>by simp[jU]
 |i+1,hi=>by
  have:=xJ h i (by omega);grind[bH8,List.getElem_mem,sZ,List.length_append]
theorem bA8 (p:Po): ∀x∈mA p,x.length<2^40:=by
 intro x hx;have:x.length≤5:=by
  simp only[mA]at hx;rcases List.mem_cons.1 hx with rfl|hx
  · simp
  ·
   obtain⟨r,_,hx⟩:=List.mem_flatMap.1 hx;simp only[iW]at hx;rcases List.mem_cons.1 hx with rfl|hx
   · simp
   · exact uR _ _ _ x hx
 omega
end Go.Pl
