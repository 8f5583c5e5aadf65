/- Part of a proof: walks of functions of the program, by contracts, and the rules they use. By an AI agent. -/
import Derived.Test.YthedbjfipmkpiaaGreatDoorHdV7
set_option maxRecDepth 10000
set_option maxHeartbeats 16000000
set_option linter.unusedSimpArgs false
set_option linter.unusedVariables false
set_option linter.defProp false
namespace Go.Proofs.YthedbjfipmkpiaaGreatDoor
open Go Go.Hl Go.Pl
def exK (ls:List (List aK))(kk N:Nat):List HV:=(ls.map fun l=>HV.c (lsC l)).set kk (.own N (ls.getD kk []).length)
theorem gO (ls:List (List aK))(I N:Nat):(exK ls I N).length=ls.length:=by simp[exK]
variable {I N:Nat}{ls:List (List aK)}
theorem kU (h:I<ls.length):mM (exK ls I N) I= .own N (ls.getD I []).length:=by simp[exK,mM,h]
variable {J:Nat}
theorem dL7 {i:Nat}(h:i<ls.length)(I:i≠J):mM (exK ls J N) i= .c (lsC ls[i]):=by
 simp[exK,mM,CK,h,U0 I]
theorem mZ (ob:Ob)(cl:List Nat): ∀l:List HV,HV.closeL ob cl l=l.map (fun v=>(v.close ob cl).norm)
 |[]=>rfl
 |x::l=>by rw[HV.closeL,mZ ob cl l];rfl
theorem lQ (M:Nat→Nat): ∀l:List HV,HV.renL M l=l.map (fun v=>v.ren M)
 |[]=>rfl
 |x::l=>by rw[HV.renL,lQ M l];rfl
theorem xU (M:Nat→Prop): ∀l:List HV,HV.menL M l↔ ∀v∈l,v.men M
 |[]=>by simp
 |x::l=>by rw[HV.menL,xU M l];simp
variable {M:Nat→Prop}
theorem gP (h:M N):HV.menL M (exK ls J N):=by
 rw[xU];intro v I;rcases M8 I with I|rfl
 · obtain⟨l,_,rfl⟩:=H0.1 I;simp
 simpa using h
variable {n:Nat}
theorem kI (h:1<n):HV.menL (fun x=>x<n) (exK ls I 1):=gP h
variable {ob:Ob}
theorem rW {cl:List Nat}(h:N∉cl):HV.closeL ob cl (exK ls I N)=exK ls I N:=by
 rw[mZ,exK,R8,Q4];congr 1
 · apply O6;intro l _;simp[lsC,denilL_str]
 simp[h]
theorem wD {M:Nat→Nat}:HV.renL M (exK ls I N)=exK ls I (M N):=by
 rw[lQ,exK,R8,Q4];congr 1
def osK (ls:List (List aK))(kk:Nat):List HO:=[.hrow 71 1 (exK ls kk 1),.row 9 1 ((ls.getD kk []).map .str)]
def EkP (ls:List (List aK))(kk:Nat)(r:HV)(os':List HO):Prop:= ∃u,r= .tup [.c u,.c (.int .i64 (jN ls))]∧os'=osK ls kk
theorem dL8 (ls:List (List aK))(I:Nat):lst (osK ls I)=fob [(0,.hrow 71 1 (exK ls I 1)),(1,.row 9 1 ((ls.getD I []).map .str))]:=by
 funext i
 match i with
 |0=>rfl
 |1=>rfl
 |i+2=>simp[lst,osK,fob,cZ,upd]
variable {r:HV}
theorem lI {U:Nat}(cl:List Nat)(u:CV)(e:Int)(J:0∉cl∧1∉cl)(hr:(r.close ob cl).norm= .tup [.c u,.c (.int .i64 e)])(h0:ob 0=some (.hrow 71 1 (exK ls U 1)))(h1:ob 1=some (.row 9 1 ((ls.getD U []).map .str)))(he:jN ls=e):
  gR 2 r ob (fun r ob'=> ∃I,ob'=lst I∧((osK ls U).length≤I.length∧I.length≤(osK ls U).length+4)∧EkP ls U r I):=by
 refine eM cl [] (.tup [.c u,.c (.int .i64 e)]) (osK ls U) (by rw[hr];rfl) (by simp) ⟨⟨by simp[gP],J.1,_,(by simpa[tau]using h0),?_⟩,⟨by simp,J.2,_,(by simpa[tau]using h1),rfl⟩,trivial⟩ rfl (by simp) (by simp) (by simp) ⟨u,by rw[he],rfl⟩;simp[rW J.2,wD,nU,tau]
theorem cP1 (ls:List (List aK))(kk:Nat)(bh:kk<ls.length)(h0:ls.length<2^40)(h1: ∀l∈ls,l.length<2^40):HGe Tryz.prog 35 [.own 0 ls.length] (osK ls kk) (EkP ls kk):=by
 refine bO (args:=[.own 0 ls.length]) Tryz.func35 rfl (by kernel_rfl) (dQ rfl (by simp[osK,cV,gP]) (by simp[osK])) (C7 rfl) ?_;show Hw _ _ 2 _ _ _ (lst _) 2;rw[dL8];have aa:=gO ls kk 1;refine R0 ?_;refine aC fun K hK=>?_;refine aC fun K hK=>aY (by kernel_rfl) ?_;simp only[sR,simprocAttr];have F:=aa;refine SGF ?_;refine aU (g:=none) rfl rfl fun K' I=>?_;simp only[sN,↓hopH.eq_def,sH,↓sP,sA,tyS,simprocAttr,aa];refine AX (I _ _ ?_);clear I K';refine SGF ?_;refine T2 (hK _ _ _ ?_);clear hK K;refine aJ (b:=decide ((1000:Int)<ls.length)) rfl (fun hb=>?_) (fun hb=>?_)
 · refine R0 ?_;refine aE (RT Tryz.results35 ?_);have hE:=nY (ls:=ls) (by simp at hb;omega);exact lI [] (.slc []) 3 (by simp) (by simp) rfl rfl hE
 refine aG ?_;refine T0 (hK _ _ _ ?_);clear hK K;have hn:ls.length≤1000:=by simp at hb;omega
 clear hb;refine R0 ?_;refine aC fun K hK=>?_;refine R0 ?_;refine aL ?_;refine eH 4 0 5 1 rfl rfl rfl rfl ?_;refine bB (α:={i:Nat//i≤ls.length∧ ∀x∈ls.take i,okL x=true}) (fun i=>(fin [(0,.own 0 ls.length),(4,.own 30 (dU (ls.take i.1)).length),(5,.c (.int .i64 i.1))],fob [(0,.hrow 71 1 (exK ls kk 1)),(1,.row 9 1 ((ls.getD kk []).map .str)),(30,.row 5 1 ((dU (ls.take i.1)).map cM))])) 100 (fun i=>ls.length-i.1) ⟨0,by omega,by simp⟩ (fG (by simp[kI])) ?_;rintro⟨i,hi,hk⟩;refine aC fun K hK=>?_;refine aC fun K hK=>aY (by kernel_rfl) ?_;simp only[sR,simprocAttr];iterate 2 refine SGF ?_
 refine aU (g:=none) rfl rfl fun K' I=>?_;simp only[sN,↓hopH.eq_def,sH,↓sP,sA,tyS,simprocAttr,aa];refine AX (I _ _ ?_);clear I K';refine SGF ?_;refine T2 (hK _ _ _ ?_);clear hK K;refine aJ (b:=decide ((i:Int)<ls.length)) rfl (fun hb=>?_) (fun hb=>?_)
 ·
  have U:i<ls.length:=by simpa using hb
  clear hb;have bf:=h1 ls[i] (B5 U);have bg: ∀l∈ls.take i,l≠[]:=fun l hl=>((eG l).1 (hk l hl)).1;have bk:=zN hk;rw[E1]at bk;have bl:=kX bg;have an:=rE U;obtain⟨l,hl⟩: ∃l,l=ls[i]:=⟨_,rfl⟩;rw[←hl]at an bf;have ai:(i:Int)<ls.length:=by omega
  refine aG ?_;refine T0 (hK _ _ _ ?_);clear hK K;refine aC fun K hK=>?_;refine aL ?_;refine aC fun K hK=>?_;by_cases ay:i=kk
  ·
   have ae:ls.getD kk []=l:=by rw[hl,←ay,B4,A9 U];rfl
   have az:ls[kk]?.getD []=l:=by rw[←List.getD_eq_getElem?_getD];exact ae
   have ab:mM (exK ls kk 1) i= .own 1 l.length:=by rw[ay,kU bh,ae]
   refine aC fun K hK=>aY (by kernel_rfl) ?_;simp only[sR,simprocAttr];have F:=aI @A1 (aI @A4 (aI U (aI aa (aI ab (aI ae (aI @A0.{0,0} @A6))))));iterate 2 refine SGF ?_
   refine aU (g:=none) rfl rfl fun K' I=>?_;simp only[sN,↓hopH.eq_def,sH,↓sP,sA,tyS,simprocAttr,A1,A4,U,aa,ab,ae,A0,A6];refine AX (I _ _ ?_);clear I K';refine aU (g:=none) rfl rfl fun K' I=>?_;simp only[sN,↓hopH.eq_def,sH,↓sP,sA,tyS,simprocAttr,A1,A4,U,aa,ab,ae,A0,A6];refine AX (I _ _ ?_);clear I K';iterate 2 refine SGF ?_
   refine T2 (hK _ _ _ ?_);clear hK K;refine aJ (b:=(l.length:Int)==0) rfl (fun hb=>?_) (fun hb=>?_)
   ·
    refine R0 ?_;refine aE (RT Tryz.results35 ?_);have hc:gZ l=1:=by rw[gZ,B1 (by simp at hb;simp[hb])]
    have hE:=fY hn U hk (by rw[←hl,okL,hc];rfl);rw[←hl,hc]at hE;exact lI [] (.slc []) 1 (by simp) (by simp) rfl (by rw[ae];rfl) hE
   refine aG ?_;refine T0 (hK _ _ _ ?_);clear hK K;refine aC fun K hK=>?_;have ao:l.length≠0:=by simp at hb;simp[hb]
   clear hb;refine aC fun K hK=>aY (by kernel_rfl) ?_;simp only[sR,simprocAttr];iterate 2 refine SGF ?_
   refine aU (g:=none) rfl rfl fun K' I=>?_;simp only[sN,↓hopH.eq_def,sH,↓sP,sA,tyS,simprocAttr,A1,A4,U,aa,ab,ae,A0,A6];refine AX (I _ _ ?_);clear I K';refine aU (g:=none) rfl rfl fun K' I=>?_;simp only[sN,↓hopH.eq_def,sH,↓sP,sA,tyS,simprocAttr,A1,A4,U,aa,ab,ae,A0,A6];refine AX (I _ _ ?_);clear I K';iterate 2 refine SGF ?_
   refine T2 (hK _ _ _ ?_);clear hK K;refine aJ (b:=decide ((120:Int)<l.length)) rfl (fun hb=>?_) (fun hb=>?_)
   ·
    refine R0 ?_;refine aE (RT Tryz.results35 ?_);have hc:gZ l=3:=by rw[gZ,A7 ao,B1 (by simp at hb;omega)]
    have hE:=fY hn U hk (by rw[←hl,okL,hc];rfl);rw[←hl,hc]at hE;exact lI [] (.slc []) 3 (by simp) (by simp) rfl (by rw[ae];rfl) hE
   refine aG ?_;refine T0 (hK _ _ _ ?_);clear hK K;refine aC fun K hK=>?_;have aw:l.length≤120:=by simp at hb;omega
   clear hb;refine R0 ?_;refine aL ?_;refine bB (α:={k:Nat//k≤l.length∧ ∀x∈l.take k,x.length≤32768}) (fun k=>(fin [(0,.own 0 ls.length),(4,.own 30 (dU (ls.take i)++fR (l.take k.1)).length),(5,.c (.int .i64 i)),(6,.c (.int .i64 k.1))],fob [(0,.hrow 71 1 (exK ls kk 1)),(1,.row 9 1 ((ls.getD kk []).map .str)),(30,.row 5 1 ((dU (ls.take i)++fR (l.take k.1)).map cM))])) 200 (fun k=>l.length-k.1) ⟨0,by omega,by simp⟩ (fG (by simp[kI,az])) ?_;rintro⟨k,bj,aj⟩;have ax:=uV (l.take k) aj;rw[E1]at ax;refine aC fun K hK=>?_;refine aC fun K hK=>aY (by kernel_rfl) ?_;simp only[sR,simprocAttr];have F:=aI @A1 (aI ai (aI aa (aI ab (aI ae (aI @A0.{0,0} @A6)))));iterate 3 refine SGF ?_
   refine aU (g:=none) rfl rfl fun K' I=>?_;simp only[sN,↓hopH.eq_def,sH,↓sP,sA,tyS,simprocAttr,A1,ai,aa,ab,ae,A0,A6];refine AX (I _ _ ?_);clear I K';refine aU (g:=none) rfl rfl fun K' I=>?_;simp only[sN,↓hopH.eq_def,sH,↓sP,sA,tyS,simprocAttr,A1,ai,aa,ab,ae,A0,A6];refine AX (I _ _ ?_);clear I K';iterate 2 refine SGF ?_
   refine T2 (hK _ _ _ ?_);clear hK K;refine aJ (b:=decide ((k:Int)<l.length)) rfl (fun hb=>?_) (fun hb=>?_)
   ·
    have J:k<l.length:=by simpa using hb
    clear hb;refine aG ?_;refine T0 (hK _ _ _ ?_);clear hK K;refine aC fun K hK=>?_;refine aL ?_;refine aC fun K hK=>?_;refine aC fun K hK=>aY (by kernel_rfl) ?_;simp only[sR,simprocAttr];have F:=aI @A1 (aI @A4 (aI U (aI J (aI (nM J) (aI aa (aI ab (aI ae (aI @A0.{0,0} @A6))))))));iterate 2 refine SGF ?_
    refine aU (g:=none) rfl rfl fun K' I=>?_;simp only[sN,↓hopH.eq_def,sH,↓sP,sA,tyS,simprocAttr,A1,A4,U,J,aW J,aa,ab,ae,A0,A6];refine AX (I _ _ ?_);clear I K';refine aU (g:=none) rfl rfl fun K' I=>?_;simp only[sN,↓hopH.eq_def,sH,↓sP,sA,tyS,simprocAttr,A1,A4,U,J,aW J,aa,ab,ae,A0,A6];refine AX (I _ _ ?_);clear I K';iterate 5 refine SGF ?_
    refine T2 (hK _ _ _ ?_);clear hK K;refine aJ (b:=decide ((32768:Int)<l[k].length)) rfl (fun hb=>?_) (fun hb=>?_)
    ·
     refine R0 ?_;refine aE (RT Tryz.results35 ?_);have hc:gZ l=3:=by rw[gZ,A7 ao,A7 (by omega),B1];simp only[R4,C4];exact⟨_,B5 J,by simp at hb;omega⟩
     have hE:=fY hn U hk (by rw[←hl,okL,hc];rfl);rw[←hl,hc]at hE;exact lI [] (.slc []) 3 (by simp) (by simp) rfl (by rw[ae];rfl) hE
    refine aG ?_;refine T0 (hK _ _ _ ?_);clear hK K;refine aC fun K hK=>?_;have ar:l[k].length≤32768:=by simp at hb;omega
    clear hb;have bc:=mA l[k];have bb:=dA l[k];have ba:=nW l[k];have af:0<(gY l[k]).length:=by omega
    have ak:=nX J;have ag:(dU (ls.take i)).length+(fR (l.take k)).length+(gY l[k]).length≤140737488355328:=by omega
    have ad:(dU (ls.take i)).length+(fR (l.take k)).length+1+(gY l[k]).length≤140737488355328:=by omega
    refine R0 ?_;refine aJ (b:=decide ((0:Int)<k)) rfl (fun hb=>?_) (fun hb=>?_)
    ·
     refine Rg ?_;have F:=aI @A3.{0} @A0.{0,0};refine AU ?_;refine T2 (hK _ _ _ ?_);clear hK K;refine aY (by kernel_rfl) ?_;simp only[sR,simprocAttr];iterate 3 refine SG0 ?_ (e:=fun _ h_=>by simp only[sH,↓sP,sA,tyS,simprocAttr,A1,A4,U,J,aW J,A3,af,ag,ad,aa,ab,ae,A0,A6];exact AX h_)
     refine aU (g:=none) rfl rfl fun K' I=>?_;simp only[sN,↓hopH.eq_def,sH,↓sP,sA,tyS,simprocAttr,A1,A4,U,J,aW J,A3,af,ag,ad,aa,ab,ae,A0,A6];refine AX (I _ _ ?_);clear I K';refine aU (g:=none) rfl rfl fun K' I=>?_;simp only[sN,↓hopH.eq_def,sH,↓sP,sA,tyS,simprocAttr,A1,A4,U,J,aW J,A3,af,ag,ad,aa,ab,ae,A0,A6];refine AX (I _ _ ?_);clear I K';iterate 3 refine SG0 ?_ (e:=fun _ h_=>by simp only[sH,↓sP,sA,tyS,simprocAttr,A1,A4,U,J,aW J,A3,af,ag,ad,aa,ab,ae,A0,A6];exact AX h_)
     refine cE (g:=none) rfl rfl fun K' I=>?_;simp only[sH,↓sP,sA,tyS,simprocAttr,A1,A4,U,J,aW J,A3,af,ag,ad,aa,ab,ae,A0,A6];refine C1 (lB l[k] (by omega)) ?_;rintro u rfl;refine AX (I _ _ ?_);clear I K';iterate 2 refine SG0 ?_ (e:=fun _ h_=>by simp only[sH,↓sP,sA,tyS,simprocAttr,A1,A4,U,J,aW J,A3,af,ag,ad,aa,ab,ae,A0,A6];exact AX h_)
     refine T2 (hK _ _ _ ?_);clear hK K;refine aM (by kernel_rfl) ?_;refine TQ (cW k) ?_;have ah:k≠0:=by simp at hb;omega
     refine⟨⟨k+1,J,fJ (p:=fun x=>x.length≤32768) J ar aj⟩,bA (by omega) ?_ ?_,?_⟩
     · rw[ak,A7 ah];simp;omega
     · rw[ak,A7 ah];simp only[C5,←List.append_assoc];exact⟨rfl,by omega,kI (by omega),(by rw[ae];rfl),by omega,trivial,rfl,by omega,trivial,trivial⟩
     show l.length-(k+1)<l.length-k;omega
    refine aG ?_;refine T0 (hK _ _ _ ?_);clear hK K;refine aY (by kernel_rfl) ?_;simp only[sR,simprocAttr];iterate 3 refine SG0 ?_ (e:=fun _ h_=>by simp only[sH,↓sP,sA,tyS,simprocAttr,A1,A4,U,J,aW J,A3,af,ag,ad,aa,ab,ae,A0,A6];exact AX h_)
    refine aU (g:=none) rfl rfl fun K' I=>?_;simp only[sN,↓hopH.eq_def,sH,↓sP,sA,tyS,simprocAttr,A1,A4,U,J,aW J,A3,af,ag,ad,aa,ab,ae,A0,A6];refine AX (I _ _ ?_);clear I K';refine aU (g:=none) rfl rfl fun K' I=>?_;simp only[sN,↓hopH.eq_def,sH,↓sP,sA,tyS,simprocAttr,A1,A4,U,J,aW J,A3,af,ag,ad,aa,ab,ae,A0,A6];refine AX (I _ _ ?_);clear I K';iterate 3 refine SG0 ?_ (e:=fun _ h_=>by simp only[sH,↓sP,sA,tyS,simprocAttr,A1,A4,U,J,aW J,A3,af,ag,ad,aa,ab,ae,A0,A6];exact AX h_)
    refine cE (g:=none) rfl rfl fun K' I=>?_;simp only[sH,↓sP,sA,tyS,simprocAttr,A1,A4,U,J,aW J,A3,af,ag,ad,aa,ab,ae,A0,A6];refine C1 (lB l[k] (by omega)) ?_;rintro u rfl;refine AX (I _ _ ?_);clear I K';iterate 2 refine SG0 ?_ (e:=fun _ h_=>by simp only[sH,↓sP,sA,tyS,simprocAttr,A1,A4,U,J,aW J,A3,af,ag,ad,aa,ab,ae,A0,A6];exact AX h_)
    refine T2 (hK _ _ _ ?_);clear hK K;refine aM (by kernel_rfl) ?_;refine TQ (cW k) ?_;have ah:k=0:=by simp at hb;omega
    refine⟨⟨k+1,J,fJ (p:=fun x=>x.length≤32768) J ar aj⟩,bA (by omega) ?_ ?_,?_⟩
    · rw[ak,B1 ah];simp;omega
    · rw[ak,B1 ah,J1];simp only[C5,←List.append_assoc];exact⟨rfl,by omega,kI (by omega),(by rw[ae];rfl),by omega,trivial,rfl,by omega,trivial,trivial⟩
    show l.length-(k+1)<l.length-k;omega
   have au:k=l.length:=by simp at hb;omega
   subst au;clear hb;rw[C6]at*;have aq:okL l=true:=(eG l).2 ⟨fun h=>ao (by rw[h];rfl),aw,aj⟩;refine aV (T3 ?_);clear hK K;refine AX (hK _ _ _ ?_);clear hK K;refine Rg ?_;have F:=aI @A3.{0} (aI @A0.{0,0} @C6.{0});refine AU ?_;refine T2 (hK _ _ _ ?_);clear hK K;refine aM (by kernel_rfl) ?_;refine TQ (cW i) ?_;refine⟨⟨i+1,U,fJ (p:=fun x=>okL x=true) U (by rw[←hl];exact aq) hk⟩,bA (by omega) ?_ ?_,?_⟩
   · rw[an,rX];simp;try omega
   · rw[an,rX];simp only[C5,←List.append_assoc,C6];exact⟨rfl,by omega,kI (by omega),(by rw[ae];rfl),by omega,trivial,rfl,by omega,trivial,trivial⟩
   show ls.length-(i+1)<ls.length-i;omega
  have ab:mM (exK ls kk 1) i= .c (.slc (l.map .str)):=by rw[dL7 U ay,←hl];rfl
  refine aC fun K hK=>aY (by kernel_rfl) ?_;simp only[sR,simprocAttr];have F:=aI @A1 (aI @A4 (aI U (aI aa (aI ab (aI @A0.{0,0} @A6)))));iterate 2 refine SGF ?_
  refine aU (g:=none) rfl rfl fun K' I=>?_;simp only[sN,↓hopH.eq_def,sH,↓sP,sA,tyS,simprocAttr,A1,A4,U,aa,ab,A0,A6];refine AX (I _ _ ?_);clear I K';refine aU (g:=none) rfl rfl fun K' I=>?_;simp only[sN,↓hopH.eq_def,sH,↓sP,sA,tyS,simprocAttr,A1,A4,U,aa,ab,A0,A6];refine AX (I _ _ ?_);clear I K';iterate 2 refine SGF ?_
  refine T2 (hK _ _ _ ?_);clear hK K;refine aJ (b:=(l.length:Int)==0) rfl (fun hb=>?_) (fun hb=>?_)
  ·
   refine R0 ?_;refine aE (RT Tryz.results35 ?_);have hc:gZ l=1:=by rw[gZ,B1 (by simp at hb;simp[hb])]
   have hE:=fY hn U hk (by rw[←hl,okL,hc];rfl);rw[←hl,hc]at hE;exact lI [] (.slc []) 1 (by simp) (by simp) rfl rfl hE
  refine aG ?_;refine T0 (hK _ _ _ ?_);clear hK K;refine aC fun K hK=>?_;have ao:l.length≠0:=by simp at hb;simp[hb]
  clear hb;refine aC fun K hK=>aY (by kernel_rfl) ?_;simp only[sR,simprocAttr];iterate 2 refine SGF ?_
  refine aU (g:=none) rfl rfl fun K' I=>?_;simp only[sN,↓hopH.eq_def,sH,↓sP,sA,tyS,simprocAttr,A1,A4,U,aa,ab,A0,A6];refine AX (I _ _ ?_);clear I K';refine aU (g:=none) rfl rfl fun K' I=>?_;simp only[sN,↓hopH.eq_def,sH,↓sP,sA,tyS,simprocAttr,A1,A4,U,aa,ab,A0,A6];refine AX (I _ _ ?_);clear I K';iterate 2 refine SGF ?_
  refine T2 (hK _ _ _ ?_);clear hK K;refine aJ (b:=decide ((120:Int)<l.length)) rfl (fun hb=>?_) (fun hb=>?_)
  ·
   refine R0 ?_;refine aE (RT Tryz.results35 ?_);have hc:gZ l=3:=by rw[gZ,A7 ao,B1 (by simp at hb;omega)]
   have hE:=fY hn U hk (by rw[←hl,okL,hc];rfl);rw[←hl,hc]at hE;exact lI [] (.slc []) 3 (by simp) (by simp) rfl rfl hE
  refine aG ?_;refine T0 (hK _ _ _ ?_);clear hK K;refine aC fun K hK=>?_;have aw:l.length≤120:=by simp at hb;omega
  clear hb;refine R0 ?_;refine aL ?_;refine bB (α:={k:Nat//k≤l.length∧ ∀x∈l.take k,x.length≤32768}) (fun k=>(fin [(0,.own 0 ls.length),(4,.own 30 (dU (ls.take i)++fR (l.take k.1)).length),(5,.c (.int .i64 i)),(6,.c (.int .i64 k.1))],fob [(0,.hrow 71 1 (exK ls kk 1)),(1,.row 9 1 ((ls.getD kk []).map .str)),(30,.row 5 1 ((dU (ls.take i)++fR (l.take k.1)).map cM))])) 200 (fun k=>l.length-k.1) ⟨0,by omega,by simp⟩ (fG (by simp[kI])) ?_;rintro⟨k,bj,aj⟩;have ax:=uV (l.take k) aj;rw[E1]at ax;refine aC fun K hK=>?_;refine aC fun K hK=>aY (by kernel_rfl) ?_;simp only[sR,simprocAttr];have F:=aI @A1 (aI ai (aI aa (aI ab (aI @A0.{0,0} @A6))));iterate 3 refine SGF ?_
  refine aU (g:=none) rfl rfl fun K' I=>?_;simp only[sN,↓hopH.eq_def,sH,↓sP,sA,tyS,simprocAttr,A1,ai,aa,ab,A0,A6];refine AX (I _ _ ?_);clear I K';refine aU (g:=none) rfl rfl fun K' I=>?_;simp only[sN,↓hopH.eq_def,sH,↓sP,sA,tyS,simprocAttr,A1,ai,aa,ab,A0,A6];refine AX (I _ _ ?_);clear I K';iterate 2 refine SGF ?_
  refine T2 (hK _ _ _ ?_);clear hK K;refine aJ (b:=decide ((k:Int)<l.length)) rfl (fun hb=>?_) (fun hb=>?_)
  ·
   have J:k<l.length:=by simpa using hb
   clear hb;refine aG ?_;refine T0 (hK _ _ _ ?_);clear hK K;refine aC fun K hK=>?_;refine aL ?_;refine aC fun K hK=>?_;refine aC fun K hK=>aY (by kernel_rfl) ?_;simp only[sR,simprocAttr];have F:=aI @A1 (aI @A4 (aI U (aI J (aI (nM J) (aI aa (aI ab (aI @A0.{0,0} @A6)))))));iterate 2 refine SGF ?_
   refine aU (g:=none) rfl rfl fun K' I=>?_;simp only[sN,↓hopH.eq_def,sH,↓sP,sA,tyS,simprocAttr,A1,A4,U,J,aW J,aa,ab,A0,A6];refine AX (I _ _ ?_);clear I K';refine aU (g:=none) rfl rfl fun K' I=>?_;simp only[sN,↓hopH.eq_def,sH,↓sP,sA,tyS,simprocAttr,A1,A4,U,J,aW J,aa,ab,A0,A6];refine AX (I _ _ ?_);clear I K';iterate 5 refine SGF ?_
   refine T2 (hK _ _ _ ?_);clear hK K;refine aJ (b:=decide ((32768:Int)<l[k].length)) rfl (fun hb=>?_) (fun hb=>?_)
   ·
    refine R0 ?_;refine aE (RT Tryz.results35 ?_);have hc:gZ l=3:=by rw[gZ,A7 ao,A7 (by omega),B1];simp only[R4,C4];exact⟨_,B5 J,by simp at hb;omega⟩
    have hE:=fY hn U hk (by rw[←hl,okL,hc];rfl);rw[←hl,hc]at hE;exact lI [] (.slc []) 3 (by simp) (by simp) rfl rfl hE
   refine aG ?_;refine T0 (hK _ _ _ ?_);clear hK K;refine aC fun K hK=>?_;have ar:l[k].length≤32768:=by simp at hb;omega
   clear hb;have bc:=mA l[k];have bb:=dA l[k];have ba:=nW l[k];have af:0<(gY l[k]).length:=by omega
   have ak:=nX J;have ag:(dU (ls.take i)).length+(fR (l.take k)).length+(gY l[k]).length≤140737488355328:=by omega
   have ad:(dU (ls.take i)).length+(fR (l.take k)).length+1+(gY l[k]).length≤140737488355328:=by omega
   refine R0 ?_;refine aJ (b:=decide ((0:Int)<k)) rfl (fun hb=>?_) (fun hb=>?_)
   ·
    refine Rg ?_;have F:=aI @A3.{0} @A0.{0,0};refine AU ?_;refine T2 (hK _ _ _ ?_);clear hK K;refine aY (by kernel_rfl) ?_;simp only[sR,simprocAttr];iterate 3 refine SG0 ?_ (e:=fun _ h_=>by simp only[sH,↓sP,sA,tyS,simprocAttr,A1,A4,U,J,aW J,A3,af,ag,ad,aa,ab,A0,A6];exact AX h_)
    refine aU (g:=none) rfl rfl fun K' I=>?_;simp only[sN,↓hopH.eq_def,sH,↓sP,sA,tyS,simprocAttr,A1,A4,U,J,aW J,A3,af,ag,ad,aa,ab,A0,A6];refine AX (I _ _ ?_);clear I K';refine aU (g:=none) rfl rfl fun K' I=>?_;simp only[sN,↓hopH.eq_def,sH,↓sP,sA,tyS,simprocAttr,A1,A4,U,J,aW J,A3,af,ag,ad,aa,ab,A0,A6];refine AX (I _ _ ?_);clear I K';iterate 3 refine SG0 ?_ (e:=fun _ h_=>by simp only[sH,↓sP,sA,tyS,simprocAttr,A1,A4,U,J,aW J,A3,af,ag,ad,aa,ab,A0,A6];exact AX h_)
    refine cE (g:=none) rfl rfl fun K' I=>?_;simp only[sH,↓sP,sA,tyS,simprocAttr,A1,A4,U,J,aW J,A3,af,ag,ad,aa,ab,A0,A6];refine C1 (lB l[k] (by omega)) ?_;rintro u rfl;refine AX (I _ _ ?_);clear I K';iterate 2 refine SG0 ?_ (e:=fun _ h_=>by simp only[sH,↓sP,sA,tyS,simprocAttr,A1,A4,U,J,aW J,A3,af,ag,ad,aa,ab,A0,A6];exact AX h_)
    refine T2 (hK _ _ _ ?_);clear hK K;refine aM (by kernel_rfl) ?_;refine TQ (cW k) ?_;have ah:k≠0:=by simp at hb;omega
    refine⟨⟨k+1,J,fJ (p:=fun x=>x.length≤32768) J ar aj⟩,bA (by omega) ?_ ?_,?_⟩
    · rw[ak,A7 ah];simp;omega
    · rw[ak,A7 ah];simp only[C5,←List.append_assoc];exact⟨rfl,by omega,kI (by omega),rfl,by omega,trivial,rfl,by omega,trivial,trivial⟩
    show l.length-(k+1)<l.length-k;omega
   refine aG ?_;refine T0 (hK _ _ _ ?_);clear hK K;refine aY (by kernel_rfl) ?_;simp only[sR,simprocAttr];iterate 3 refine SG0 ?_ (e:=fun _ h_=>by simp only[sH,↓sP,sA,tyS,simprocAttr,A1,A4,U,J,aW J,A3,af,ag,ad,aa,ab,A0,A6];exact AX h_)
   refine aU (g:=none) rfl rfl fun K' I=>?_;simp only[sN,↓hopH.eq_def,sH,↓sP,sA,tyS,simprocAttr,A1,A4,U,J,aW J,A3,af,ag,ad,aa,ab,A0,A6];refine AX (I _ _ ?_);clear I K';refine aU (g:=none) rfl rfl fun K' I=>?_;simp only[sN,↓hopH.eq_def,sH,↓sP,sA,tyS,simprocAttr,A1,A4,U,J,aW J,A3,af,ag,ad,aa,ab,A0,A6];refine AX (I _ _ ?_);clear I K';iterate 3 refine SG0 ?_ (e:=fun _ h_=>by simp only[sH,↓sP,sA,tyS,simprocAttr,A1,A4,U,J,aW J,A3,af,ag,ad,aa,ab,A0,A6];exact AX h_)
   refine cE (g:=none) rfl rfl fun K' I=>?_;simp only[sH,↓sP,sA,tyS,simprocAttr,A1,A4,U,J,aW J,A3,af,ag,ad,aa,ab,A0,A6];refine C1 (lB l[k] (by omega)) ?_;rintro u rfl;refine AX (I _ _ ?_);clear I K';iterate 2 refine SG0 ?_ (e:=fun _ h_=>by simp only[sH,↓sP,sA,tyS,simprocAttr,A1,A4,U,J,aW J,A3,af,ag,ad,aa,ab,A0,A6];exact AX h_)
   refine T2 (hK _ _ _ ?_);clear hK K;refine aM (by kernel_rfl) ?_;refine TQ (cW k) ?_;have ah:k=0:=by simp at hb;omega
   refine⟨⟨k+1,J,fJ (p:=fun x=>x.length≤32768) J ar aj⟩,bA (by omega) ?_ ?_,?_⟩
   · rw[ak,B1 ah];simp;omega
   · rw[ak,B1 ah,J1];simp only[C5,←List.append_assoc];exact⟨rfl,by omega,kI (by omega),rfl,by omega,trivial,rfl,by omega,trivial,trivial⟩
   show l.length-(k+1)<l.length-k;omega
  have au:k=l.length:=by simp at hb;omega
  subst au;clear hb;rw[C6]at*;have aq:okL l=true:=(eG l).2 ⟨fun h=>ao (by rw[h];rfl),aw,aj⟩;refine aV (T3 ?_);clear hK K;refine AX (hK _ _ _ ?_);clear hK K;refine Rg ?_;have F:=aI @A3.{0} (aI @A0.{0,0} @C6.{0});refine AU ?_;refine T2 (hK _ _ _ ?_);clear hK K;refine aM (by kernel_rfl) ?_;refine TQ (cW i) ?_;refine⟨⟨i+1,U,fJ (p:=fun x=>okL x=true) U (by rw[←hl];exact aq) hk⟩,bA (by omega) ?_ ?_,?_⟩
  · rw[an,rX];simp;try omega
  · rw[an,rX];simp only[C5,←List.append_assoc,C6];exact⟨rfl,by omega,kI (by omega),rfl,by omega,trivial,rfl,by omega,trivial,trivial⟩
  show ls.length-(i+1)<ls.length-i;omega
 have bd:i=ls.length:=by simp at hb;omega
 subst bd;clear hb;rw[C6]at hk;have hE:=oY hn hk;refine aV (T3 ?_);clear hK K;refine AX (hK _ _ _ ?_);clear hK K;refine aC fun K hK=>?_;have F:=aI @C6.{0} @A0.{0,0};refine RF ?_;refine aJ (b:=decide ((262144:Int)<(dU ls).length)) rfl (fun hb=>?_) (fun hb=>?_)
 · refine R0 ?_;refine aE (RT Tryz.results35 ?_);rw[B1 (by simp at hb;omega)]at hE;exact lI [] (.slc []) 3 (by simp) (by simp) rfl rfl hE
 refine aG ?_;refine T0 (hK _ _ _ ?_);clear hK K;refine R0 ?_;refine aE (RT Tryz.results35 ?_);rw[A7 (by simp at hb;omega)]at hE;refine lI [30] (.slc ((dU ls).map cM)) 0 (by simp) ?_ rfl rfl hE;simp[C8,bT]
theorem cY8 (b:aK)(hl:b.length<2^40):fH Tryz.prog 33 [.slc (b.map u8)] (fun u v=>u= .slc ((gT b).map lsC)∧v= .int .i64 (eT b)):=by
 refine FW Tryz.func33 ?_;refine R0 ?_;refine aC fun K I=>?_;have F:=@A0.{0,0};refine RF ?_;refine aJ (b:=decide ((262144:Int)<b.length)) rfl (fun J=>?_) (fun J=>?_)
 ·
  refine R0 ?_;refine aE (RT Tryz.results33 ?_);have hE:eT b=3:=by unfold eT;rw[B1 (by simp at J;omega)]
  refine aO [] (.slc []) (.int .i64 3) ?_ ⟨by simp only[gT,hE];rfl,by rw[hE]⟩;simp
 refine aG ?_;refine T0 (I _ _ _ ?_);clear I K;refine aC fun K I=>?_;have hle: ¬262144<b.length:=by simp at J;omega
 clear J;refine RF ?_;refine aJ (b:=(b.length:Int)==0) rfl (fun J=>?_) (fun J=>?_)
 ·
  refine R0 ?_;refine aE (RT Tryz.results33 ?_);have bd:b=[]:=by simpa using J
  subst bd;refine aO [] (.slc []) (.int .i64 0) ?_ ⟨rfl,rfl⟩;simp
 refine aG ?_;refine T0 (I _ _ _ ?_);clear I K;refine aC fun K I=>?_;have aj:b≠[]:=by rintro rfl;simp at J
 clear J;have bn:0<b.length:=J8.2 aj;have ai:b.length-1<b.length:=by omega
 have au:IntKind.i64.wrap ((b.length:Int)-1)=((b.length-1:Nat):Int):=by rw[B0 _ (by omega)];omega
 refine aC fun K I=>Rg ?_;have F:=aI @A0.{0,0} (aI au (aI @A1 (aI @A4 (aI ai (aI (nM ai) @u8.eq_1)))));iterate 7 refine SF ?_
 refine T2 (I _ _ _ ?_);clear I K;refine aJ (b:=((b[b.length-1]).toNat:Int) !=10) rfl (fun J=>?_) (fun J=>?_)
 ·
  refine R0 ?_;refine aE (RT Tryz.results33 ?_);have hE:eT b=2:=aN0 hle aj (by
   intro h;rw[B4,A9 ai]at h;simp only[E9]at h;rw[h]at J;simp at J)
  refine aO [] (.slc []) (.int .i64 2) ?_ ⟨by simp only[gT,hE];rfl,by rw[hE]⟩;simp
 refine aG ?_;refine T0 (I _ _ _ ?_);clear I K;have ax:b[b.length-1]=10:=by
  simp only[U8]at J;exact P7.1 (by show b[b.length-1].toNat=10;omega)
 clear J;obtain⟨m,hm⟩: ∃m,b=m++[10]:=⟨b.dropLast,by rw[←ax,←List.getLast_eq_getElem aj];exact(Y0 aj).symm⟩;have bl:List.take (b.length-1) (b.map u8)=m.map u8:=by rw[hm];simp
 have ba:jJ (m.map u8)=some m:=bytesC_map m;have br:m.length+1=b.length:=by rw[hm];simp
 have bo:(m++[(10:UInt8)]).length=m.length+1:=by simp
 rw[hm]at hle;refine aC fun K I=>Rg ?_;have F:=aI @A0.{0,0} (aI au (aI @A1 (aI @H1 (aI @Nat.sub_le (aI @jB (aI @G2.{0} (aI @H6 (aI bl ba))))))));iterate 6 refine SF ?_
 refine HS rfl rfl fun K' U=>T6 ?_;refine C2 (qR m 10 (by omega)) ?_;rintro u rfl;refine AX (U _ _ ?_);clear U K';refine SF ?_;refine T2 (I _ _ _ ?_);clear I K;obtain⟨rows,aa⟩: ∃rows,rows=aQ 10 m:=⟨_,rfl⟩;have bm:=dN 10 m;have ao:=jO 10 m;rw[←aa]at bm ao⊢;have bh:rows.mapM unL=none→eT b=2:=fun h=>by rw[hm];exact aN1 hle (by rw[←aa];exact h)
 refine R0 ?_;refine aC fun K I=>?_;refine R0 ?_;refine aL ?_;refine eH 5 0 71 1 rfl rfl rfl rfl ?_;refine bB (α:={i:Nat//i≤rows.length∧ ∀r∈rows.take i,(unL r).isSome=true}) (fun i=>(fin [(4,.c (.slc (rows.map .str))),(5,.own 100 i.1),(6,.c (.int .i64 i.1))],fob [(100,.row 71 1 ((lsT rows i.1).map lsC))])) 200 (fun i=>rows.length-i.1) ⟨0,by omega,by simp⟩ (by simp only[lsT,P5,F2];exact fF) ?_;rintro⟨i,hi,ay⟩;simp only;have ag:=aE0 hi;refine aC fun K I=>?_;refine aC fun K I=>Rg ?_;have F:=@A0.{0,0};iterate 4 refine SF ?_
 refine T2 (I _ _ _ ?_);clear I K;refine aJ (b:=decide ((i:Int)<rows.length)) rfl (fun J=>?_) (fun J=>?_)
 ·
  have ad:i<rows.length:=by simpa using J
  clear J;obtain⟨r,hr⟩: ∃r,r=rows[i]:=⟨_,rfl⟩;have ak:r∈rows:=by rw[hr];exact B5 ad
  have bp:=ao r ak;have bk:nth (rows.map CV.str) i= .str r:=by rw[aW ad,hr]
  refine aG ?_;refine T0 (I _ _ _ ?_);clear I K;refine aC fun K I=>?_;refine aL ?_;refine aC fun K I=>Rg ?_;have F:=aI @A1 (aI @A4 (aI ad (aI bk @A0.{0,0})));iterate 4 refine SF ?_
  refine HS rfl rfl fun K' U=>T6 ?_;refine C2 (qR r 32 (by omega)) ?_;rintro u rfl;refine AX (U _ _ ?_);clear U K';refine SF ?_;refine T2 (I _ _ _ ?_);clear I K;refine R0 ?_;refine aC fun K I=>?_;refine R0 ?_;refine aL ?_;refine eH 8 0 9 1 rfl rfl rfl rfl ?_;refine bB (α:={k:Nat//k≤(aQ 32 r).length∧aI9 r k}) (fun k=>(fin [(4,.c (.slc (rows.map .str))),(5,.own 100 i),(6,.c (.int .i64 i)),(7,.c (.slc ((aQ 32 r).map .str))),(8,.own 248 k.1),(9,.c (.int .i64 k.1))],fob [(100,.row 71 1 ((lsT rows i).map lsC)),(248,.row 9 1 ((wsT r k.1).map .str))])) 300 (fun k=>(aQ 32 r).length-k.1) ⟨0,by omega,fun p hp=>by simp at hp⟩ (by simp only[wsT,P5,F2];exact fF) ?_;rintro⟨k,hk,az⟩;simp only;have ae:=mC hk;have bt:=dN 32 r;refine aC fun K I=>?_;refine aC fun K I=>Rg ?_;have F:=@A0.{0,0};iterate 4 refine SF ?_
  refine T2 (I _ _ _ ?_);clear I K;refine aJ (b:=decide ((k:Int)<(aQ 32 r).length)) rfl (fun J=>?_) (fun J=>?_)
  ·
   have ab:k<(aQ 32 r).length:=by simpa using J
   clear J;obtain⟨p,hp⟩: ∃p,p=(aQ 32 r)[k]:=⟨_,rfl⟩;have bq:=jO 32 r p (by rw[hp];exact B5 ab);have bf:nth ((aQ 32 r).map CV.str) k= .str p:=by rw[aW ab,hp]
   refine aG ?_;refine T0 (I _ _ _ ?_);clear I K;refine aC fun K I=>?_;refine aL ?_;refine aC fun K I=>Rg ?_;have F:=aI @A1 (aI @A4 (aI ab (aI bf @A0.{0,0})));iterate 4 refine SF ?_
   refine HS rfl rfl fun K' U=>T6 ?_;refine D1 (aV6 p (by omega)) ?_;rintro u v ⟨rfl,rfl⟩;refine AX (U _ _ ?_);clear U K';iterate 5 refine SF ?_
   refine T2 (I _ _ _ ?_);clear I K;refine aC fun K I=>?_;refine R0 ?_;refine aJ (b:=!(unW p).isSome) rfl (fun J=>?_) (fun J=>?_)
   · refine R0 ?_;refine aE (RT Tryz.results33 ?_);have hE:=bh (lN ak (aE1 ab (by rw[←hp];simpa using J)));refine aO [] (.slc []) (.int .i64 2) ?_ ⟨by simp only[gT,hE];rfl,by rw[hE]⟩;simp
   refine aG ?_;refine T0 (I _ _ _ ?_);clear I K;refine Rg ?_;have F:=aI @A3.{0} (aI @A0.{0,0} ae);iterate 5 refine SF ?_
   refine T2 (I _ _ _ ?_);clear I K;refine aM (by kernel_rfl) ?_;refine TQ (cW k) ?_;refine⟨⟨k+1,ab,rG ab az (by rw[←hp];simpa using J)⟩,bA (by omega) ?_ ?_,?_⟩
   · simp
   · simp only[uZ ab,←hp,jQ,C5];exact⟨rfl,by omega,trivial,rfl,by omega,trivial,trivial⟩
   show(aQ 32 r).length-(k+1)<(aQ 32 r).length-k;omega
  refine aV (T3 ?_);clear I K;refine AX (I _ _ _ ?_);clear I K;have bc:k=(aQ 32 r).length:=by simp at J;omega
  subst bc;have an:=aT3 az;obtain⟨ws,bb⟩: ∃ws,ws=wsT r (aQ 32 r).length:=⟨_,rfl⟩;rw[←bb]at an ae⊢;rw[←ae];refine bW [248] (aZ (fr2:=fin [(4,.c (.slc (rows.map .str))),(5,.own 100 i),(6,.c (.int .i64 i)),(8,.c (.slc (ws.map .str)))]) (ob2:=fob [(100,.row 71 1 ((lsT rows i).map lsC))]) (nx2:=400) (bA (by omega) (by simp[denilL_str]) (by simp)) ?_);refine Rg ?_;have F:=aI @A3.{0} (aI @A0.{0,0} ag);iterate 5 refine SF ?_
  refine T2 (I _ _ _ ?_);clear I K;refine aM (by kernel_rfl) ?_;refine TQ (cW i) ?_;have ar: ∀x∈rows.take (i+1),(unL x).isSome=true:=by
   intro x hx;rw[A5 ad,D6,E5]at hx;rcases hx with hx|rfl
   · exact ay x hx
   rw[←hr,an];rfl
  refine⟨⟨i+1,ad,ar⟩,bA (by omega) ?_ ?_,?_⟩
  · simp
  · simp only[vC ad,←hr,an,jQ,C5,E9];exact⟨rfl,by omega,trivial,trivial⟩
  show rows.length-(i+1)<rows.length-i;omega
 refine aV (T3 ?_);clear I K;refine AX (I _ _ _ ?_);clear I K;refine aC fun K I=>?_;have bg:i=rows.length:=by simp at J;omega
 subst bg;have ah:=aT4 ay;have af:=bB3 (rows:=rows) (n:=2^39) (fun r hr=>by have:=ao r hr;omega);obtain⟨ls,bj⟩: ∃ls,ls=lsT rows rows.length:=⟨_,rfl⟩;rw[←bj]at ah ag af⊢;rw[aa]at ah;obtain⟨aq,aw⟩:=aD9 hle ah;rw[←hm]at aq aw;rw[←ag];refine bW [100] (aZ (fr2:=fin [(5,.c (.slc (ls.map lsC)))]) (ob2:=fob []) (nx2:=300) (bA (by omega) (by simp[cK]) (by simp)) ?_);refine aC fun K I=>Rg ?_;have F:=@cK;refine SF ?_;refine HS rfl rfl fun K' U=>T6 ?_;refine D1 (bS8 ls (by omega) (fun l hl=>by have:=af l hl;omega)) ?_;rintro u v ⟨rfl,rfl⟩;refine AX (U _ _ ?_);clear U K';iterate 5 refine SF ?_
 refine T2 (I _ _ _ ?_);clear I K;refine R0 ?_;refine aJ (b:=jN ls !=0) rfl (fun J=>?_) (fun J=>?_)
 · refine R0 ?_;refine aE (RT Tryz.results33 ?_);have hE:=aw (by simpa using J);refine aO [] (.slc []) (.int .i64 2) ?_ ⟨by simp only[gT,hE];rfl,by rw[hE]⟩;simp
 refine aG ?_;refine T0 (I _ _ _ ?_);clear I K;refine R0 ?_;refine aE (RT Tryz.results33 ?_);obtain⟨hE,hO⟩:=aq (by simpa using J);refine aO [] (.slc (ls.map lsC)) (.int .i64 0) ?_ ⟨by rw[hO],by rw[hE]⟩;simp[cK]
variable {w:List aK}{l:List (List aK)}
theorem cP2 (h:I<l.length):exK l I N++[.c (lsC w)]=exK (l++[w]) I N:=by
 unfold exK;rw[C5,List.set_append_left _ _ (by simpa using h)];simp[h,M7 h]
theorem cP3 :(l.map fun l=>HV.c (lsC l))++[.own N w.length]=exK (l++[w]) l.length N:=by
 unfold exK;rw[C5,W8 _ _ (by simp)];simp
theorem cB0 (h:I<l.length):(l++[w]).getD I []=l.getD I []:=by
 simp[M7 h]
theorem cB1 (h:66<n):HV.menL (fun x=>x<n) (exK ls I 66):=gP h
theorem kJ (l:List (List aK)):HV.menL M (l.map fun l=>HV.c (lsC l)):=by
 rw[xU];intro v I;obtain⟨x,_,rfl⟩:=H0.1 I;simp
theorem aP7 (ob:Ob)(cl:List Nat)(l:List (List aK)):HV.closeL ob cl (l.map fun l=>HV.c (lsC l))=l.map fun l=>HV.c (lsC l):=by
 rw[mZ,Q4];apply O6;intro l _;simp[lsC,denilL_str]
theorem cP4 (M:Nat→Nat)(a b:List HV):HV.renL M (a++b)=HV.renL M a++HV.renL M b:=by rw[lQ,lQ,lQ,C5]
theorem cY9 (M:Nat→Nat)(l:List (List aK)):HV.renL M (l.map fun l=>HV.c (lsC l))=l.map fun l=>HV.c (lsC l):=by
 rw[lQ,Q4];rfl
def stK (rows:List aK)(kk i:Nat):List (Nat×HO):=if i≤kk then [(100,.hrow 71 1 ((lsT rows i).map fun l=>HV.c (lsC l)))]else [(100,.hrow 71 1 (exK (lsT rows i) kk 66)),(66,.row 9 1 (((lsT rows i).getD kk []).map .str))]
theorem cP5 :lst []=fob []:=by funext i;simp[lst,fob,cZ]
theorem cZ0 (hr:r= .tup [.own 100 ls.length,.c (.int .i64 0)])(U:ob 100=some (.hrow 71 1 (exK ls J 66)))(h1:ob 66=some (.row 9 1 ((ls.getD J []).map .str))):
  gR 0 r ob (fun r ob'=> ∃I,ob'=lst I∧(0≤I.length∧I.length≤0+4)∧(r= .tup [.own 0 ls.length,.c (.int .i64 0)]∧I=osK ls J)):=by
 subst hr;refine eM [] [100,66] (.tup [.own 0 ls.length,.c (.int .i64 0)]) (osK ls J) (by simp[tau]) (by simp) ⟨⟨by simp[gP],by simp,_,(by simpa[tau]using U),?_⟩,⟨by simp,by simp,_,(by simpa[tau]using h1),rfl⟩,trivial⟩ rfl (by simp) (by simp) (by simp) ⟨rfl,rfl⟩;simp[rW,wD,nU,tau]
theorem cP6 (b:aK)(hl:b.length<2^40)(he:eT b=0)(kk:Nat)(bg:kk<(gT b).length):HGe Tryz.prog 33 [.c (.slc (b.map u8))] [] (fun r bl=>r= .tup [.own 0 (gT b).length,.c (.int .i64 0)]∧bl=osK (gT b) kk):=by
 refine bO (args:=[.c (.slc (b.map u8))]) Tryz.func33 rfl (by kernel_rfl) (dQ rfl (by simp[cV]) (by simp)) (C7 rfl) ?_;show Hw _ _ 0 _ _ _ (lst _) 0;rw[cP5];refine R0 ?_;refine aC fun K I=>?_;have F:=@A0.{0,0};refine RF ?_;refine aJ (b:=decide ((262144:Int)<b.length)) rfl (fun J=>?_) (fun J=>?_)
 ·
  refine R0 ?_;refine aE (RT Tryz.results33 ?_);have hE:eT b=3:=by unfold eT;rw[B1 (by simp at J;omega)]
  exact absurd (he.symm.trans hE) (by decide)
 refine aG ?_;refine T0 (I _ _ _ ?_);clear I K;refine aC fun K I=>?_;have hle: ¬262144<b.length:=by simp at J;omega
 clear J;refine RF ?_;refine aJ (b:=(b.length:Int)==0) rfl (fun J=>?_) (fun J=>?_)
 ·
  refine R0 ?_;refine aE (RT Tryz.results33 ?_);have bq:b=[]:=by simpa using J
  subst bq;rw[show gT ([]:aK)=[]from rfl]at bg;cases bg
 refine aG ?_;refine T0 (I _ _ _ ?_);clear I K;refine aC fun K I=>?_;have ay:b≠[]:=by rintro rfl;simp at J
 clear J;have bz:0<b.length:=J8.2 ay;have aw:b.length-1<b.length:=by omega
 have bh:IntKind.i64.wrap ((b.length:Int)-1)=((b.length-1:Nat):Int):=by rw[B0 _ (by omega)];omega
 refine RS ?_;have F:=aI @A0.{0,0} (aI bh (aI @A1 (aI @A4 (aI aw (aI (nM aw) @u8.eq_1)))));refine AU ?_;refine aJ (b:=((b[b.length-1]).toNat:Int) !=10) rfl (fun J=>?_) (fun J=>?_)
 ·
  refine R0 ?_;refine aE (RT Tryz.results33 ?_);have hE:eT b=2:=aN0 hle ay (by
   intro h;rw[B4,A9 aw]at h;simp only[E9]at h;rw[h]at J;simp at J)
  exact absurd (he.symm.trans hE) (by decide)
 refine aG ?_;refine T0 (I _ _ _ ?_);clear I K;have bk:b[b.length-1]=10:=by
  simp only[U8]at J;exact P7.1 (by show b[b.length-1].toNat=10;omega)
 clear J;obtain⟨m,hm⟩: ∃m,b=m++[10]:=⟨b.dropLast,by rw[←bk,←List.getLast_eq_getElem ay];exact(Y0 ay).symm⟩;have bt:List.take (b.length-1) (b.map u8)=m.map u8:=by rw[hm];simp
 have bo:jJ (m.map u8)=some m:=bytesC_map m;have cb:m.length+1=b.length:=by rw[hm];simp
 have ca:(m++[(10:UInt8)]).length=m.length+1:=by simp
 rw[hm]at hle;refine RS ?_;have F:=aI @A0.{0,0} (aI bh (aI @A1 (aI @H1 (aI @Nat.sub_le (aI @jB (aI @G2.{0} (aI @H6 (aI bt bo))))))));refine AU ?_;refine SCF (qR m 10 (by omega)) ?_;refine AE ?_;obtain⟨rows,ae⟩: ∃rows,rows=aQ 10 m:=⟨_,rfl⟩;have bu:=dN 10 m;have az:=jO 10 m;rw[←ae]at bu az⊢;have bj:rows.mapM unL=none→eT b=2:=fun h=>by rw[hm];exact aN1 hle (by rw[←ae];exact h)
 refine R0 ?_;refine aC fun K I=>?_;refine R0 ?_;refine aL ?_;refine eH 5 0 71 1 rfl rfl rfl rfl (aS1 100 rfl ?_);refine bB (α:={i:Nat//i≤rows.length∧ ∀r∈rows.take i,(unL r).isSome=true}) (fun i=>(fin [(4,.c (.slc (rows.map .str))),(5,.own 100 i.1),(6,.c (.int .i64 i.1))],fob (stK rows kk i.1))) 200 (fun i=>rows.length-i.1) ⟨0,by omega,by simp⟩ (by simp only[stK,I1,G4,lsT,P5,F2];exact fG (by simp)) ?_;rintro⟨i,hi,au⟩;simp only;have U:=aE0 hi;refine aC fun K I=>?_;by_cases bm:i≤kk
 ·
  rw[show stK rows kk i=[(100,.hrow 71 1 ((lsT rows i).map fun l=>HV.c (lsC l)))]from B1 bm];refine RS ?_;have F:=@A0.{0,0};refine AU ?_;refine aJ (b:=decide ((i:Int)<rows.length)) rfl (fun J=>?_) (fun J=>?_)
  ·
   have ab:i<rows.length:=by simpa using J
   clear J;obtain⟨r,hr⟩: ∃r,r=rows[i]:=⟨_,rfl⟩;have ai:r∈rows:=by rw[hr];exact B5 ab
   have bn:=az r ai;have bf:nth (rows.map CV.str) i= .str r:=by rw[aW ab,hr]
   refine aG ?_;refine T0 (I _ _ _ ?_);clear I K;refine aC fun K I=>?_;refine aL ?_;refine RS ?_;have F:=aI @A1 (aI @A4 (aI ab (aI bf @A0.{0,0})));refine AU ?_;refine SCF (qR r 32 (by omega)) ?_;refine SF ?_;refine RE ?_;refine R0 ?_;refine aC fun K I=>?_;refine R0 ?_;refine aL ?_;refine eH 8 0 9 1 rfl rfl rfl rfl ?_;refine bB (α:={k:Nat//k≤(aQ 32 r).length∧aI9 r k}) (fun k=>(fin [(4,.c (.slc (rows.map .str))),(5,.own 100 i),(6,.c (.int .i64 i)),(7,.c (.slc ((aQ 32 r).map .str))),(8,.own 248 k.1),(9,.c (.int .i64 k.1))],fob [(100,.hrow 71 1 ((lsT rows i).map fun l=>HV.c (lsC l))),(248,.row 9 1 ((wsT r k.1).map .str))])) 300 (fun k=>(aQ 32 r).length-k.1) ⟨0,by omega,fun p hp=>by simp at hp⟩ (by simp only[wsT,P5,F2];exact fG (by simp[gP,kJ])) ?_;rintro⟨k,hk,ax⟩;simp only;have af:=mC hk;have bx:=dN 32 r;refine aC fun K I=>?_;refine RS ?_;have F:=@A0.{0,0};refine AU ?_;refine aJ (b:=decide ((k:Int)<(aQ 32 r).length)) rfl (fun J=>?_) (fun J=>?_)
   ·
    have ad:k<(aQ 32 r).length:=by simpa using J
    clear J;obtain⟨p,hp⟩: ∃p,p=(aQ 32 r)[k]:=⟨_,rfl⟩;have bp:=jO 32 r p (by rw[hp];exact B5 ad);have bc:nth ((aQ 32 r).map CV.str) k= .str p:=by rw[aW ad,hp]
    refine aG ?_;refine T0 (I _ _ _ ?_);clear I K;refine aC fun K I=>?_;refine aL ?_;refine aC fun K I=>Rg ?_;have F:=aI @A1 (aI @A4 (aI ad (aI bc @A0.{0,0})));refine AU ?_;refine HS rfl rfl fun K' aa=>T6 ?_;refine D1 (aV6 p (by omega)) ?_;rintro u v ⟨rfl,rfl⟩;refine AX (aa _ _ ?_);clear aa K';refine AU ?_;refine T2 (I _ _ _ ?_);clear I K;refine aC fun K I=>?_;refine R0 ?_;refine aJ (b:=!(unW p).isSome) rfl (fun J=>?_) (fun J=>?_)
    · refine R0 ?_;refine aE (RT Tryz.results33 ?_);have hE:=bj (lN ai (aE1 ad (by rw[←hp];simpa using J)));exact absurd (he.symm.trans hE) (by decide)
    refine aG ?_;refine T0 (I _ _ _ ?_);clear I K;refine Rg ?_;have F:=aI @A3.{0} (aI @A0.{0,0} af);refine AU ?_;refine T2 (I _ _ _ ?_);clear I K;refine aM (by kernel_rfl) ?_;refine TQ (cW k) ?_;refine⟨⟨k+1,ad,rG ad ax (by rw[←hp];simpa using J)⟩,bA (by omega) ?_ ?_,?_⟩
    · simp
    · simp only[uZ ad,←hp,jQ,C5];exact⟨rfl,by omega,kJ _,rfl,by omega,trivial,trivial⟩
    show(aQ 32 r).length-(k+1)<(aQ 32 r).length-k;omega
   have bb:k=(aQ 32 r).length:=by simp at J;omega
   subst bb;have ah:=aT3 ax;obtain⟨ws,ba⟩: ∃ws,ws=wsT r (aQ 32 r).length:=⟨_,rfl⟩;rw[←ba]at ah af⊢;rw[←af];refine aV (T3 ?_);clear I K;refine AX (I _ _ _ ?_);clear I K;by_cases heq:i=kk
   ·
    subst heq;refine aZ (fr2:=fin [(4,.c (.slc (rows.map .str))),(5,.own 100 i),(6,.c (.int .i64 i)),(8,.own 248 ws.length)]) (ob2:=fob [(100,.hrow 71 1 ((lsT rows i).map fun l=>HV.c (lsC l))),(248,.row 9 1 (ws.map .str))]) (nx2:=400) (fG (by simp[kJ])) ?_;refine aY (by kernel_rfl) ?_;simp only[sR,simprocAttr];have F:=aI @A3.{0} (aI @A0.{0,0} U);iterate 2 refine SGF ?_
    refine aU (g:=none) rfl rfl fun K' aa=>?_;simp only[sN,↓hopH.eq_def,sH,↓sP,sA,tyS,simprocAttr,A3,A0,U];refine AX (aa _ _ ?_);clear aa K';refine aU (g:=none) rfl rfl fun K' aa=>?_;simp only[sN,↓hopH.eq_def,sH,↓sP,sA,tyS,simprocAttr,A3,A0,U];refine AX (aa _ _ ?_);clear aa K';refine SGF ?_;refine T2 (I _ _ _ ?_);clear I K;refine bL2 248 66 500 [(4,.c (.slc (rows.map .str))),(5,.own 100 (i+1)),(6,.c (.int .i64 i))] [(100,.hrow 71 1 (((lsT rows i).map fun l=>HV.c (lsC l))++[.own 248 ws.length])),(248,.row 9 1 (ws.map .str))] (by simp[U]) (by simp[kJ]) (by omega) (by omega) (by omega) (by omega) (by omega) (by omega) (by omega) (by simp) (by simp[kJ]) (aZ (fr2:=fin [(4,.c (.slc (rows.map .str))),(5,.own 100 (i+1)),(6,.c (.int .i64 i))]) (ob2:=fob [(100,.hrow 71 1 (((lsT rows i).map fun l=>HV.c (lsC l))++[.own 66 ws.length])),(66,.row 9 1 (ws.map .str))]) (nx2:=600) (fG (by simp[mvF,mvO,mvN,cP4,cY9,kJ])) ?_);refine aM (by kernel_rfl) ?_;refine TQ (cW i) ?_;have aj: ∀x∈rows.take (i+1),(unL x).isSome=true:=by
     intro x hx;rw[A5 ab,D6,E5]at hx;rcases hx with hx|rfl
     · exact au x hx
     rw[←hr,ah];rfl
    have ak:lsT rows (i+1)=lsT rows i++[ws]:=by rw[vC ab,←hr,ah];rfl
    have hx:exK (lsT rows (i+1)) i 66=((lsT rows i).map fun l=>HV.c (lsC l))++[.own 66 ws.length]:=by
     have:=cP3 (l:=lsT rows i) (w:=ws) (N:=66);rw[U]at this;rw[ak,←this]
    have hg:(lsT rows (i+1)).getD i []=ws:=by rw[ak];simp[U]
    refine⟨⟨i+1,ab,aj⟩,?_,?_⟩
    · simp only;rw[show stK rows i (i+1)=[(100,.hrow 71 1 (exK (lsT rows (i+1)) i 66)),(66,.row 9 1 (((lsT rows (i+1)).getD i []).map .str))]from A7 (by omega),hx,hg];exact fG (by simp[kJ])
    show rows.length-(i+1)<rows.length-i;omega
   refine bW [248] (aZ (fr2:=fin [(4,.c (.slc (rows.map .str))),(5,.own 100 i),(6,.c (.int .i64 i)),(8,.c (.slc (ws.map .str)))]) (ob2:=fob [(100,.hrow 71 1 ((lsT rows i).map fun l=>HV.c (lsC l)))]) (nx2:=400) (fG (by simp[denilL_str,rW,aP7,gP,kJ,nU])) ?_);refine aY (by kernel_rfl) ?_;simp only[sR,simprocAttr];have F:=aI @A3.{0} (aI @A0.{0,0} U);iterate 3 refine SGF ?_
   refine aU (g:=none) rfl rfl fun K' aa=>?_;simp only[sN,↓hopH.eq_def,sH,↓sP,sA,tyS,simprocAttr,A3,A0,U];refine AX (aa _ _ ?_);clear aa K';refine SGF ?_;refine T2 (I _ _ _ ?_);clear I K;refine aM (by kernel_rfl) ?_;refine TQ (cW i) ?_;have aj: ∀x∈rows.take (i+1),(unL x).isSome=true:=by
    intro x hx;rw[A5 ab,D6,E5]at hx;rcases hx with hx|rfl
    · exact au x hx
    rw[←hr,ah];rfl
   have ak:lsT rows (i+1)=lsT rows i++[ws]:=by rw[vC ab,←hr,ah];rfl
   refine⟨⟨i+1,ab,aj⟩,?_,?_⟩
   · simp only;rw[show stK rows kk (i+1)=[(100,.hrow 71 1 ((lsT rows (i+1)).map fun l=>HV.c (lsC l)))]from B1 (by omega),ak,C5];exact fG (by simp[kJ,U,(show lsC ws= .slc (ws.map .str)from rfl)])
   show rows.length-(i+1)<rows.length-i;omega
  exfalso;have bd:i=rows.length:=by simp at J;omega
  subst bd;have ag:=aT4 au;rw[ae]at ag;obtain⟨ao,ar⟩:=aD9 hle ag;rw[←hm]at ao ar;have hz:jN (lsT (aQ 10 m) (aQ 10 m).length)=0:=Z1 fun h=>absurd (he.symm.trans (ar h)) (by decide);have hO:=(ao hz).2;rw[←ae]at hO;rw[hO]at bg;omega
 rw[show stK rows kk i=[(100,.hrow 71 1 (exK (lsT rows i) kk 66)),(66,.row 9 1 (((lsT rows i).getD kk []).map .str))]from A7 bm];have an:kk<(lsT rows i).length:=by omega
 refine RS ?_;have F:=@A0.{0,0};refine AU ?_;refine aJ (b:=decide ((i:Int)<rows.length)) rfl (fun J=>?_) (fun J=>?_)
 ·
  have ab:i<rows.length:=by simpa using J
  clear J;obtain⟨r,hr⟩: ∃r,r=rows[i]:=⟨_,rfl⟩;have ai:r∈rows:=by rw[hr];exact B5 ab
  have bn:=az r ai;have bf:nth (rows.map CV.str) i= .str r:=by rw[aW ab,hr]
  refine aG ?_;refine T0 (I _ _ _ ?_);clear I K;refine aC fun K I=>?_;refine aL ?_;refine RS ?_;have F:=aI @A1 (aI @A4 (aI ab (aI bf @A0.{0,0})));refine AU ?_;refine SCF (qR r 32 (by omega)) ?_;refine SF ?_;refine RE ?_;refine R0 ?_;refine aC fun K I=>?_;refine R0 ?_;refine aL ?_;refine eH 8 0 9 1 rfl rfl rfl rfl ?_;refine bB (α:={k:Nat//k≤(aQ 32 r).length∧aI9 r k}) (fun k=>(fin [(4,.c (.slc (rows.map .str))),(5,.own 100 i),(6,.c (.int .i64 i)),(7,.c (.slc ((aQ 32 r).map .str))),(8,.own 248 k.1),(9,.c (.int .i64 k.1))],fob [(100,.hrow 71 1 (exK (lsT rows i) kk 66)),(66,.row 9 1 (((lsT rows i).getD kk []).map .str)),(248,.row 9 1 ((wsT r k.1).map .str))])) 300 (fun k=>(aQ 32 r).length-k.1) ⟨0,by omega,fun p hp=>by simp at hp⟩ (by simp only[wsT,P5,F2];exact fG (by simp[gP,kJ])) ?_;rintro⟨k,hk,ax⟩;simp only;have af:=mC hk;have bx:=dN 32 r;refine aC fun K I=>?_;refine RS ?_;have F:=@A0.{0,0};refine AU ?_;refine aJ (b:=decide ((k:Int)<(aQ 32 r).length)) rfl (fun J=>?_) (fun J=>?_)
  ·
   have ad:k<(aQ 32 r).length:=by simpa using J
   clear J;obtain⟨p,hp⟩: ∃p,p=(aQ 32 r)[k]:=⟨_,rfl⟩;have bp:=jO 32 r p (by rw[hp];exact B5 ad);have bc:nth ((aQ 32 r).map CV.str) k= .str p:=by rw[aW ad,hp]
   refine aG ?_;refine T0 (I _ _ _ ?_);clear I K;refine aC fun K I=>?_;refine aL ?_;refine aC fun K I=>Rg ?_;have F:=aI @A1 (aI @A4 (aI ad (aI bc @A0.{0,0})));refine AU ?_;refine HS rfl rfl fun K' aa=>T6 ?_;refine D1 (aV6 p (by omega)) ?_;rintro u v ⟨rfl,rfl⟩;refine AX (aa _ _ ?_);clear aa K';refine AU ?_;refine T2 (I _ _ _ ?_);clear I K;refine aC fun K I=>?_;refine R0 ?_;refine aJ (b:=!(unW p).isSome) rfl (fun J=>?_) (fun J=>?_)
   · refine R0 ?_;refine aE (RT Tryz.results33 ?_);have hE:=bj (lN ai (aE1 ad (by rw[←hp];simpa using J)));exact absurd (he.symm.trans hE) (by decide)
   refine aG ?_;refine T0 (I _ _ _ ?_);clear I K;refine Rg ?_;have F:=aI @A3.{0} (aI @A0.{0,0} af);refine AU ?_;refine T2 (I _ _ _ ?_);clear I K;refine aM (by kernel_rfl) ?_;refine TQ (cW k) ?_;refine⟨⟨k+1,ad,rG ad ax (by rw[←hp];simpa using J)⟩,bA (by omega) ?_ ?_,?_⟩
   · simp
   · simp only[uZ ad,←hp,jQ,C5];exact⟨rfl,by omega,gP (by omega),rfl,by omega,trivial,rfl,by omega,trivial,trivial⟩
   show(aQ 32 r).length-(k+1)<(aQ 32 r).length-k;omega
  have bb:k=(aQ 32 r).length:=by simp at J;omega
  subst bb;have ah:=aT3 ax;obtain⟨ws,ba⟩: ∃ws,ws=wsT r (aQ 32 r).length:=⟨_,rfl⟩;rw[←ba]at ah af⊢;rw[←af];refine aV (T3 ?_);clear I K;refine AX (I _ _ _ ?_);clear I K;refine bW [248] (aZ (fr2:=fin [(4,.c (.slc (rows.map .str))),(5,.own 100 i),(6,.c (.int .i64 i)),(8,.c (.slc (ws.map .str)))]) (ob2:=fob [(100,.hrow 71 1 (exK (lsT rows i) kk 66)),(66,.row 9 1 (((lsT rows i).getD kk []).map .str))]) (nx2:=400) (fG (by simp[denilL_str,rW,aP7,gP,kJ,nU])) ?_);refine aY (by kernel_rfl) ?_;simp only[sR,simprocAttr];have F:=aI @A3.{0} (aI @A0.{0,0} (aI @gO U));iterate 3 refine SGF ?_
  refine aU (g:=none) rfl rfl fun K' aa=>?_;simp only[sN,↓hopH.eq_def,sH,↓sP,sA,tyS,simprocAttr,A3,A0,gO,U];refine AX (aa _ _ ?_);clear aa K';refine SGF ?_;refine T2 (I _ _ _ ?_);clear I K;refine aM (by kernel_rfl) ?_;refine TQ (cW i) ?_;have aj: ∀x∈rows.take (i+1),(unL x).isSome=true:=by
   intro x hx;rw[A5 ab,D6,E5]at hx;rcases hx with hx|rfl
   · exact au x hx
   rw[←hr,ah];rfl
  have ak:lsT rows (i+1)=lsT rows i++[ws]:=by rw[vC ab,←hr,ah];rfl
  have hx:exK (lsT rows (i+1)) kk 66=exK (lsT rows i) kk 66++[.c (lsC ws)]:=by rw[ak,cP2 an]
  have hg:(lsT rows (i+1)).getD kk []=(lsT rows i).getD kk []:=by rw[ak,cB0 an]
  refine⟨⟨i+1,ab,aj⟩,?_,?_⟩
  · simp only;rw[show stK rows kk (i+1)=[(100,.hrow 71 1 (exK (lsT rows (i+1)) kk 66)),(66,.row 9 1 (((lsT rows (i+1)).getD kk []).map .str))]from A7 (by omega),hx,hg];exact fG (by simp[cB1,gO,U,(show lsC ws= .slc (ws.map .str)from rfl)])
  show rows.length-(i+1)<rows.length-i;omega
 have bd:i=rows.length:=by simp at J;omega
 subst bd;have ag:=aT4 au;have aq:=bB3 (rows:=rows) (n:=2^39) (fun r hr=>by have:=az r hr;omega);obtain⟨ls,br⟩: ∃ls,ls=lsT rows rows.length:=⟨_,rfl⟩;rw[←br]at ag U aq an⊢;rw[ae]at ag;obtain⟨ao,ar⟩:=aD9 hle ag;rw[←hm]at ao ar;have hz:jN ls=0:=Z1 fun h=>absurd (he.symm.trans (ar h)) (by decide);have hO:=(ao hz).2;rw[←U];clear J;refine aV (T3 ?_);clear I K;refine AX (I _ _ _ ?_);clear I K;refine aC fun K I=>?_;refine aC fun K I=>Rg ?_;refine S0 ?_;refine HS rfl rfl fun K' aa=>T5 ?_;refine dR [100,66] (cP1 ls kk an (by omega) (fun l hl=>by have:=aq l hl;omega)) rfl ⟨?_,?_,trivial⟩ (by simp) (by simp) ⟨rfl,rfl,rfl,rfl⟩ (by simp[osK,cV,gP]) (by simp[osK]) ?_
 · simp[wD,sub]
 · rfl
 rintro r bl ⟨u,rfl,rfl⟩;simp only[osK,HV.ren,HV.renL,iL,HO.ren,wD,F0,hz];refine AX (aa _ _ ?_);clear aa K';refine AU ?_;refine T2 (I _ _ _ ?_);clear I K;refine R0 ?_;refine CF rfl ?_;refine aG ?_;refine T0 (I _ _ _ ?_);clear I K;refine R0 ?_;refine aE (RT Tryz.results33 ?_);rw[hO];exact cZ0 rfl rfl rfl
def tp (L:List Int)(a:Nat):CV:= .agg [.slc (L.map (.int .i64)),.int .i64 a]
attribute [local simp] tp
theorem dS (L:List Int)(a:Nat)(n:Int)(ha:a<2^40)(hn:n<2^62):aI4 Tryz.prog 13 76 (tp L a) [.int .i64 n] (fun u v'=> ∃(x:Int) (U:Nat),u= .int .i64 x∧v'=tp L U∧U≤a+1∧0≤x∧(n<1→x=0)∧(1≤n→x<n)):=by
 refine bO Tryz.func13 rfl (by kernel_rfl) (gU _ _ _) (C7 rfl) ?_;refine R0 ?_;refine aC fun K I=>?_;refine R0 ?_;refine aJ (b:=decide (n<1)) rfl (fun J=>?_) (fun J=>?_)
 · refine R0 ?_;refine aE (RT Tryz.results13 ?_);refine iZ [] (.int .i64 0) (tp L a) rfl rfl ?_ (by simp) ⟨0,a,rfl,rfl,by omega,by omega,fun _=>rfl,fun h=>by omega⟩;simp[tp,denilL_int]
 refine aG ?_;refine T0 (I _ _ _ ?_);clear I K;refine RS ?_;iterate 7 refine S0 ?_ (e:=fun _ h_=>by simp only[sH,↓sP,sA,tyS,simprocAttr,tp];exact AX h_)
 refine RE ?_;refine aC fun K I=>?_;have key: ∀(v:Int) fr ob nx,Fits 1 fr ob (fin [(0,.ptr 0 0),(1,.c (.int .i64 n)),(5,.c (.int .i64 v))]) (fob [(0,.box 76 (.c (tp L a)))]) 300→K fr ob nx:=by
  intro v fr ob nx hf;refine I _ _ _ (aZ hf ?_);clear hf I K;have aa:1≤n:=by simp at J;omega
  have e0:=Q2 v (b:=n) (by omega);have e1: -n<v.tmod n:=V4 v (by omega);refine RS ?_;iterate 8 refine S0 ?_ (e:=fun _ h_=>by simp only[sH,↓sP,sA,tyS,simprocAttr,tp];exact AX h_)
  refine RE ?_;refine RS ?_;iterate 8 refine S0 ?_ (e:=fun _ h_=>by simp only[sH,↓sP,sA,tyS,simprocAttr,tp];exact AX h_)
  refine RE ?_;refine aE (RT Tryz.results13 ?_);have e2:IntKind.i64.wrap (v.tmod n+n)=v.tmod n+n:=B0 _ (by omega);have e3:IntKind.i64.wrap ((a:Int)+1)=((a+1:Nat):Int):=B0 _ (by omega);refine iZ [] (.int .i64 ((v.tmod n+n).tmod n)) (tp L (a+1)) (by rw[e2];rfl) rfl ?_ (by simp) ⟨_,a+1,rfl,rfl,by omega,AV _ (by omega),fun h=>by omega,fun _=>Q2 _ (by omega)⟩;simp[tp,denilL_int,e3]
 refine aC fun K I=>QR ?_;iterate 10 refine S0 ?_ (e:=fun _ h_=>by simp only[sH,↓sP,sA,tyS,simprocAttr,tp];exact AX h_)
 refine T2 (I _ _ _ ?_);clear I K;refine aJ (b:=decide ((a:Int)<L.length)) rfl (fun J=>?_) (fun J=>?_)
 ·
  refine QW ?_;simp only[sR,simprocAttr];iterate 11 refine S0 ?_ (e:=fun _ h_=>by simp only[sH,↓sP,sA,tyS,simprocAttr,tp,A1,(by simpa using J:(a:Int)<L.length),aW (show a<L.length by simpa using J)];exact AX h_)
  refine T4 ?_;exact key (L[a]'(by simpa using J)) _ _ _ (fF)
 refine aG (T3 ?_);exact key (IntKind.i64.wrap (IntKind.i64.wrap (↑a*7)+3)) _ _ _ (fF)
theorem wE (L:List Int)(a:Nat)(l:List aK)(ha:a<2^40)(hl:1≤l.length∧l.length<2^40):aI4 Tryz.prog 91 76 (tp L a) [.slc (l.map .str)] (fun u v'=> ∃(w:aK) (I:Nat),u= .str w∧w∈l∧v'=tp L I∧I≤a+1):=by
 refine bO Tryz.func91 rfl (by kernel_rfl) (gU _ _ _) (C7 rfl) ?_;refine R0 ?_;refine aC fun K U=>aM (by kernel_rfl) ?_;simp only[↓sP,sA,tyS,simprocAttr];refine bP (args:=[_]) (dS L a l.length ha (by omega)) rfl (by simp) ⟨rfl,rfl,rfl,rfl⟩ ?_;rintro u v' ⟨x,I,rfl,rfl,h1,h2,h3,h4⟩;obtain⟨i,rfl⟩: ∃i:Nat,x=i:=⟨x.toNat,by omega⟩;have J:i<l.length:=by omega
 simp only[↓sP,sA,tyS,simprocAttr,A1,A4,J,aW J];refine AX (U _ _ _ ?_);clear U K;refine aE (RT Tryz.results91 ?_);exact iZ [] (.str l[i]) (tp L I) rfl rfl (by simp[tp,denilL_int]) (by simp) ⟨_,I,rfl,B5 _,rfl,h1⟩
theorem tQ (n k:Int)(h1:1≤k)(hk:k<2^40):bM Tryz.prog 34 [.int .i64 n,.int .i64 k] (fun v=> ∃x:Nat,(x:Int)<k∧v= .int .i64 x):=by
 have e0:=Q2 n (b:=k) (by omega);have e1: -k<n.tmod k:=V4 n (by omega);have U:IntKind.i64.wrap (n.tmod k+k)=n.tmod k+k:=B0 _ (by omega);have J:(k=0)=False:=by simp;omega
 have e4:=Q2 (n.tmod k+k) (b:=k) (by omega);have I:=AV k (show 0≤n.tmod k+k by omega);refine FW Tryz.func34 ?_;refine R0 ?_;refine RS ?_;have F:=aI U J;refine AU ?_;refine aE (RT Tryz.results34 ?_);exact aF [] (.int .i64 ((n.tmod k+k).tmod k)) rfl ⟨((n.tmod k+k).tmod k).toNat,by omega,by rw[BT I]⟩
theorem cZ1 (L:List Int)(n:Nat):HGe Tryz.prog 10 [.c (.slc (L.map (.int .i64))),.c (.int .i64 n)] [] (fun r I=>r= .ptr 0 0∧I=[.box 76 (.c (tp (L.take n) 0))]):=by
 refine bO (args:=[.c (.slc (L.map (.int .i64))),.c (.int .i64 n)]) Tryz.func10 rfl (by kernel_rfl) (dQ rfl (by simp[cV]) (by simp)) (C7 rfl) ?_;show Hw _ _ 0 _ _ _ (lst _) 0;rw[show lst []=fob []from by funext i;simp[lst,fob]];refine R0 ?_;refine RS ?_;have F:=@denilL_int;refine AU ?_;refine aE (RT Tryz.results10 ?_);refine eM [] [32] (.ptr 0 0) [.box 76 (.c (tp (L.take n) 0))] rfl (by simp) ⟨⟨by simp,by simp,_,rfl,?_⟩,trivial⟩ rfl (by simp) (by simp) (by simp) ⟨rfl,rfl⟩;simp[tau,denilL_int,nU,tp];have e:(if n<L.length then(n:Int)else(L.length:Int)).toNat=min n L.length:=by split<;>omega
 rw[e,←List.map_take,←List.map_take,denilL_int,←List.take_eq_take_min]
theorem bS9 (L:List Int)(a:Nat)(ha:a<2^39):aI4 Tryz.prog 73 76 (tp L a) [] (fun u v'=> ∃(q:Rq) (a':Nat),u=q.cv∧v'=tp L a'∧a'≤a+3∧fE q=true):=by
 refine bO Tryz.func73 rfl (by kernel_rfl) (gU _ _ _) (C7 rfl) ?_;have ab: ∀x:Int,0≤x→x<100→IntKind.i64.wrap (1+x)=1+x:=fun x h1 h2=>B0 _ (by omega);refine R0 ?_;refine aC fun K hK=>Rg ?_;refine S0 ?_;refine HS rfl rfl fun U I=>T5 ?_;refine bP (args:=[_]) (dS L a 8 (by omega) (by omega)) rfl (by simp) ⟨rfl,rfl,rfl,rfl⟩ ?_;rintro u v' ⟨x,a1,rfl,rfl,h1,h2,h3,h4⟩;refine AX (I _ _ ?_);clear I U;refine AU ?_;refine T2 (hK _ _ _ ?_);clear hK K;refine aC fun K hK=>?_;have key: ∀(q:Rq) (a':Nat) fr ob nx,fE q=true→a'≤a+3→Fits 1 fr ob (fin [(2,.ptr 1 0),(3,.ptr 21 0)]) (fob [(0,.box 76 (.c (tp L a'))),(1,.box 87 (.c rq0.cv)),(21,.box 87 (.c q.cv))]) 600→K fr ob nx:=by
  rintro q a' fr ob nx hq af hf;refine hK _ _ _ (aZ hf ?_);clear hf hK K;refine R0 ?_;refine aE (RT Tryz.results73 ?_);exact iZ [] q.cv (tp L a') (by simp[Rq.denil]) rfl (by simp[tp,denilL_int]) (by simp) ⟨q,a',rfl,rfl,af,hq⟩
 have ar:=h4 (by omega);obtain⟨k,hk⟩: ∃k,k=IntKind.i64.wrap (1+x):=⟨_,rfl⟩;have aq:k=1+x:=by rw[hk,ab x h2 (by omega)]
 rw[←hk];clear hk h3 h4;refine R0 ?_;refine aL ?_;refine aC fun K hK=>?_;have aa: ∀(b:Bool) fr ob nx,b=(k==1||(k==3||k==5))→Fits 1 fr ob (fin [(0,.ptr 0 0),(2,.ptr 1 0),(3,.ptr 21 0),(9,.c (.int .i64 k)),(10,.c (.bool b))]) (fob [(0,.box 76 (.c (tp L a1))),(1,.box 87 (.c rq0.cv)),(21,.box 87 (.c (Rq.cv ⟨k,0,0,[]⟩)))]) 200→K fr ob nx:=by
  rintro b fr ob nx rfl hf;refine hK _ _ _ (aZ hf ?_);clear hf hK K;refine aJ (b:=_) rfl (fun J=>?_) (fun J=>?_)
  ·
   refine Rg ?_;refine S0 ?_;refine HS rfl rfl fun U I=>T5 ?_;refine bP (args:=[_]) (dS L a1 3 (by omega) (by omega)) rfl (by simp) ⟨rfl,rfl,rfl,rfl⟩ ?_;rintro u v' ⟨y,a2,rfl,rfl,g1,g2,g3,g4⟩;refine AX (I _ _ ?_);clear I U;refine AU ?_;refine T4 ?_;have g5:=g4 (by omega);have ao:k=1∨k=3∨k=5:=by simpa using J
   exact key ⟨k,IntKind.i64.wrap (1+y),0,[]⟩ a2 _ _ _ (by rw[ab y g2 (by omega),fE,B1 ao];simp[inB];omega) (by omega) (fF)
  have h1:=J;refine R0 ?_;refine aJ (b:=_) rfl (fun J=>?_) (fun J=>?_)
  ·
   refine Rg ?_;refine S0 ?_;refine HS rfl rfl fun U I=>T5 ?_;refine bP (args:=[_]) (dS L a1 2 (by omega) (by omega)) rfl (by simp) ⟨rfl,rfl,rfl,rfl⟩ ?_;rintro u v' ⟨y,a2,rfl,rfl,g1,g2,g3,g4⟩;have g5:=g4 (by omega);clear g3 g4;refine AX (I _ _ ?_);clear I U;refine AU ?_;refine HS rfl rfl fun U I=>T5 ?_;refine bP (args:=[_]) (dS L a2 2 (by omega) (by omega)) rfl (by simp) ⟨rfl,rfl,rfl,rfl⟩ ?_;rintro u v' ⟨z,a3,rfl,rfl,f1,f2,f3,f4⟩;refine AX (I _ _ ?_);clear I U;refine AU ?_;refine T4 ?_;have n1: ¬(k=1∨k=3∨k=5):=by simpa using h1
   have f5:=f4 (by omega);have ak:k=4:=by simpa using J
   exact key ⟨k,IntKind.i64.wrap (1+y),z,[]⟩ a3 _ _ _ (by rw[ab y g2 (by omega),fE,A7 n1,B1 ak];simp[inB];omega) (by omega) (fF)
  have n4: ¬k=4:=by simpa using J
  refine R0 ?_;refine aJ (b:=_) rfl (fun J=>?_) (fun J=>?_)
  ·
   refine aY (by kernel_rfl) ?_;simp only[sR,simprocAttr];refine SG0 ?_;refine cN (g:=none) 220 rfl rfl fun U I=>?_;simp only[gH,kC,sH,↓sP,sA,tyS,simprocAttr];repeat refine AI ?_
   refine cO (by first|rfl|simp) ?_;try simp only[sH,↓sP,sA,tyS,simprocAttr]
   refine AX (I _ _ ?_);clear I U;refine cE (g:=none) rfl rfl fun U I=>T5 ?_;refine bP (args:=[_]) (wE L a1 [[115,104,111,112],[119,101,98]] (by omega) (by decide)) rfl (by simp) ⟨rfl,rfl,rfl,rfl⟩ ?_;rintro u v' ⟨w,a2,rfl,ad,rfl,g1⟩;refine AX (I _ _ ?_);clear I U;iterate 2 refine SG0 ?_
   refine T4 ?_;have n1: ¬(k=1∨k=3∨k=5):=by simpa using h1
   have ai:k=2:=by simpa using J
   exact key ⟨k,0,0,w⟩ a2 _ _ _ (by
    have ae:fL w=true:=by
     simp only[E0,H7,N6]at ad;rcases ad with rfl|rfl<;>decide
    rw[fE,A7 n1,A7 n4,B1 ai,ae];rfl) (by omega) (fF)
  have n2: ¬k=2:=by simpa using J
  refine R0 ?_;refine aJ (b:=_) rfl (fun J=>?_) (fun J=>?_)
  ·
   refine Rg ?_;refine S0 ?_;refine HS rfl rfl fun U I=>T5 ?_;refine bP (args:=[_]) (dS L a1 10 (by omega) (by omega)) rfl (by simp) ⟨rfl,rfl,rfl,rfl⟩ ?_;rintro u v' ⟨y,a2,rfl,rfl,g1,g2,g3,g4⟩;refine AX (I _ _ ?_);clear I U;refine AU ?_;refine T4 ?_;have n1: ¬(k=1∨k=3∨k=5):=by simpa using h1
   have g5:=g4 (by omega);have aj:k=6:=by simpa using J
   exact key ⟨k,IntKind.i64.wrap (1+y),0,[]⟩ a2 _ _ _ (by rw[ab y g2 (by omega),fE,A7 n1,A7 n4,A7 n2,B1 aj];simp[inB];omega) (by omega) (fF)
  have n6: ¬k=6:=by simpa using J
  refine R0 ?_;refine aJ (b:=_) rfl (fun J=>?_) (fun J=>?_)
  ·
   refine Rg ?_;refine S0 ?_;refine HS rfl rfl fun U I=>T5 ?_;refine bP (args:=[_]) (dS L a1 30 (by omega) (by omega)) rfl (by simp) ⟨rfl,rfl,rfl,rfl⟩ ?_;rintro u v' ⟨y,a2,rfl,rfl,g1,g2,g3,g4⟩;refine AX (I _ _ ?_);clear I U;refine AU ?_;refine T4 ?_;have n1: ¬(k=1∨k=3∨k=5):=by simpa using h1
   have g5:=g4 (by omega);have ag:k=7:=by simpa using J
   exact key ⟨k,y,0,[]⟩ a2 _ _ _ (by rw[fE,A7 n1,A7 n4,A7 n2,A7 n6,B1 ag,vE];simp[inB];omega) (by omega) (fF)
  refine aG (T3 ?_);have n1: ¬(k=1∨k=3∨k=5):=by simpa using h1
  have n7: ¬k=7:=by simpa using J
  have an:k=8:=by omega
  exact key ⟨k,0,0,[]⟩ a1 _ _ _ (by rw[fE,A7 n1,A7 n4,A7 n2,A7 n6,A7 n7,B1 an];rfl) (by omega) (fF)
 refine R0 ?_;refine aJ (b:=_) rfl (fun J=>?_) (fun J=>?_)
 · refine aG (T3 ?_);exact aa (k==1) _ _ _ (by rw[J];rfl) (fG (by simp[Rq.cv,rq0]))
 have h1:=J;refine R0 ?_;refine aJ (b:=_) rfl (fun J=>?_) (fun J=>?_)
 · refine aG (T3 ?_);exact aa (k==3) _ _ _ (by rw[h1,J];rfl) (fG (by simp[Rq.cv,rq0]))
 have ah:=J;refine aM (by kernel_rfl) ?_;simp only[↓sP,sA,tyS,simprocAttr];exact aa (k==5) _ _ _ (by rw[h1,ah];rfl) (fG (by simp[Rq.cv,rq0]))
def wiN (n k:Int):Int:=(n.tmod k+k).tmod k
theorem bF4 (n k:Int)(h1:1≤k)(hk:k<2^40):bM Tryz.prog 34 [.int .i64 n,.int .i64 k] (fun v=>v= .int .i64 (wiN n k)):=by
 have U:=Q2 n (b:=k) (by omega);have e1: -k<n.tmod k:=V4 n (by omega);have J:IntKind.i64.wrap (n.tmod k+k)=n.tmod k+k:=B0 _ (by omega);have I:(k=0)=False:=by simp;omega
 refine FW Tryz.func34 ?_;refine R0 ?_;refine RS ?_;have F:=aI J I;refine AU ?_;refine aE (RT Tryz.results34 ?_);exact aF [] (.int .i64 (wiN n k)) rfl rfl
theorem dH0 {n k:Int}(J:1≤k):0≤wiN n k∧wiN n k<k:=by
 have I: -k<n.tmod k:=V4 n (by omega);exact⟨AV k (show 0≤n.tmod k+k by omega),Q2 (n.tmod k+k) (b:=k) (by omega)⟩
end Go.Proofs.YthedbjfipmkpiaaGreatDoor
