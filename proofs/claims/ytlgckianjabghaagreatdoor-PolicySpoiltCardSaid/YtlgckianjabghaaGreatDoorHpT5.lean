/- Part of a proof: walks of functions of the program, by contracts, and the rules they use. By an AI agent. -/
import Derived.Test.YtlgckianjabghaaGreatDoorHpU3
import Derived.Test.YtlgckianjabghaaGreatDoorHpV7
set_option maxRecDepth 10000
set_option maxHeartbeats 16000000
set_option linter.unusedSimpArgs false
set_option linter.unusedVariables false
set_option linter.defProp false
namespace Go.Proofs.YtlgckianjabghaaGreatDoor
open Go Go.Hl Go.Pl
def exK (ls:List (List aH))(kk N:Nat):List HV:=(ls.map fun l=>HV.c (lsC l)).set kk (.own N (ls.getD kk []).length)
theorem gW (ls:List (List aH))(kk N:Nat):(exK ls kk N).length=ls.length:=by simp[exK]
variable {kk N:Nat}{ls:List (List aH)}
theorem lW (h:kk<ls.length):kJ (exK ls kk N) kk= .own N (ls.getD kk []).length:=by simp[exK,kJ,h]
theorem cZ0 {i:Nat}(h:i<ls.length)(hne:i≠kk):kJ (exK ls kk N) i= .c (lsC ls[i]):=by
 simp[exK,kJ,BJ,h,W7 hne]
theorem lX (ob:Ob)(cl:List Nat): ∀l:List HV,HV.closeL ob cl l=l.map (fun v=>(v.close ob cl).norm)
 |[]=>rfl
 |x::l=>by rw[HV.closeL,lX ob cl l];rfl
theorem kU (M:Nat→Nat): ∀l:List HV,HV.renL M l=l.map (fun v=>v.ren M)
 |[]=>rfl
 |x::l=>by rw[HV.renL,kU M l];rfl
theorem vG (M:Nat→Prop): ∀l:List HV,HV.menL M l↔ ∀v∈l,v.men M
 |[]=>by simp
 |x::l=>by rw[HV.menL,vG M l];simp
theorem fU {M:Nat→Prop}(h:M N):HV.menL M (exK ls kk N):=by
 rw[vG];intro v hv;rcases K4 hv with hv|rfl
 · obtain⟨l,_,rfl⟩:=L3.1 hv;simp
 simpa using h
theorem jD {n:Nat}(h:1<n):HV.menL (fun x=>x<n) (exK ls kk 1):=fU h
variable {ob:Ob}
theorem qN {cl:List Nat}(h:N∉cl):HV.closeL ob cl (exK ls kk N)=exK ls kk N:=by
 rw[lX,exK,N4,P7];congr 1
 · apply N7;intro l _;simp[lsC,denilL_str]
 simp[h]
theorem tX {M:Nat→Nat}:HV.renL M (exK ls kk N)=exK ls kk (M N):=by
 rw[kU,exK,N4,P7];congr 1
def osK (ls:List (List aH))(kk:Nat):List HO:=[.hrow 37 1 (exK ls kk 1),.row 9 1 ((ls.getD kk []).map .str)]
def EkP (ls:List (List aH))(kk:Nat)(r:HV)(os':List HO):Prop:= ∃u,r= .tup [.c u,.c (.int .i64 (gL ls))]∧os'=osK ls kk
theorem cZ1 (ls:List (List aH))(kk:Nat):lst (osK ls kk)=fob [(0,.hrow 37 1 (exK ls kk 1)),(1,.row 9 1 ((ls.getD kk []).map .str))]:=by
 funext i
 match i with
 |0=>rfl
 |1=>rfl
 |i+2=>simp[lst,osK,fob,dK,upd]
theorem kO {r:HV}(cl:List Nat)(u:CV)(e:Int)(hcl:0∉cl∧1∉cl)(hr:(r.close ob cl).norm= .tup [.c u,.c (.int .i64 e)])(h0:ob 0=some (.hrow 37 1 (exK ls kk 1)))(h1:ob 1=some (.row 9 1 ((ls.getD kk []).map .str)))(he:gL ls=e):
  lC 2 r ob (fun r ob'=> ∃os',ob'=lst os'∧((osK ls kk).length≤os'.length∧os'.length≤(osK ls kk).length+4)∧EkP ls kk r os'):=by
 refine dS cl [] (.tup [.c u,.c (.int .i64 e)]) (osK ls kk) (by rw[hr];rfl) (by simp) ⟨⟨by simp[fU],hcl.1,_,(by simpa[tau]using h0),?_⟩,⟨by simp,hcl.2,_,(by simpa[tau]using h1),rfl⟩,trivial⟩ rfl (by simp) (by simp) (by simp) ⟨u,by rw[he],rfl⟩;simp[qN hcl.2,tX,fC,tau]
theorem cC8 (ls:List (List aH))(kk:Nat)(hkk:kk<ls.length)(h0:ls.length<2^40)(h1: ∀l∈ls,l.length<2^40):HGe Tryz.prog 9 [.own 0 ls.length] (osK ls kk) (EkP ls kk):=by
 refine cA (args:=[.own 0 ls.length]) Tryz.func9 rfl (by kernel_rfl) (eM rfl (by simp[osK,dO,fU]) (by simp[osK])) (C4 rfl) ?_;show Hw _ _ 2 _ _ _ (lst _) 2;rw[cZ1];have hxl:=gW ls kk 1;refine R0 ?_;refine aC fun K hK=>?_;refine aC fun K hK=>aZ (by kernel_rfl) ?_;simp only[sR,simprocAttr];have F:=hxl;refine SGF ?_;refine aX (g:=none) rfl rfl fun K' hK'=>?_;simp only[sN,↓hopH.eq_def,sH,↓sP,sA,tyS,simprocAttr,hxl];refine AX (hK' _ _ ?_);clear hK' K';refine SGF ?_;refine T2 (hK _ _ _ ?_);clear hK K;refine aF (b:=decide ((1000:Int)<ls.length)) rfl (fun hb=>?_) (fun hb=>?_)
 · refine R0 ?_;refine aE (RT Tryz.results9 ?_);have hE:=qC (ls:=ls) (by simp at hb;omega);exact kO [] (.slc []) 3 (by simp) (by simp) rfl rfl hE
 refine aJ ?_;refine T0 (hK _ _ _ ?_);clear hK K;have hn:ls.length≤1000:=by simp at hb;omega
 clear hb;refine R0 ?_;refine aC fun K hK=>?_;refine R0 ?_;refine aM ?_;refine iN 4 0 5 1 rfl rfl rfl rfl ?_;refine bN (α:={i:Nat//i≤ls.length∧ ∀x∈ls.take i,okL x=true}) (fun i=>(fin [(0,.own 0 ls.length),(4,.own 30 (eO (ls.take i.1)).length),(5,.c (.int .i64 i.1))],fob [(0,.hrow 37 1 (exK ls kk 1)),(1,.row 9 1 ((ls.getD kk []).map .str)),(30,.row 5 1 ((eO (ls.take i.1)).map dG))])) 100 (fun i=>ls.length-i.1) ⟨0,by omega,by simp⟩ (fG (by simp[jD])) ?_;rintro⟨i,hi,hk⟩;refine aC fun K hK=>?_;refine aC fun K hK=>aZ (by kernel_rfl) ?_;simp only[sR,simprocAttr];iterate 2 refine SGF ?_
 refine aX (g:=none) rfl rfl fun K' hK'=>?_;simp only[sN,↓hopH.eq_def,sH,↓sP,sA,tyS,simprocAttr,hxl];refine AX (hK' _ _ ?_);clear hK' K';refine SGF ?_;refine T2 (hK _ _ _ ?_);clear hK K;refine aF (b:=decide ((i:Int)<ls.length)) rfl (fun hb=>?_) (fun hb=>?_)
 ·
  have hlt:i<ls.length:=by simpa using hb
  clear hb;have hl1:=h1 ls[i] (C0 hlt);have hne: ∀l∈ls.take i,l≠[]:=fun l hl=>((gR l).1 (hk l hl)).1;have hsd:=aK8 hk;rw[D9]at hsd;have hdl:=oR hne;have hdt1:=uS hlt;obtain⟨l,hl⟩: ∃l,l=ls[i]:=⟨_,rfl⟩;rw[←hl]at hdt1 hl1;have hlti:(i:Int)<ls.length:=by omega
  refine aJ ?_;refine T0 (hK _ _ _ ?_);clear hK K;refine aC fun K hK=>?_;refine aM ?_;refine aC fun K hK=>?_;by_cases hik:i=kk
  ·
   have hgk:ls.getD kk []=l:=by rw[hl,←hik,C7,B5 hlt];rfl
   have hgk2:ls[kk]?.getD []=l:=by rw[←List.getD_eq_getElem?_getD];exact hgk
   have hnx:kJ (exK ls kk 1) i= .own 1 l.length:=by rw[hik,lW hkk,hgk]
   refine aC fun K hK=>aZ (by kernel_rfl) ?_;simp only[sR,simprocAttr];have F:=aI @A0 (aI @A4 (aI hlt (aI hxl (aI hnx (aI hgk (aI @A2.{0,0} @A5))))));iterate 2 refine SGF ?_
   refine aX (g:=none) rfl rfl fun K' hK'=>?_;simp only[sN,↓hopH.eq_def,sH,↓sP,sA,tyS,simprocAttr,A0,A4,hlt,hxl,hnx,hgk,A2,A5];refine AX (hK' _ _ ?_);clear hK' K';refine aX (g:=none) rfl rfl fun K' hK'=>?_;simp only[sN,↓hopH.eq_def,sH,↓sP,sA,tyS,simprocAttr,A0,A4,hlt,hxl,hnx,hgk,A2,A5];refine AX (hK' _ _ ?_);clear hK' K';iterate 2 refine SGF ?_
   refine T2 (hK _ _ _ ?_);clear hK K;refine aF (b:=(l.length:Int)==0) rfl (fun hb=>?_) (fun hb=>?_)
   ·
    refine R0 ?_;refine aE (RT Tryz.results9 ?_);have hc:iO l=1:=by rw[iO,B6 (by simp at hb;simp[hb])]
    have hE:=iA hn hlt hk (by rw[←hl,okL,hc];rfl);rw[←hl,hc]at hE;exact kO [] (.slc []) 1 (by simp) (by simp) rfl (by rw[hgk];rfl) hE
   refine aJ ?_;refine T0 (hK _ _ _ ?_);clear hK K;refine aC fun K hK=>?_;have hn0:l.length≠0:=by simp at hb;simp[hb]
   clear hb;refine aC fun K hK=>aZ (by kernel_rfl) ?_;simp only[sR,simprocAttr];iterate 2 refine SGF ?_
   refine aX (g:=none) rfl rfl fun K' hK'=>?_;simp only[sN,↓hopH.eq_def,sH,↓sP,sA,tyS,simprocAttr,A0,A4,hlt,hxl,hnx,hgk,A2,A5];refine AX (hK' _ _ ?_);clear hK' K';refine aX (g:=none) rfl rfl fun K' hK'=>?_;simp only[sN,↓hopH.eq_def,sH,↓sP,sA,tyS,simprocAttr,A0,A4,hlt,hxl,hnx,hgk,A2,A5];refine AX (hK' _ _ ?_);clear hK' K';iterate 2 refine SGF ?_
   refine T2 (hK _ _ _ ?_);clear hK K;refine aF (b:=decide ((120:Int)<l.length)) rfl (fun hb=>?_) (fun hb=>?_)
   ·
    refine R0 ?_;refine aE (RT Tryz.results9 ?_);have hc:iO l=3:=by rw[iO,A7 hn0,B6 (by simp at hb;omega)]
    have hE:=iA hn hlt hk (by rw[←hl,okL,hc];rfl);rw[←hl,hc]at hE;exact kO [] (.slc []) 3 (by simp) (by simp) rfl (by rw[hgk];rfl) hE
   refine aJ ?_;refine T0 (hK _ _ _ ?_);clear hK K;refine aC fun K hK=>?_;have hn1:l.length≤120:=by simp at hb;omega
   clear hb;refine R0 ?_;refine aM ?_;refine bN (α:={k:Nat//k≤l.length∧ ∀x∈l.take k,x.length≤32768}) (fun k=>(fin [(0,.own 0 ls.length),(4,.own 30 (eO (ls.take i)++fR (l.take k.1)).length),(5,.c (.int .i64 i)),(6,.c (.int .i64 k.1))],fob [(0,.hrow 37 1 (exK ls kk 1)),(1,.row 9 1 ((ls.getD kk []).map .str)),(30,.row 5 1 ((eO (ls.take i)++fR (l.take k.1)).map dG))])) 200 (fun k=>l.length-k.1) ⟨0,by omega,by simp⟩ (fG (by simp[jD,hgk2])) ?_;rintro⟨k,hk',hkw⟩;have hsw:=yK (l.take k) hkw;rw[D9]at hsw;refine aC fun K hK=>?_;refine aC fun K hK=>aZ (by kernel_rfl) ?_;simp only[sR,simprocAttr];have F:=aI @A0 (aI hlti (aI hxl (aI hnx (aI hgk (aI @A2.{0,0} @A5)))));iterate 3 refine SGF ?_
   refine aX (g:=none) rfl rfl fun K' hK'=>?_;simp only[sN,↓hopH.eq_def,sH,↓sP,sA,tyS,simprocAttr,A0,hlti,hxl,hnx,hgk,A2,A5];refine AX (hK' _ _ ?_);clear hK' K';refine aX (g:=none) rfl rfl fun K' hK'=>?_;simp only[sN,↓hopH.eq_def,sH,↓sP,sA,tyS,simprocAttr,A0,hlti,hxl,hnx,hgk,A2,A5];refine AX (hK' _ _ ?_);clear hK' K';iterate 2 refine SGF ?_
   refine T2 (hK _ _ _ ?_);clear hK K;refine aF (b:=decide ((k:Int)<l.length)) rfl (fun hb=>?_) (fun hb=>?_)
   ·
    have hlk:k<l.length:=by simpa using hb
    clear hb;refine aJ ?_;refine T0 (hK _ _ _ ?_);clear hK K;refine aC fun K hK=>?_;refine aM ?_;refine aC fun K hK=>?_;refine aC fun K hK=>aZ (by kernel_rfl) ?_;simp only[sR,simprocAttr];have F:=aI @A0 (aI @A4 (aI hlt (aI hlk (aI (nM hlk) (aI hxl (aI hnx (aI hgk (aI @A2.{0,0} @A5))))))));iterate 2 refine SGF ?_
    refine aX (g:=none) rfl rfl fun K' hK'=>?_;simp only[sN,↓hopH.eq_def,sH,↓sP,sA,tyS,simprocAttr,A0,A4,hlt,hlk,aV hlk,hxl,hnx,hgk,A2,A5];refine AX (hK' _ _ ?_);clear hK' K';refine aX (g:=none) rfl rfl fun K' hK'=>?_;simp only[sN,↓hopH.eq_def,sH,↓sP,sA,tyS,simprocAttr,A0,A4,hlt,hlk,aV hlk,hxl,hnx,hgk,A2,A5];refine AX (hK' _ _ ?_);clear hK' K';iterate 5 refine SGF ?_
    refine T2 (hK _ _ _ ?_);clear hK K;refine aF (b:=decide ((32768:Int)<l[k].length)) rfl (fun hb=>?_) (fun hb=>?_)
    ·
     refine R0 ?_;refine aE (RT Tryz.results9 ?_);have hc:iO l=3:=by rw[iO,A7 hn0,A7 (by omega),B6];simp only[S4,B9];exact⟨_,C0 hlk,by simp at hb;omega⟩
     have hE:=iA hn hlt hk (by rw[←hl,okL,hc];rfl);rw[←hl,hc]at hE;exact kO [] (.slc []) 3 (by simp) (by simp) rfl (by rw[hgk];rfl) hE
    refine aJ ?_;refine T0 (hK _ _ _ ?_);clear hK K;refine aC fun K hK=>?_;have hw2:l[k].length≤32768:=by simp at hb;omega
    clear hb;have hel:=mR l[k];have hsz:=jU l[k];have hsp:=qA l[k];have hpe:0<(gQ l[k]).length:=by omega
    have htk:=qB hlk;have hbe:(eO (ls.take i)).length+(fR (l.take k)).length+(gQ l[k]).length≤140737488355328:=by omega
    have hbe1:(eO (ls.take i)).length+(fR (l.take k)).length+1+(gQ l[k]).length≤140737488355328:=by omega
    refine R0 ?_;refine aF (b:=decide ((0:Int)<k)) rfl (fun hb=>?_) (fun hb=>?_)
    ·
     refine Rg ?_;have F:=aI @A3.{0} @A2.{0,0};refine AU ?_;refine T2 (hK _ _ _ ?_);clear hK K;refine aZ (by kernel_rfl) ?_;simp only[sR,simprocAttr];iterate 3 refine SG0 ?_ (e:=fun _ h_=>by simp only[sH,↓sP,sA,tyS,simprocAttr,A0,A4,hlt,hlk,aV hlk,A3,hpe,hbe,hbe1,hxl,hnx,hgk,A2,A5];exact AX h_)
     refine aX (g:=none) rfl rfl fun K' hK'=>?_;simp only[sN,↓hopH.eq_def,sH,↓sP,sA,tyS,simprocAttr,A0,A4,hlt,hlk,aV hlk,A3,hpe,hbe,hbe1,hxl,hnx,hgk,A2,A5];refine AX (hK' _ _ ?_);clear hK' K';refine aX (g:=none) rfl rfl fun K' hK'=>?_;simp only[sN,↓hopH.eq_def,sH,↓sP,sA,tyS,simprocAttr,A0,A4,hlt,hlk,aV hlk,A3,hpe,hbe,hbe1,hxl,hnx,hgk,A2,A5];refine AX (hK' _ _ ?_);clear hK' K';iterate 3 refine SG0 ?_ (e:=fun _ h_=>by simp only[sH,↓sP,sA,tyS,simprocAttr,A0,A4,hlt,hlk,aV hlk,A3,hpe,hbe,hbe1,hxl,hnx,hgk,A2,A5];exact AX h_)
     refine bU (g:=none) rfl rfl fun K' hK'=>?_;simp only[sH,↓sP,sA,tyS,simprocAttr,A0,A4,hlt,hlk,aV hlk,A3,hpe,hbe,hbe1,hxl,hnx,hgk,A2,A5];refine C1 (nB l[k] (by omega)) ?_;rintro u rfl;refine AX (hK' _ _ ?_);clear hK' K';iterate 2 refine SG0 ?_ (e:=fun _ h_=>by simp only[sH,↓sP,sA,tyS,simprocAttr,A0,A4,hlt,hlk,aV hlk,A3,hpe,hbe,hbe1,hxl,hnx,hgk,A2,A5];exact AX h_)
     refine T2 (hK _ _ _ ?_);clear hK K;refine aL (by kernel_rfl) ?_;refine TQ (fS k) ?_;have hk0:k≠0:=by simp at hb;omega
     refine⟨⟨k+1,hlk,gS (p:=fun x=>x.length≤32768) hlk hw2 hkw⟩,aP (by omega) ?_ ?_,?_⟩
     · rw[htk,A7 hk0];simp;omega
     · rw[htk,A7 hk0];simp only[C5,←List.append_assoc];exact⟨rfl,by omega,jD (by omega),(by rw[hgk];rfl),by omega,trivial,rfl,by omega,trivial,trivial⟩
     show l.length-(k+1)<l.length-k;omega
    refine aJ ?_;refine T0 (hK _ _ _ ?_);clear hK K;refine aZ (by kernel_rfl) ?_;simp only[sR,simprocAttr];iterate 3 refine SG0 ?_ (e:=fun _ h_=>by simp only[sH,↓sP,sA,tyS,simprocAttr,A0,A4,hlt,hlk,aV hlk,A3,hpe,hbe,hbe1,hxl,hnx,hgk,A2,A5];exact AX h_)
    refine aX (g:=none) rfl rfl fun K' hK'=>?_;simp only[sN,↓hopH.eq_def,sH,↓sP,sA,tyS,simprocAttr,A0,A4,hlt,hlk,aV hlk,A3,hpe,hbe,hbe1,hxl,hnx,hgk,A2,A5];refine AX (hK' _ _ ?_);clear hK' K';refine aX (g:=none) rfl rfl fun K' hK'=>?_;simp only[sN,↓hopH.eq_def,sH,↓sP,sA,tyS,simprocAttr,A0,A4,hlt,hlk,aV hlk,A3,hpe,hbe,hbe1,hxl,hnx,hgk,A2,A5];refine AX (hK' _ _ ?_);clear hK' K';iterate 3 refine SG0 ?_ (e:=fun _ h_=>by simp only[sH,↓sP,sA,tyS,simprocAttr,A0,A4,hlt,hlk,aV hlk,A3,hpe,hbe,hbe1,hxl,hnx,hgk,A2,A5];exact AX h_)
    refine bU (g:=none) rfl rfl fun K' hK'=>?_;simp only[sH,↓sP,sA,tyS,simprocAttr,A0,A4,hlt,hlk,aV hlk,A3,hpe,hbe,hbe1,hxl,hnx,hgk,A2,A5];refine C1 (nB l[k] (by omega)) ?_;rintro u rfl;refine AX (hK' _ _ ?_);clear hK' K';iterate 2 refine SG0 ?_ (e:=fun _ h_=>by simp only[sH,↓sP,sA,tyS,simprocAttr,A0,A4,hlt,hlk,aV hlk,A3,hpe,hbe,hbe1,hxl,hnx,hgk,A2,A5];exact AX h_)
    refine T2 (hK _ _ _ ?_);clear hK K;refine aL (by kernel_rfl) ?_;refine TQ (fS k) ?_;have hk0:k=0:=by simp at hb;omega
    refine⟨⟨k+1,hlk,gS (p:=fun x=>x.length≤32768) hlk hw2 hkw⟩,aP (by omega) ?_ ?_,?_⟩
    · rw[htk,B6 hk0];simp;omega
    · rw[htk,B6 hk0,I9];simp only[C5,←List.append_assoc];exact⟨rfl,by omega,jD (by omega),(by rw[hgk];rfl),by omega,trivial,rfl,by omega,trivial,trivial⟩
    show l.length-(k+1)<l.length-k;omega
   have hek:k=l.length:=by simp at hb;omega
   subst hek;clear hb;rw[E2]at*;have hokl:okL l=true:=(gR l).2 ⟨fun h=>hn0 (by rw[h];rfl),hn1,hkw⟩;refine bG (T3 ?_);clear hK K;refine AX (hK _ _ _ ?_);clear hK K;refine Rg ?_;have F:=aI @A3.{0} (aI @A2.{0,0} @E2.{0});refine AU ?_;refine T2 (hK _ _ _ ?_);clear hK K;refine aL (by kernel_rfl) ?_;refine TQ (fS i) ?_;refine⟨⟨i+1,hlt,gS (p:=fun x=>okL x=true) hlt (by rw[←hl];exact hokl) hk⟩,aP (by omega) ?_ ?_,?_⟩
   · rw[hdt1,qT];simp;try omega
   · rw[hdt1,qT];simp only[C5,←List.append_assoc,E2];exact⟨rfl,by omega,jD (by omega),(by rw[hgk];rfl),by omega,trivial,rfl,by omega,trivial,trivial⟩
   show ls.length-(i+1)<ls.length-i;omega
  have hnx:kJ (exK ls kk 1) i= .c (.slc (l.map .str)):=by rw[cZ0 hlt hik,←hl];rfl
  refine aC fun K hK=>aZ (by kernel_rfl) ?_;simp only[sR,simprocAttr];have F:=aI @A0 (aI @A4 (aI hlt (aI hxl (aI hnx (aI @A2.{0,0} @A5)))));iterate 2 refine SGF ?_
  refine aX (g:=none) rfl rfl fun K' hK'=>?_;simp only[sN,↓hopH.eq_def,sH,↓sP,sA,tyS,simprocAttr,A0,A4,hlt,hxl,hnx,A2,A5];refine AX (hK' _ _ ?_);clear hK' K';refine aX (g:=none) rfl rfl fun K' hK'=>?_;simp only[sN,↓hopH.eq_def,sH,↓sP,sA,tyS,simprocAttr,A0,A4,hlt,hxl,hnx,A2,A5];refine AX (hK' _ _ ?_);clear hK' K';iterate 2 refine SGF ?_
  refine T2 (hK _ _ _ ?_);clear hK K;refine aF (b:=(l.length:Int)==0) rfl (fun hb=>?_) (fun hb=>?_)
  ·
   refine R0 ?_;refine aE (RT Tryz.results9 ?_);have hc:iO l=1:=by rw[iO,B6 (by simp at hb;simp[hb])]
   have hE:=iA hn hlt hk (by rw[←hl,okL,hc];rfl);rw[←hl,hc]at hE;exact kO [] (.slc []) 1 (by simp) (by simp) rfl rfl hE
  refine aJ ?_;refine T0 (hK _ _ _ ?_);clear hK K;refine aC fun K hK=>?_;have hn0:l.length≠0:=by simp at hb;simp[hb]
  clear hb;refine aC fun K hK=>aZ (by kernel_rfl) ?_;simp only[sR,simprocAttr];iterate 2 refine SGF ?_
  refine aX (g:=none) rfl rfl fun K' hK'=>?_;simp only[sN,↓hopH.eq_def,sH,↓sP,sA,tyS,simprocAttr,A0,A4,hlt,hxl,hnx,A2,A5];refine AX (hK' _ _ ?_);clear hK' K';refine aX (g:=none) rfl rfl fun K' hK'=>?_;simp only[sN,↓hopH.eq_def,sH,↓sP,sA,tyS,simprocAttr,A0,A4,hlt,hxl,hnx,A2,A5];refine AX (hK' _ _ ?_);clear hK' K';iterate 2 refine SGF ?_
  refine T2 (hK _ _ _ ?_);clear hK K;refine aF (b:=decide ((120:Int)<l.length)) rfl (fun hb=>?_) (fun hb=>?_)
  ·
   refine R0 ?_;refine aE (RT Tryz.results9 ?_);have hc:iO l=3:=by rw[iO,A7 hn0,B6 (by simp at hb;omega)]
   have hE:=iA hn hlt hk (by rw[←hl,okL,hc];rfl);rw[←hl,hc]at hE;exact kO [] (.slc []) 3 (by simp) (by simp) rfl rfl hE
  refine aJ ?_;refine T0 (hK _ _ _ ?_);clear hK K;refine aC fun K hK=>?_;have hn1:l.length≤120:=by simp at hb;omega
  clear hb;refine R0 ?_;refine aM ?_;refine bN (α:={k:Nat//k≤l.length∧ ∀x∈l.take k,x.length≤32768}) (fun k=>(fin [(0,.own 0 ls.length),(4,.own 30 (eO (ls.take i)++fR (l.take k.1)).length),(5,.c (.int .i64 i)),(6,.c (.int .i64 k.1))],fob [(0,.hrow 37 1 (exK ls kk 1)),(1,.row 9 1 ((ls.getD kk []).map .str)),(30,.row 5 1 ((eO (ls.take i)++fR (l.take k.1)).map dG))])) 200 (fun k=>l.length-k.1) ⟨0,by omega,by simp⟩ (fG (by simp[jD])) ?_;rintro⟨k,hk',hkw⟩;have hsw:=yK (l.take k) hkw;rw[D9]at hsw;refine aC fun K hK=>?_;refine aC fun K hK=>aZ (by kernel_rfl) ?_;simp only[sR,simprocAttr];have F:=aI @A0 (aI hlti (aI hxl (aI hnx (aI @A2.{0,0} @A5))));iterate 3 refine SGF ?_
  refine aX (g:=none) rfl rfl fun K' hK'=>?_;simp only[sN,↓hopH.eq_def,sH,↓sP,sA,tyS,simprocAttr,A0,hlti,hxl,hnx,A2,A5];refine AX (hK' _ _ ?_);clear hK' K';refine aX (g:=none) rfl rfl fun K' hK'=>?_;simp only[sN,↓hopH.eq_def,sH,↓sP,sA,tyS,simprocAttr,A0,hlti,hxl,hnx,A2,A5];refine AX (hK' _ _ ?_);clear hK' K';iterate 2 refine SGF ?_
  refine T2 (hK _ _ _ ?_);clear hK K;refine aF (b:=decide ((k:Int)<l.length)) rfl (fun hb=>?_) (fun hb=>?_)
  ·
   have hlk:k<l.length:=by simpa using hb
   clear hb;refine aJ ?_;refine T0 (hK _ _ _ ?_);clear hK K;refine aC fun K hK=>?_;refine aM ?_;refine aC fun K hK=>?_;refine aC fun K hK=>aZ (by kernel_rfl) ?_;simp only[sR,simprocAttr];have F:=aI @A0 (aI @A4 (aI hlt (aI hlk (aI (nM hlk) (aI hxl (aI hnx (aI @A2.{0,0} @A5)))))));iterate 2 refine SGF ?_
   refine aX (g:=none) rfl rfl fun K' hK'=>?_;simp only[sN,↓hopH.eq_def,sH,↓sP,sA,tyS,simprocAttr,A0,A4,hlt,hlk,aV hlk,hxl,hnx,A2,A5];refine AX (hK' _ _ ?_);clear hK' K';refine aX (g:=none) rfl rfl fun K' hK'=>?_;simp only[sN,↓hopH.eq_def,sH,↓sP,sA,tyS,simprocAttr,A0,A4,hlt,hlk,aV hlk,hxl,hnx,A2,A5];refine AX (hK' _ _ ?_);clear hK' K';iterate 5 refine SGF ?_
   refine T2 (hK _ _ _ ?_);clear hK K;refine aF (b:=decide ((32768:Int)<l[k].length)) rfl (fun hb=>?_) (fun hb=>?_)
   ·
    refine R0 ?_;refine aE (RT Tryz.results9 ?_);have hc:iO l=3:=by rw[iO,A7 hn0,A7 (by omega),B6];simp only[S4,B9];exact⟨_,C0 hlk,by simp at hb;omega⟩
    have hE:=iA hn hlt hk (by rw[←hl,okL,hc];rfl);rw[←hl,hc]at hE;exact kO [] (.slc []) 3 (by simp) (by simp) rfl rfl hE
   refine aJ ?_;refine T0 (hK _ _ _ ?_);clear hK K;refine aC fun K hK=>?_;have hw2:l[k].length≤32768:=by simp at hb;omega
   clear hb;have hel:=mR l[k];have hsz:=jU l[k];have hsp:=qA l[k];have hpe:0<(gQ l[k]).length:=by omega
   have htk:=qB hlk;have hbe:(eO (ls.take i)).length+(fR (l.take k)).length+(gQ l[k]).length≤140737488355328:=by omega
   have hbe1:(eO (ls.take i)).length+(fR (l.take k)).length+1+(gQ l[k]).length≤140737488355328:=by omega
   refine R0 ?_;refine aF (b:=decide ((0:Int)<k)) rfl (fun hb=>?_) (fun hb=>?_)
   ·
    refine Rg ?_;have F:=aI @A3.{0} @A2.{0,0};refine AU ?_;refine T2 (hK _ _ _ ?_);clear hK K;refine aZ (by kernel_rfl) ?_;simp only[sR,simprocAttr];iterate 3 refine SG0 ?_ (e:=fun _ h_=>by simp only[sH,↓sP,sA,tyS,simprocAttr,A0,A4,hlt,hlk,aV hlk,A3,hpe,hbe,hbe1,hxl,hnx,A2,A5];exact AX h_)
    refine aX (g:=none) rfl rfl fun K' hK'=>?_;simp only[sN,↓hopH.eq_def,sH,↓sP,sA,tyS,simprocAttr,A0,A4,hlt,hlk,aV hlk,A3,hpe,hbe,hbe1,hxl,hnx,A2,A5];refine AX (hK' _ _ ?_);clear hK' K';refine aX (g:=none) rfl rfl fun K' hK'=>?_;simp only[sN,↓hopH.eq_def,sH,↓sP,sA,tyS,simprocAttr,A0,A4,hlt,hlk,aV hlk,A3,hpe,hbe,hbe1,hxl,hnx,A2,A5];refine AX (hK' _ _ ?_);clear hK' K';iterate 3 refine SG0 ?_ (e:=fun _ h_=>by simp only[sH,↓sP,sA,tyS,simprocAttr,A0,A4,hlt,hlk,aV hlk,A3,hpe,hbe,hbe1,hxl,hnx,A2,A5];exact AX h_)
    refine bU (g:=none) rfl rfl fun K' hK'=>?_;simp only[sH,↓sP,sA,tyS,simprocAttr,A0,A4,hlt,hlk,aV hlk,A3,hpe,hbe,hbe1,hxl,hnx,A2,A5];refine C1 (nB l[k] (by omega)) ?_;rintro u rfl;refine AX (hK' _ _ ?_);clear hK' K';iterate 2 refine SG0 ?_ (e:=fun _ h_=>by simp only[sH,↓sP,sA,tyS,simprocAttr,A0,A4,hlt,hlk,aV hlk,A3,hpe,hbe,hbe1,hxl,hnx,A2,A5];exact AX h_)
    refine T2 (hK _ _ _ ?_);clear hK K;refine aL (by kernel_rfl) ?_;refine TQ (fS k) ?_;have hk0:k≠0:=by simp at hb;omega
    refine⟨⟨k+1,hlk,gS (p:=fun x=>x.length≤32768) hlk hw2 hkw⟩,aP (by omega) ?_ ?_,?_⟩
    · rw[htk,A7 hk0];simp;omega
    · rw[htk,A7 hk0];simp only[C5,←List.append_assoc];exact⟨rfl,by omega,jD (by omega),rfl,by omega,trivial,rfl,by omega,trivial,trivial⟩
    show l.length-(k+1)<l.length-k;omega
   refine aJ ?_;refine T0 (hK _ _ _ ?_);clear hK K;refine aZ (by kernel_rfl) ?_;simp only[sR,simprocAttr];iterate 3 refine SG0 ?_ (e:=fun _ h_=>by simp only[sH,↓sP,sA,tyS,simprocAttr,A0,A4,hlt,hlk,aV hlk,A3,hpe,hbe,hbe1,hxl,hnx,A2,A5];exact AX h_)
   refine aX (g:=none) rfl rfl fun K' hK'=>?_;simp only[sN,↓hopH.eq_def,sH,↓sP,sA,tyS,simprocAttr,A0,A4,hlt,hlk,aV hlk,A3,hpe,hbe,hbe1,hxl,hnx,A2,A5];refine AX (hK' _ _ ?_);clear hK' K';refine aX (g:=none) rfl rfl fun K' hK'=>?_;simp only[sN,↓hopH.eq_def,sH,↓sP,sA,tyS,simprocAttr,A0,A4,hlt,hlk,aV hlk,A3,hpe,hbe,hbe1,hxl,hnx,A2,A5];refine AX (hK' _ _ ?_);clear hK' K';iterate 3 refine SG0 ?_ (e:=fun _ h_=>by simp only[sH,↓sP,sA,tyS,simprocAttr,A0,A4,hlt,hlk,aV hlk,A3,hpe,hbe,hbe1,hxl,hnx,A2,A5];exact AX h_)
   refine bU (g:=none) rfl rfl fun K' hK'=>?_;simp only[sH,↓sP,sA,tyS,simprocAttr,A0,A4,hlt,hlk,aV hlk,A3,hpe,hbe,hbe1,hxl,hnx,A2,A5];refine C1 (nB l[k] (by omega)) ?_;rintro u rfl;refine AX (hK' _ _ ?_);clear hK' K';iterate 2 refine SG0 ?_ (e:=fun _ h_=>by simp only[sH,↓sP,sA,tyS,simprocAttr,A0,A4,hlt,hlk,aV hlk,A3,hpe,hbe,hbe1,hxl,hnx,A2,A5];exact AX h_)
   refine T2 (hK _ _ _ ?_);clear hK K;refine aL (by kernel_rfl) ?_;refine TQ (fS k) ?_;have hk0:k=0:=by simp at hb;omega
   refine⟨⟨k+1,hlk,gS (p:=fun x=>x.length≤32768) hlk hw2 hkw⟩,aP (by omega) ?_ ?_,?_⟩
   · rw[htk,B6 hk0];simp;omega
   · rw[htk,B6 hk0,I9];simp only[C5,←List.append_assoc];exact⟨rfl,by omega,jD (by omega),rfl,by omega,trivial,rfl,by omega,trivial,trivial⟩
   show l.length-(k+1)<l.length-k;omega
  have hek:k=l.length:=by simp at hb;omega
  subst hek;clear hb;rw[E2]at*;have hokl:okL l=true:=(gR l).2 ⟨fun h=>hn0 (by rw[h];rfl),hn1,hkw⟩;refine bG (T3 ?_);clear hK K;refine AX (hK _ _ _ ?_);clear hK K;refine Rg ?_;have F:=aI @A3.{0} (aI @A2.{0,0} @E2.{0});refine AU ?_;refine T2 (hK _ _ _ ?_);clear hK K;refine aL (by kernel_rfl) ?_;refine TQ (fS i) ?_;refine⟨⟨i+1,hlt,gS (p:=fun x=>okL x=true) hlt (by rw[←hl];exact hokl) hk⟩,aP (by omega) ?_ ?_,?_⟩
  · rw[hdt1,qT];simp;try omega
  · rw[hdt1,qT];simp only[C5,←List.append_assoc,E2];exact⟨rfl,by omega,jD (by omega),rfl,by omega,trivial,rfl,by omega,trivial,trivial⟩
  show ls.length-(i+1)<ls.length-i;omega
 have hei:i=ls.length:=by simp at hb;omega
 subst hei;clear hb;rw[E2]at hk;have hE:=nK hn hk;refine bG (T3 ?_);clear hK K;refine AX (hK _ _ _ ?_);clear hK K;refine aC fun K hK=>?_;have F:=aI @E2.{0} @A2.{0,0};refine RF ?_;refine aF (b:=decide ((262144:Int)<(eO ls).length)) rfl (fun hb=>?_) (fun hb=>?_)
 · refine R0 ?_;refine aE (RT Tryz.results9 ?_);rw[B6 (by simp at hb;omega)]at hE;exact kO [] (.slc []) 3 (by simp) (by simp) rfl rfl hE
 refine aJ ?_;refine T0 (hK _ _ _ ?_);clear hK K;refine R0 ?_;refine aE (RT Tryz.results9 ?_);rw[A7 (by simp at hb;omega)]at hE;refine kO [30] (.slc ((eO ls).map dG)) 0 (by simp) ?_ rfl rfl hE;simp[E6,dE]
theorem cM0 (b:aH)(hl:b.length<2^40):gB Tryz.prog 7 [.slc (b.map u8)] (fun u v=>u= .slc ((decO b).map lsC)∧v= .int .i64 (dZ b)):=by
 refine FW Tryz.func7 ?_;refine R0 ?_;refine aC fun K hK=>?_;have F:=@A2.{0,0};refine RF ?_;refine aF (b:=decide ((262144:Int)<b.length)) rfl (fun hb=>?_) (fun hb=>?_)
 ·
  refine R0 ?_;refine aE (RT Tryz.results7 ?_);have hE:dZ b=3:=by unfold dZ;rw[B6 (by simp at hb;omega)]
  refine aO [] (.slc []) (.int .i64 3) ?_ ⟨by simp only[decO,hE];rfl,by rw[hE]⟩;simp
 refine aJ ?_;refine T0 (hK _ _ _ ?_);clear hK K;refine aC fun K hK=>?_;have hle: ¬262144<b.length:=by simp at hb;omega
 clear hb;refine RF ?_;refine aF (b:=(b.length:Int)==0) rfl (fun hb=>?_) (fun hb=>?_)
 ·
  refine R0 ?_;refine aE (RT Tryz.results7 ?_);have hbe:b=[]:=by simpa using hb
  subst hbe;refine aO [] (.slc []) (.int .i64 0) ?_ ⟨rfl,rfl⟩;simp
 refine aJ ?_;refine T0 (hK _ _ _ ?_);clear hK K;refine aC fun K hK=>?_;have hne:b≠[]:=by rintro rfl;simp at hb
 clear hb;have hpos:0<b.length:=J0.2 hne;have hlt1:b.length-1<b.length:=by omega
 have hwl:IntKind.i64.wrap ((b.length:Int)-1)=((b.length-1:Nat):Int):=by rw[A8 _ (by omega)];omega
 refine aC fun K hK=>Rg ?_;have F:=aI @A2.{0,0} (aI hwl (aI @A0 (aI @A4 (aI hlt1 (aI (nM hlt1) @u8.eq_1)))));iterate 7 refine SF ?_
 refine T2 (hK _ _ _ ?_);clear hK K;refine aF (b:=((b[b.length-1]).toNat:Int) !=10) rfl (fun hb=>?_) (fun hb=>?_)
 ·
  refine R0 ?_;refine aE (RT Tryz.results7 ?_);have hE:dZ b=2:=aF9 hle hne (by
   intro h;rw[C7,B5 hlt1]at h;simp only[E0]at h;rw[h]at hb;simp at hb)
  refine aO [] (.slc []) (.int .i64 2) ?_ ⟨by simp only[decO,hE];rfl,by rw[hE]⟩;simp
 refine aJ ?_;refine T0 (hK _ _ _ ?_);clear hK K;have hl10:b[b.length-1]=10:=by
  simp only[S8]at hb;exact N9.1 (by show b[b.length-1].toNat=10;omega)
 clear hb;obtain⟨m,hm⟩: ∃m,b=m++[10]:=⟨b.dropLast,by rw[←hl10,←List.getLast_eq_getElem hne];exact(O7 hne).symm⟩;have htk:List.take (b.length-1) (b.map u8)=m.map u8:=by rw[hm];simp
 have hbc:iX (m.map u8)=some m:=bytesC_map m;have hml:m.length+1=b.length:=by rw[hm];simp
 have hml3:(m++[(10:UInt8)]).length=m.length+1:=by simp
 rw[hm]at hle;refine aC fun K hK=>Rg ?_;have F:=aI @A2.{0,0} (aI hwl (aI @A0 (aI @H2 (aI @Z9 (aI @lD (aI @L7.{0} (aI @G8 (aI htk hbc))))))));iterate 6 refine SF ?_
 refine HS rfl rfl fun K' hK'=>T6 ?_;refine C2 (oY m 10 (by omega)) ?_;rintro u rfl;refine AX (hK' _ _ ?_);clear hK' K';refine SF ?_;refine T2 (hK _ _ _ ?_);clear hK K;obtain⟨rows,hrows⟩: ∃rows,rows=aQ 10 m:=⟨_,rfl⟩;have hrl:=dP 10 m;have hrs:=iP 10 m;rw[←hrows]at hrl hrs⊢;have hE2:rows.mapM unL=none→dZ b=2:=fun h=>by rw[hm];exact aG0 hle (by rw[←hrows];exact h)
 refine R0 ?_;refine aC fun K hK=>?_;refine R0 ?_;refine aM ?_;refine iN 5 0 37 1 rfl rfl rfl rfl ?_;refine bN (α:={i:Nat//i≤rows.length∧ ∀r∈rows.take i,(unL r).isSome=true}) (fun i=>(fin [(4,.c (.slc (rows.map .str))),(5,.own 100 i.1),(6,.c (.int .i64 i.1))],fob [(100,.row 37 1 ((lsT rows i.1).map lsC))])) 200 (fun i=>rows.length-i.1) ⟨0,by omega,by simp⟩ (by simp only[lsT,P2,H1];exact fF) ?_;rintro⟨i,hi,hok⟩;simp only;have hlsl:=zE hi;refine aC fun K hK=>?_;refine aC fun K hK=>Rg ?_;have F:=@A2.{0,0};iterate 4 refine SF ?_
 refine T2 (hK _ _ _ ?_);clear hK K;refine aF (b:=decide ((i:Int)<rows.length)) rfl (fun hb=>?_) (fun hb=>?_)
 ·
  have hlt:i<rows.length:=by simpa using hb
  clear hb;obtain⟨r,hr⟩: ∃r,r=rows[i]:=⟨_,rfl⟩;have hrin:r∈rows:=by rw[hr];exact C0 hlt
  have hrn:=hrs r hrin;have hnr:nth (rows.map CV.str) i= .str r:=by rw[aV hlt,hr]
  refine aJ ?_;refine T0 (hK _ _ _ ?_);clear hK K;refine aC fun K hK=>?_;refine aM ?_;refine aC fun K hK=>Rg ?_;have F:=aI @A0 (aI @A4 (aI hlt (aI hnr @A2.{0,0})));iterate 4 refine SF ?_
  refine HS rfl rfl fun K' hK'=>T6 ?_;refine C2 (oY r 32 (by omega)) ?_;rintro u rfl;refine AX (hK' _ _ ?_);clear hK' K';refine SF ?_;refine T2 (hK _ _ _ ?_);clear hK K;refine R0 ?_;refine aC fun K hK=>?_;refine R0 ?_;refine aM ?_;refine iN 8 0 9 1 rfl rfl rfl rfl ?_;refine bN (α:={k:Nat//k≤(aQ 32 r).length∧aB2 r k}) (fun k=>(fin [(4,.c (.slc (rows.map .str))),(5,.own 100 i),(6,.c (.int .i64 i)),(7,.c (.slc ((aQ 32 r).map .str))),(8,.own 248 k.1),(9,.c (.int .i64 k.1))],fob [(100,.row 37 1 ((lsT rows i).map lsC)),(248,.row 9 1 ((wsT r k.1).map .str))])) 300 (fun k=>(aQ 32 r).length-k.1) ⟨0,by omega,fun p hp=>by simp at hp⟩ (by simp only[wsT,P2,H1];exact fF) ?_;rintro⟨k,hk,hwo⟩;simp only;have hwl2:=lE hk;have hsl:=dP 32 r;refine aC fun K hK=>?_;refine aC fun K hK=>Rg ?_;have F:=@A2.{0,0};iterate 4 refine SF ?_
  refine T2 (hK _ _ _ ?_);clear hK K;refine aF (b:=decide ((k:Int)<(aQ 32 r).length)) rfl (fun hb=>?_) (fun hb=>?_)
  ·
   have hkl:k<(aQ 32 r).length:=by simpa using hb
   clear hb;obtain⟨p,hp⟩: ∃p,p=(aQ 32 r)[k]:=⟨_,rfl⟩;have hpl:=iP 32 r p (by rw[hp];exact C0 hkl);have hnp:nth ((aQ 32 r).map CV.str) k= .str p:=by rw[aV hkl,hp]
   refine aJ ?_;refine T0 (hK _ _ _ ?_);clear hK K;refine aC fun K hK=>?_;refine aM ?_;refine aC fun K hK=>Rg ?_;have F:=aI @A0 (aI @A4 (aI hkl (aI hnp @A2.{0,0})));iterate 4 refine SF ?_
   refine HS rfl rfl fun K' hK'=>T6 ?_;refine D1 (aN1 p (by omega)) ?_;rintro u v ⟨rfl,rfl⟩;refine AX (hK' _ _ ?_);clear hK' K';iterate 5 refine SF ?_
   refine T2 (hK _ _ _ ?_);clear hK K;refine aC fun K hK=>?_;refine R0 ?_;refine aF (b:=!(unW p).isSome) rfl (fun hb=>?_) (fun hb=>?_)
   · refine R0 ?_;refine aE (RT Tryz.results7 ?_);have hE:=hE2 (kS hrin (zF hkl (by rw[←hp];simpa using hb)));refine aO [] (.slc []) (.int .i64 2) ?_ ⟨by simp only[decO,hE];rfl,by rw[hE]⟩;simp
   refine aJ ?_;refine T0 (hK _ _ _ ?_);clear hK K;refine Rg ?_;have F:=aI @A3.{0} (aI @A2.{0,0} hwl2);iterate 5 refine SF ?_
   refine T2 (hK _ _ _ ?_);clear hK K;refine aL (by kernel_rfl) ?_;refine TQ (fS k) ?_;refine⟨⟨k+1,hkl,qF hkl hwo (by rw[←hp];simpa using hb)⟩,aP (by omega) ?_ ?_,?_⟩
   · simp
   · simp only[tA hkl,←hp,dC,C5];exact⟨rfl,by omega,trivial,rfl,by omega,trivial,trivial⟩
   show(aQ 32 r).length-(k+1)<(aQ 32 r).length-k;omega
  refine bG (T3 ?_);clear hK K;refine AX (hK _ _ _ ?_);clear hK K;have hke:k=(aQ 32 r).length:=by simp at hb;omega
  subst hke;have hul:=aM0 hwo;obtain⟨ws,hws⟩: ∃ws,ws=wsT r (aQ 32 r).length:=⟨_,rfl⟩;rw[←hws]at hul hwl2⊢;rw[←hwl2];refine cM [248] (bB (fr2:=fin [(4,.c (.slc (rows.map .str))),(5,.own 100 i),(6,.c (.int .i64 i)),(8,.c (.slc (ws.map .str)))]) (ob2:=fob [(100,.row 37 1 ((lsT rows i).map lsC))]) (nx2:=400) (aP (by omega) (by simp[denilL_str]) (by simp)) ?_);refine Rg ?_;have F:=aI @A3.{0} (aI @A2.{0,0} hlsl);iterate 5 refine SF ?_
  refine T2 (hK _ _ _ ?_);clear hK K;refine aL (by kernel_rfl) ?_;refine TQ (fS i) ?_;have hok1: ∀x∈rows.take (i+1),(unL x).isSome=true:=by
   intro x hx;rw[B3 hlt,F4,G0]at hx;rcases hx with hx|rfl
   · exact hok x hx
   rw[←hr,hul];rfl
  refine⟨⟨i+1,hlt,hok1⟩,aP (by omega) ?_ ?_,?_⟩
  · simp
  · simp only[tM hlt,←hr,hul,dC,C5,E0];exact⟨rfl,by omega,trivial,trivial⟩
  show rows.length-(i+1)<rows.length-i;omega
 refine bG (T3 ?_);clear hK K;refine AX (hK _ _ _ ?_);clear hK K;refine aC fun K hK=>?_;have hie:i=rows.length:=by simp at hb;omega
 subst hie;have hml2:=aM1 hok;have hlens:=aV0 (rows:=rows) (n:=2^39) (fun r hr=>by have:=hrs r hr;omega);obtain⟨ls,hls⟩: ∃ls,ls=lsT rows rows.length:=⟨_,rfl⟩;rw[←hls]at hml2 hlsl hlens⊢;rw[hrows]at hml2;obtain⟨hE0,hEn⟩:=zD hle hml2;rw[←hm]at hE0 hEn;rw[←hlsl];refine cM [100] (bB (fr2:=fin [(5,.c (.slc (ls.map lsC)))]) (ob2:=fob []) (nx2:=300) (aP (by omega) (by simp[aR]) (by simp)) ?_);refine aC fun K hK=>Rg ?_;have F:=@aR;refine SF ?_;refine HS rfl rfl fun K' hK'=>T6 ?_;refine D1 (bJ8 ls (by omega) (fun l hl=>by have:=hlens l hl;omega)) ?_;rintro u v ⟨rfl,rfl⟩;refine AX (hK' _ _ ?_);clear hK' K';iterate 5 refine SF ?_
 refine T2 (hK _ _ _ ?_);clear hK K;refine R0 ?_;refine aF (b:=gL ls !=0) rfl (fun hb=>?_) (fun hb=>?_)
 · refine R0 ?_;refine aE (RT Tryz.results7 ?_);have hE:=hEn (by simpa using hb);refine aO [] (.slc []) (.int .i64 2) ?_ ⟨by simp only[decO,hE];rfl,by rw[hE]⟩;simp
 refine aJ ?_;refine T0 (hK _ _ _ ?_);clear hK K;refine R0 ?_;refine aE (RT Tryz.results7 ?_);obtain⟨hE,hO⟩:=hE0 (by simpa using hb);refine aO [] (.slc (ls.map lsC)) (.int .i64 0) ?_ ⟨by rw[hO],by rw[hE]⟩;simp[aR]
end Go.Proofs.YtlgckianjabghaaGreatDoor
namespace Go.Hl
open Go
def mvN (id d:Nat):Nat→Nat:=fun i=>if i=id then d else i
def mvF (id d:Nat)(fr:Fr):Fr:=fun t=>(fr t).ren (mvN id d)
def mvO (id d:Nat)(ob:Ob):Ob:=fun i=>if i=d then(ob id).map (HO.ren (mvN id d))else if i=id then none else(ob i).map (HO.ren (mvN id d))
section
variable {P:Program}{n k:Nat}{Q:eW}{fr:Fr}{ob:Ob}{nx:Nat}
theorem RepA.mv {c:Ctx}{a:Act}{w:World}{M:Nat→Prop}(hA:RepA c M fr ob a w)(hk':c.M0=(· <k))(id d nx2:Nat)(hk:k≤id)(hkd:k≤d)(hid:M id)(hM: ∀i,M i→i<nx2∧i≠d)(hd:d<nx2):RepA c (· <nx2) (mvF id d fr) (mvO id d ob) a w:=by
 obtain⟨ρ,hA⟩:=hA;have hne:id≠d:=(hM id hid).2
 let ρ2:Env:=fun i=>if i=d then ρ id else if i=id then none else ρ i
 have hm: ∀i,M i→ρ2 (mvN id d i)=ρ i:=fun i hi=>by
  have:=hM i hi;simp only[ρ2,mvN];grind
 have hinv: ∀i L,ρ2 i=some L→ ∃j,M j∧mvN id d j=i∧ρ j=some L:=fun i L hL=>by
  simp only[ρ2]at hL;split at hL
  · grind[mvN]
  ·
   split at hL
   · grind
   ·
    rename_i e1 e2;refine⟨i,?_,by simp[mvN,e2],hL⟩;by_cases h1:M i
    · exact h1
    · have:=(hA.nid_none (nid:=i) h1).2;grind
 have hown: ∀b,Own ρ2 b→Own ρ b:=fun b ⟨i,L,h1,h2⟩=>let⟨j,_,_,h3⟩:=hinv i L h1;⟨j,L,h3,h2⟩;have hst:Stay w (Owned ρ c.X) w (Owned ρ2 c.X):=Stay.same (fun b _ hb=>hb.imp _root_.id (hown b));have hmv:Moves M ρ (fun i=>ρ2 (mvN id d i)):=Moves.of_eq fun i hi=>hm i hi;have hobj: ∀i o,mvO id d ob i=some o→ ∃j o',M j∧mvN id d j=i∧ob j=some o'∧o=o'.ren (mvN id d):=fun i o ho=>by
  simp only[mvO]at ho;split at ho
  · grind[Option.map_eq_some_iff,mvN]
  ·
   split at ho
   · grind
   · rename_i e1 e2;obtain⟨o',h1,h2⟩:=C8.1 ho;exact⟨i,o',(hA.mo i o' h1).1,by simp[mvN,e2],h1,h2.symm⟩
 have hmen: ∀i,M i→mvN id d i<nx2:=fun i hi=>by
  have:=hM i hi;grind[mvN]
 refine⟨ρ2,⟨fun i o ho=>?_,fun i hi=>?_,fun i i' L L' b h1 h2 h3 h4=>?_,fun i L b h1 h2=>?_⟩,fun t ht=>?_,fun t=>?_,fun i o ho=>?_,fun i hi=>?_,?_,?_,hA.defers,hA.size,hA.xlt⟩
 · obtain⟨j,o',hj,rfl,h1,rfl⟩:=hobj i o ho;exact RepO.unsub hst hmv (hA.mo j o' h1).2 (hm j hj) (hA.s.objs j o' h1)
 ·
  simp only[mvO]at hi;simp only[ρ2];split at hi
  · rename_i e;rw[B6 e];exact hA.s.none id (by simp_all)
  ·
   rename_i e;rw[A7 e];split at hi
   · grind
   · rename_i e2;rw[A7 e2];exact hA.s.none i (by simp_all)
 · obtain⟨j,_,rfl,e1⟩:=hinv i L h1;obtain⟨j',_,rfl,e2⟩:=hinv i' L' h2;rw[hA.s.apart j j' L L' b e1 e2 h3 h4]
 · obtain⟨j,_,rfl,e1⟩:=hinv i L h1;exact hA.s.xb j L b e1 h2
 ·
  have hj:fr t≠ .junk:=by intro e;apply ht;simp only[mvF,e,HV.ren]
  have hf:=hA.f t hj;exact⟨kX.2 (RepH.stay hst hmv (hA.mf t) hf.1),by simp only[mvF,HV.ren_isAgg];exact hf.2⟩
 · exact men_ren.2 (HV.men_mono hmen (hA.mf t))
 · obtain⟨j,o',hj,rfl,h1,rfl⟩:=hobj i o ho;exact⟨hmen j hj,HO.men_ren.2 (HO.men_mono hmen (hA.mo j o' h1).2)⟩
 · exact(hM i (hA.m0 i hi)).1
 · exact hA.base.trans ⟨fun _ _ _=>rfl,fun b hb=> .inl (hown b hb),F2 _,rfl,rfl,rfl⟩
 ·
  refine Moves.trans (M':=c.M0) (fun i hi=>hi) hA.moves fun i L hi hL=>⟨L,?_,.inl rfl⟩;rw[hk']at hi;have h1:i<k:=hi;simp only[ρ2]at hL
  rwa [A7 (by omega),A7 (by omega)]at hL
theorem cQ0 {code:Code}(id d:Nat)(hk:k≤id)(hid:id<nx)(hd:nx≤d)(h:Hw P n k code Q (mvF id d fr) (mvO id d ob) (d+1)):Hw P n k code Q fr ob nx:=by
 intro c a w hn hk' hz hA;exact h c a w hn hk' hz (hA.mv hk' id d (d+1) hk (by omega) hid (fun i hi=>by omega) (by omega))
theorem bJ9 {M:Nat→Prop}: ∀{l:List (Nat×HV)},(∀p∈l,p.2.men M)→ ∀t,(fin l t).men M
 |[],_,t=>by simp[fin,HV.men]
 |(t',v)::l,h,t=>by
  by_cases ht:t=t'
  · subst ht;simp only[fin,aU];exact h (t,v) (by simp)
  · simp only[fin,bJ _ _ ht];exact bJ9 (fun p hp=>h p (by simp[hp])) t
theorem bK0 {M N:Nat→Prop}: ∀{l:List (Nat×HO)},(∀p∈l,N p.1∧p.2.men M)→ ∀t o,fob l t=some o→N t∧o.men M
 |[],_,t,o,ho=>by simp[fob]at ho
 |(t',v)::l,h,t,o,ho=>by
  by_cases ht:t=t'
  · subst ht;simp only[fob,aU]at ho;cases ho;exact h (t,v) (by simp)
  · simp only[fob,bJ _ _ ht]at ho;exact bK0 (fun p hp=>h p (by simp[hp])) t o ho
theorem cC9 {code:Code}(id d nx2:Nat)(l:List (Nat×HV))(h:List (Nat×HO))(h1:gJ nx fr l)(h2:dC nx ob h)(hk0:k≤nx)(hk:k≤id)(hkd:k≤d)(hid:id<nx)(hne:id≠d)(hnx:nx≤nx2)(hd:d<nx2)
  (hl: ∀p∈l,p.2.men fun i=>i<nx∧i≠d) (hh: ∀p∈h,(p.1<nx∧p.1≠d)∧p.2.men fun i=>i<nx∧i≠d) (hw:Hw P n k code Q (mvF id d (fin l)) (mvO id d (fob h)) nx2):Hw P n k code Q fr ob nx:=by
 intro c a w hn hk' hz hA;refine hw c a w hn hk' hz ?_;obtain⟨ρ,hB⟩:=hA.fits hk' (aP hk0 h1 h2);refine RepA.mv (M:=fun i=>i<nx∧i≠d) ⟨ρ,hB.s,hB.f,bJ9 hl,bK0 (N:=fun i=>i<nx∧i≠d) hh,fun i hi=>?_,hB.base,hB.moves,hB.defers,hB.size,hB.xlt⟩ hk' id d nx2 hk hkd ⟨hid,hne⟩ (fun i hi=>⟨by omega,hi.2⟩) hd;rw[hk']at hi;have:i<k:=hi;omega
end
end Go.Hl
namespace Go.Proofs.YtlgckianjabghaaGreatDoor
open Go Go.Hl Go.Pl
variable {kk N:Nat}{w:List aH}{l:List (List aH)}
theorem cD0 (h:kk<l.length):exK l kk N++[.c (lsC w)]=exK (l++[w]) kk N:=by
 unfold exK;rw[C5,AO _ _ (by simpa using h)];simp[h,M8 h]
theorem cD1 :(l.map fun l=>HV.c (lsC l))++[.own N w.length]=exK (l++[w]) l.length N:=by
 unfold exK;rw[C5,V1 _ _ (by simp)];simp
theorem bR9 (h:kk<l.length):(l++[w]).getD kk []=l.getD kk []:=by
 simp[M8 h]
variable {ls:List (List aH)}
theorem bS0 {n:Nat}(h:66<n):HV.menL (fun x=>x<n) (exK ls kk 66):=fU h
theorem jE {M:Nat→Prop}(l:List (List aH)):HV.menL M (l.map fun l=>HV.c (lsC l)):=by
 rw[vG];intro v hv;obtain⟨x,_,rfl⟩:=L3.1 hv;simp
theorem aH4 (ob:Ob)(cl:List Nat)(l:List (List aH)):HV.closeL ob cl (l.map fun l=>HV.c (lsC l))=l.map fun l=>HV.c (lsC l):=by
 rw[lX,P7];apply N7;intro l _;simp[lsC,denilL_str]
theorem cD2 (M:Nat→Nat)(a b:List HV):HV.renL M (a++b)=HV.renL M a++HV.renL M b:=by rw[kU,kU,kU,C5]
theorem cM1 (M:Nat→Nat)(l:List (List aH)):HV.renL M (l.map fun l=>HV.c (lsC l))=l.map fun l=>HV.c (lsC l):=by
 rw[kU,P7];rfl
def stK (rows:List aH)(kk i:Nat):List (Nat×HO):=if i≤kk then [(100,.hrow 37 1 ((lsT rows i).map fun l=>HV.c (lsC l)))]else [(100,.hrow 37 1 (exK (lsT rows i) kk 66)),(66,.row 9 1 (((lsT rows i).getD kk []).map .str))]
theorem cU0 :lst []=fob []:=by funext i;simp[lst,fob,dK]
theorem cM2 {ob:Ob}{r:HV}(hr:r= .tup [.own 100 ls.length,.c (.int .i64 0)])(h0:ob 100=some (.hrow 37 1 (exK ls kk 66)))(h1:ob 66=some (.row 9 1 ((ls.getD kk []).map .str))):
  lC 0 r ob (fun r ob'=> ∃os',ob'=lst os'∧(0≤os'.length∧os'.length≤0+4)∧(r= .tup [.own 0 ls.length,.c (.int .i64 0)]∧os'=osK ls kk)):=by
 subst hr;refine dS [] [100,66] (.tup [.own 0 ls.length,.c (.int .i64 0)]) (osK ls kk) (by simp[tau]) (by simp) ⟨⟨by simp[fU],by simp,_,(by simpa[tau]using h0),?_⟩,⟨by simp,by simp,_,(by simpa[tau]using h1),rfl⟩,trivial⟩ rfl (by simp) (by simp) (by simp) ⟨rfl,rfl⟩;simp[qN,tX,fC,tau]
theorem cD3 (b:aH)(hl:b.length<2^40)(he:dZ b=0)(kk:Nat)(hkk:kk<(decO b).length):HGe Tryz.prog 7 [.c (.slc (b.map u8))] [] (fun r os'=>r= .tup [.own 0 (decO b).length,.c (.int .i64 0)]∧os'=osK (decO b) kk):=by
 refine cA (args:=[.c (.slc (b.map u8))]) Tryz.func7 rfl (by kernel_rfl) (eM rfl (by simp[dO]) (by simp)) (C4 rfl) ?_;show Hw _ _ 0 _ _ _ (lst _) 0;rw[cU0];refine R0 ?_;refine aC fun K hK=>?_;have F:=@A2.{0,0};refine RF ?_;refine aF (b:=decide ((262144:Int)<b.length)) rfl (fun hb=>?_) (fun hb=>?_)
 ·
  refine R0 ?_;refine aE (RT Tryz.results7 ?_);have hE:dZ b=3:=by unfold dZ;rw[B6 (by simp at hb;omega)]
  exact absurd (he.symm.trans hE) (by decide)
 refine aJ ?_;refine T0 (hK _ _ _ ?_);clear hK K;refine aC fun K hK=>?_;have hle: ¬262144<b.length:=by simp at hb;omega
 clear hb;refine RF ?_;refine aF (b:=(b.length:Int)==0) rfl (fun hb=>?_) (fun hb=>?_)
 ·
  refine R0 ?_;refine aE (RT Tryz.results7 ?_);have hbe:b=[]:=by simpa using hb
  subst hbe;rw[show decO ([]:aH)=[]from rfl]at hkk;cases hkk
 refine aJ ?_;refine T0 (hK _ _ _ ?_);clear hK K;refine aC fun K hK=>?_;have hne:b≠[]:=by rintro rfl;simp at hb
 clear hb;have hpos:0<b.length:=J0.2 hne;have hlt1:b.length-1<b.length:=by omega
 have hwl:IntKind.i64.wrap ((b.length:Int)-1)=((b.length-1:Nat):Int):=by rw[A8 _ (by omega)];omega
 refine RS ?_;have F:=aI @A2.{0,0} (aI hwl (aI @A0 (aI @A4 (aI hlt1 (aI (nM hlt1) @u8.eq_1)))));refine AU ?_;refine aF (b:=((b[b.length-1]).toNat:Int) !=10) rfl (fun hb=>?_) (fun hb=>?_)
 ·
  refine R0 ?_;refine aE (RT Tryz.results7 ?_);have hE:dZ b=2:=aF9 hle hne (by
   intro h;rw[C7,B5 hlt1]at h;simp only[E0]at h;rw[h]at hb;simp at hb)
  exact absurd (he.symm.trans hE) (by decide)
 refine aJ ?_;refine T0 (hK _ _ _ ?_);clear hK K;have hl10:b[b.length-1]=10:=by
  simp only[S8]at hb;exact N9.1 (by show b[b.length-1].toNat=10;omega)
 clear hb;obtain⟨m,hm⟩: ∃m,b=m++[10]:=⟨b.dropLast,by rw[←hl10,←List.getLast_eq_getElem hne];exact(O7 hne).symm⟩;have htk:List.take (b.length-1) (b.map u8)=m.map u8:=by rw[hm];simp
 have hbc:iX (m.map u8)=some m:=bytesC_map m;have hml:m.length+1=b.length:=by rw[hm];simp
 have hml3:(m++[(10:UInt8)]).length=m.length+1:=by simp
 rw[hm]at hle;refine RS ?_;have F:=aI @A2.{0,0} (aI hwl (aI @A0 (aI @H2 (aI @Z9 (aI @lD (aI @L7.{0} (aI @G8 (aI htk hbc))))))));refine AU ?_;refine SCF (oY m 10 (by omega)) ?_;refine AE ?_;obtain⟨rows,hrows⟩: ∃rows,rows=aQ 10 m:=⟨_,rfl⟩;have hrl:=dP 10 m;have hrs:=iP 10 m;rw[←hrows]at hrl hrs⊢;have hE2:rows.mapM unL=none→dZ b=2:=fun h=>by rw[hm];exact aG0 hle (by rw[←hrows];exact h)
 refine R0 ?_;refine aC fun K hK=>?_;refine R0 ?_;refine aM ?_;refine iN 5 0 37 1 rfl rfl rfl rfl (sU 100 rfl ?_);refine bN (α:={i:Nat//i≤rows.length∧ ∀r∈rows.take i,(unL r).isSome=true}) (fun i=>(fin [(4,.c (.slc (rows.map .str))),(5,.own 100 i.1),(6,.c (.int .i64 i.1))],fob (stK rows kk i.1))) 200 (fun i=>rows.length-i.1) ⟨0,by omega,by simp⟩ (by simp only[stK,F9,F7,lsT,P2,H1];exact fG (by simp)) ?_;rintro⟨i,hi,hok⟩;simp only;have hlsl:=zE hi;refine aC fun K hK=>?_;by_cases hik:i≤kk
 ·
  rw[show stK rows kk i=[(100,.hrow 37 1 ((lsT rows i).map fun l=>HV.c (lsC l)))]from B6 hik];refine RS ?_;have F:=@A2.{0,0};refine AU ?_;refine aF (b:=decide ((i:Int)<rows.length)) rfl (fun hb=>?_) (fun hb=>?_)
  ·
   have hlt:i<rows.length:=by simpa using hb
   clear hb;obtain⟨r,hr⟩: ∃r,r=rows[i]:=⟨_,rfl⟩;have hrin:r∈rows:=by rw[hr];exact C0 hlt
   have hrn:=hrs r hrin;have hnr:nth (rows.map CV.str) i= .str r:=by rw[aV hlt,hr]
   refine aJ ?_;refine T0 (hK _ _ _ ?_);clear hK K;refine aC fun K hK=>?_;refine aM ?_;refine RS ?_;have F:=aI @A0 (aI @A4 (aI hlt (aI hnr @A2.{0,0})));refine AU ?_;refine SCF (oY r 32 (by omega)) ?_;refine SF ?_;refine RE ?_;refine R0 ?_;refine aC fun K hK=>?_;refine R0 ?_;refine aM ?_;refine iN 8 0 9 1 rfl rfl rfl rfl ?_;refine bN (α:={k:Nat//k≤(aQ 32 r).length∧aB2 r k}) (fun k=>(fin [(4,.c (.slc (rows.map .str))),(5,.own 100 i),(6,.c (.int .i64 i)),(7,.c (.slc ((aQ 32 r).map .str))),(8,.own 248 k.1),(9,.c (.int .i64 k.1))],fob [(100,.hrow 37 1 ((lsT rows i).map fun l=>HV.c (lsC l))),(248,.row 9 1 ((wsT r k.1).map .str))])) 300 (fun k=>(aQ 32 r).length-k.1) ⟨0,by omega,fun p hp=>by simp at hp⟩ (by simp only[wsT,P2,H1];exact fG (by simp[fU,jE])) ?_;rintro⟨k,hk,hwo⟩;simp only;have hwl2:=lE hk;have hsl:=dP 32 r;refine aC fun K hK=>?_;refine RS ?_;have F:=@A2.{0,0};refine AU ?_;refine aF (b:=decide ((k:Int)<(aQ 32 r).length)) rfl (fun hb=>?_) (fun hb=>?_)
   ·
    have hkl:k<(aQ 32 r).length:=by simpa using hb
    clear hb;obtain⟨p,hp⟩: ∃p,p=(aQ 32 r)[k]:=⟨_,rfl⟩;have hpl:=iP 32 r p (by rw[hp];exact C0 hkl);have hnp:nth ((aQ 32 r).map CV.str) k= .str p:=by rw[aV hkl,hp]
    refine aJ ?_;refine T0 (hK _ _ _ ?_);clear hK K;refine aC fun K hK=>?_;refine aM ?_;refine aC fun K hK=>Rg ?_;have F:=aI @A0 (aI @A4 (aI hkl (aI hnp @A2.{0,0})));refine AU ?_;refine HS rfl rfl fun K' hK'=>T6 ?_;refine D1 (aN1 p (by omega)) ?_;rintro u v ⟨rfl,rfl⟩;refine AX (hK' _ _ ?_);clear hK' K';refine AU ?_;refine T2 (hK _ _ _ ?_);clear hK K;refine aC fun K hK=>?_;refine R0 ?_;refine aF (b:=!(unW p).isSome) rfl (fun hb=>?_) (fun hb=>?_)
    · refine R0 ?_;refine aE (RT Tryz.results7 ?_);have hE:=hE2 (kS hrin (zF hkl (by rw[←hp];simpa using hb)));exact absurd (he.symm.trans hE) (by decide)
    refine aJ ?_;refine T0 (hK _ _ _ ?_);clear hK K;refine Rg ?_;have F:=aI @A3.{0} (aI @A2.{0,0} hwl2);refine AU ?_;refine T2 (hK _ _ _ ?_);clear hK K;refine aL (by kernel_rfl) ?_;refine TQ (fS k) ?_;refine⟨⟨k+1,hkl,qF hkl hwo (by rw[←hp];simpa using hb)⟩,aP (by omega) ?_ ?_,?_⟩
    · simp
    · simp only[tA hkl,←hp,dC,C5];exact⟨rfl,by omega,jE _,rfl,by omega,trivial,trivial⟩
    show(aQ 32 r).length-(k+1)<(aQ 32 r).length-k;omega
   have hke:k=(aQ 32 r).length:=by simp at hb;omega
   subst hke;have hul:=aM0 hwo;obtain⟨ws,hws⟩: ∃ws,ws=wsT r (aQ 32 r).length:=⟨_,rfl⟩;rw[←hws]at hul hwl2⊢;rw[←hwl2];refine bG (T3 ?_);clear hK K;refine AX (hK _ _ _ ?_);clear hK K;by_cases heq:i=kk
   ·
    subst heq;refine bB (fr2:=fin [(4,.c (.slc (rows.map .str))),(5,.own 100 i),(6,.c (.int .i64 i)),(8,.own 248 ws.length)]) (ob2:=fob [(100,.hrow 37 1 ((lsT rows i).map fun l=>HV.c (lsC l))),(248,.row 9 1 (ws.map .str))]) (nx2:=400) (fG (by simp[jE])) ?_;refine aZ (by kernel_rfl) ?_;simp only[sR,simprocAttr];have F:=aI @A3.{0} (aI @A2.{0,0} hlsl);iterate 2 refine SGF ?_
    refine aX (g:=none) rfl rfl fun K' hK'=>?_;simp only[sN,↓hopH.eq_def,sH,↓sP,sA,tyS,simprocAttr,A3,A2,hlsl];refine AX (hK' _ _ ?_);clear hK' K';refine aX (g:=none) rfl rfl fun K' hK'=>?_;simp only[sN,↓hopH.eq_def,sH,↓sP,sA,tyS,simprocAttr,A3,A2,hlsl];refine AX (hK' _ _ ?_);clear hK' K';refine SGF ?_;refine T2 (hK _ _ _ ?_);clear hK K;refine cC9 248 66 500 [(4,.c (.slc (rows.map .str))),(5,.own 100 (i+1)),(6,.c (.int .i64 i))] [(100,.hrow 37 1 (((lsT rows i).map fun l=>HV.c (lsC l))++[.own 248 ws.length])),(248,.row 9 1 (ws.map .str))] (by simp[hlsl]) (by simp[jE]) (by omega) (by omega) (by omega) (by omega) (by omega) (by omega) (by omega) (by simp) (by simp[jE]) (bB (fr2:=fin [(4,.c (.slc (rows.map .str))),(5,.own 100 (i+1)),(6,.c (.int .i64 i))]) (ob2:=fob [(100,.hrow 37 1 (((lsT rows i).map fun l=>HV.c (lsC l))++[.own 66 ws.length])),(66,.row 9 1 (ws.map .str))]) (nx2:=600) (fG (by simp[mvF,mvO,mvN,cD2,cM1,jE])) ?_);refine aL (by kernel_rfl) ?_;refine TQ (fS i) ?_;have hok1: ∀x∈rows.take (i+1),(unL x).isSome=true:=by
     intro x hx;rw[B3 hlt,F4,G0]at hx;rcases hx with hx|rfl
     · exact hok x hx
     rw[←hr,hul];rfl
    have hl1:lsT rows (i+1)=lsT rows i++[ws]:=by rw[tM hlt,←hr,hul];rfl
    have hx:exK (lsT rows (i+1)) i 66=((lsT rows i).map fun l=>HV.c (lsC l))++[.own 66 ws.length]:=by
     have:=cD1 (l:=lsT rows i) (w:=ws) (N:=66);rw[hlsl]at this;rw[hl1,←this]
    have hg:(lsT rows (i+1)).getD i []=ws:=by rw[hl1];simp[hlsl]
    refine⟨⟨i+1,hlt,hok1⟩,?_,?_⟩
    · simp only;rw[show stK rows i (i+1)=[(100,.hrow 37 1 (exK (lsT rows (i+1)) i 66)),(66,.row 9 1 (((lsT rows (i+1)).getD i []).map .str))]from A7 (by omega),hx,hg];exact fG (by simp[jE])
    show rows.length-(i+1)<rows.length-i;omega
   refine cM [248] (bB (fr2:=fin [(4,.c (.slc (rows.map .str))),(5,.own 100 i),(6,.c (.int .i64 i)),(8,.c (.slc (ws.map .str)))]) (ob2:=fob [(100,.hrow 37 1 ((lsT rows i).map fun l=>HV.c (lsC l)))]) (nx2:=400) (fG (by simp[denilL_str,qN,aH4,fU,jE,fC])) ?_);refine aZ (by kernel_rfl) ?_;simp only[sR,simprocAttr];have F:=aI @A3.{0} (aI @A2.{0,0} hlsl);iterate 3 refine SGF ?_
   refine aX (g:=none) rfl rfl fun K' hK'=>?_;simp only[sN,↓hopH.eq_def,sH,↓sP,sA,tyS,simprocAttr,A3,A2,hlsl];refine AX (hK' _ _ ?_);clear hK' K';refine SGF ?_;refine T2 (hK _ _ _ ?_);clear hK K;refine aL (by kernel_rfl) ?_;refine TQ (fS i) ?_;have hok1: ∀x∈rows.take (i+1),(unL x).isSome=true:=by
    intro x hx;rw[B3 hlt,F4,G0]at hx;rcases hx with hx|rfl
    · exact hok x hx
    rw[←hr,hul];rfl
   have hl1:lsT rows (i+1)=lsT rows i++[ws]:=by rw[tM hlt,←hr,hul];rfl
   refine⟨⟨i+1,hlt,hok1⟩,?_,?_⟩
   · simp only;rw[show stK rows kk (i+1)=[(100,.hrow 37 1 ((lsT rows (i+1)).map fun l=>HV.c (lsC l)))]from B6 (by omega),hl1,C5];exact fG (by simp[jE,hlsl,(show lsC ws= .slc (ws.map .str)from rfl)])
   show rows.length-(i+1)<rows.length-i;omega
  exfalso;have hie:i=rows.length:=by simp at hb;omega
  subst hie;have hml2:=aM1 hok;rw[hrows]at hml2;obtain⟨hE0,hEn⟩:=zD hle hml2;rw[←hm]at hE0 hEn;have hz:gL (lsT (aQ 10 m) (aQ 10 m).length)=0:=X9 fun h=>absurd (he.symm.trans (hEn h)) (by decide);have hO:=(hE0 hz).2;rw[←hrows]at hO;rw[hO]at hkk;omega
 rw[show stK rows kk i=[(100,.hrow 37 1 (exK (lsT rows i) kk 66)),(66,.row 9 1 (((lsT rows i).getD kk []).map .str))]from A7 hik];have hkl0:kk<(lsT rows i).length:=by omega
 refine RS ?_;have F:=@A2.{0,0};refine AU ?_;refine aF (b:=decide ((i:Int)<rows.length)) rfl (fun hb=>?_) (fun hb=>?_)
 ·
  have hlt:i<rows.length:=by simpa using hb
  clear hb;obtain⟨r,hr⟩: ∃r,r=rows[i]:=⟨_,rfl⟩;have hrin:r∈rows:=by rw[hr];exact C0 hlt
  have hrn:=hrs r hrin;have hnr:nth (rows.map CV.str) i= .str r:=by rw[aV hlt,hr]
  refine aJ ?_;refine T0 (hK _ _ _ ?_);clear hK K;refine aC fun K hK=>?_;refine aM ?_;refine RS ?_;have F:=aI @A0 (aI @A4 (aI hlt (aI hnr @A2.{0,0})));refine AU ?_;refine SCF (oY r 32 (by omega)) ?_;refine SF ?_;refine RE ?_;refine R0 ?_;refine aC fun K hK=>?_;refine R0 ?_;refine aM ?_;refine iN 8 0 9 1 rfl rfl rfl rfl ?_;refine bN (α:={k:Nat//k≤(aQ 32 r).length∧aB2 r k}) (fun k=>(fin [(4,.c (.slc (rows.map .str))),(5,.own 100 i),(6,.c (.int .i64 i)),(7,.c (.slc ((aQ 32 r).map .str))),(8,.own 248 k.1),(9,.c (.int .i64 k.1))],fob [(100,.hrow 37 1 (exK (lsT rows i) kk 66)),(66,.row 9 1 (((lsT rows i).getD kk []).map .str)),(248,.row 9 1 ((wsT r k.1).map .str))])) 300 (fun k=>(aQ 32 r).length-k.1) ⟨0,by omega,fun p hp=>by simp at hp⟩ (by simp only[wsT,P2,H1];exact fG (by simp[fU,jE])) ?_;rintro⟨k,hk,hwo⟩;simp only;have hwl2:=lE hk;have hsl:=dP 32 r;refine aC fun K hK=>?_;refine RS ?_;have F:=@A2.{0,0};refine AU ?_;refine aF (b:=decide ((k:Int)<(aQ 32 r).length)) rfl (fun hb=>?_) (fun hb=>?_)
  ·
   have hkl:k<(aQ 32 r).length:=by simpa using hb
   clear hb;obtain⟨p,hp⟩: ∃p,p=(aQ 32 r)[k]:=⟨_,rfl⟩;have hpl:=iP 32 r p (by rw[hp];exact C0 hkl);have hnp:nth ((aQ 32 r).map CV.str) k= .str p:=by rw[aV hkl,hp]
   refine aJ ?_;refine T0 (hK _ _ _ ?_);clear hK K;refine aC fun K hK=>?_;refine aM ?_;refine aC fun K hK=>Rg ?_;have F:=aI @A0 (aI @A4 (aI hkl (aI hnp @A2.{0,0})));refine AU ?_;refine HS rfl rfl fun K' hK'=>T6 ?_;refine D1 (aN1 p (by omega)) ?_;rintro u v ⟨rfl,rfl⟩;refine AX (hK' _ _ ?_);clear hK' K';refine AU ?_;refine T2 (hK _ _ _ ?_);clear hK K;refine aC fun K hK=>?_;refine R0 ?_;refine aF (b:=!(unW p).isSome) rfl (fun hb=>?_) (fun hb=>?_)
   · refine R0 ?_;refine aE (RT Tryz.results7 ?_);have hE:=hE2 (kS hrin (zF hkl (by rw[←hp];simpa using hb)));exact absurd (he.symm.trans hE) (by decide)
   refine aJ ?_;refine T0 (hK _ _ _ ?_);clear hK K;refine Rg ?_;have F:=aI @A3.{0} (aI @A2.{0,0} hwl2);refine AU ?_;refine T2 (hK _ _ _ ?_);clear hK K;refine aL (by kernel_rfl) ?_;refine TQ (fS k) ?_;refine⟨⟨k+1,hkl,qF hkl hwo (by rw[←hp];simpa using hb)⟩,aP (by omega) ?_ ?_,?_⟩
   · simp
   · simp only[tA hkl,←hp,dC,C5];exact⟨rfl,by omega,fU (by omega),rfl,by omega,trivial,rfl,by omega,trivial,trivial⟩
   show(aQ 32 r).length-(k+1)<(aQ 32 r).length-k;omega
  have hke:k=(aQ 32 r).length:=by simp at hb;omega
  subst hke;have hul:=aM0 hwo;obtain⟨ws,hws⟩: ∃ws,ws=wsT r (aQ 32 r).length:=⟨_,rfl⟩;rw[←hws]at hul hwl2⊢;rw[←hwl2];refine bG (T3 ?_);clear hK K;refine AX (hK _ _ _ ?_);clear hK K;refine cM [248] (bB (fr2:=fin [(4,.c (.slc (rows.map .str))),(5,.own 100 i),(6,.c (.int .i64 i)),(8,.c (.slc (ws.map .str)))]) (ob2:=fob [(100,.hrow 37 1 (exK (lsT rows i) kk 66)),(66,.row 9 1 (((lsT rows i).getD kk []).map .str))]) (nx2:=400) (fG (by simp[denilL_str,qN,aH4,fU,jE,fC])) ?_);refine aZ (by kernel_rfl) ?_;simp only[sR,simprocAttr];have F:=aI @A3.{0} (aI @A2.{0,0} (aI @gW hlsl));iterate 3 refine SGF ?_
  refine aX (g:=none) rfl rfl fun K' hK'=>?_;simp only[sN,↓hopH.eq_def,sH,↓sP,sA,tyS,simprocAttr,A3,A2,gW,hlsl];refine AX (hK' _ _ ?_);clear hK' K';refine SGF ?_;refine T2 (hK _ _ _ ?_);clear hK K;refine aL (by kernel_rfl) ?_;refine TQ (fS i) ?_;have hok1: ∀x∈rows.take (i+1),(unL x).isSome=true:=by
   intro x hx;rw[B3 hlt,F4,G0]at hx;rcases hx with hx|rfl
   · exact hok x hx
   rw[←hr,hul];rfl
  have hl1:lsT rows (i+1)=lsT rows i++[ws]:=by rw[tM hlt,←hr,hul];rfl
  have hx:exK (lsT rows (i+1)) kk 66=exK (lsT rows i) kk 66++[.c (lsC ws)]:=by rw[hl1,cD0 hkl0]
  have hg:(lsT rows (i+1)).getD kk []=(lsT rows i).getD kk []:=by rw[hl1,bR9 hkl0]
  refine⟨⟨i+1,hlt,hok1⟩,?_,?_⟩
  · simp only;rw[show stK rows kk (i+1)=[(100,.hrow 37 1 (exK (lsT rows (i+1)) kk 66)),(66,.row 9 1 (((lsT rows (i+1)).getD kk []).map .str))]from A7 (by omega),hx,hg];exact fG (by simp[bS0,gW,hlsl,(show lsC ws= .slc (ws.map .str)from rfl)])
  show rows.length-(i+1)<rows.length-i;omega
 have hie:i=rows.length:=by simp at hb;omega
 subst hie;have hml2:=aM1 hok;have hlens:=aV0 (rows:=rows) (n:=2^39) (fun r hr=>by have:=hrs r hr;omega);obtain⟨ls,hls⟩: ∃ls,ls=lsT rows rows.length:=⟨_,rfl⟩;rw[←hls]at hml2 hlsl hlens hkl0⊢;rw[hrows]at hml2;obtain⟨hE0,hEn⟩:=zD hle hml2;rw[←hm]at hE0 hEn;have hz:gL ls=0:=X9 fun h=>absurd (he.symm.trans (hEn h)) (by decide);have hO:=(hE0 hz).2;rw[←hlsl];clear hb;refine bG (T3 ?_);clear hK K;refine AX (hK _ _ _ ?_);clear hK K;refine aC fun K hK=>?_;refine aC fun K hK=>Rg ?_;refine S0 ?_;refine HS rfl rfl fun K' hK'=>T5 ?_;refine eG [100,66] (cC8 ls kk hkl0 (by omega) (fun l hl=>by have:=hlens l hl;omega)) rfl ⟨?_,?_,trivial⟩ (by simp) (by simp) ⟨rfl,rfl,rfl,rfl⟩ (by simp[osK,dO,fU]) (by simp[osK]) ?_
 · simp[tX,sub]
 · rfl
 rintro r os' ⟨u,rfl,rfl⟩;simp only[osK,HV.ren,HV.renL,jG,HO.ren,tX,F3,hz];refine AX (hK' _ _ ?_);clear hK' K';refine AU ?_;refine T2 (hK _ _ _ ?_);clear hK K;refine R0 ?_;refine CF rfl ?_;refine aJ ?_;refine T0 (hK _ _ _ ?_);clear hK K;refine R0 ?_;refine aE (RT Tryz.results7 ?_);rw[hO];exact cM2 rfl rfl rfl
def tp (L:List Int)(a:Nat):CV:= .agg [.slc (L.map (.int .i64)),.int .i64 a]
attribute [local simp] tp
theorem eZ (L:List Int)(a:Nat)(n:Int)(ha:a<2^40)(hn:n<2^62):bB1 Tryz.prog 17 59 (tp L a) [.int .i64 n] (fun u v'=> ∃(x:Int) (a':Nat),u= .int .i64 x∧v'=tp L a'∧a'≤a+1∧0≤x∧(n<1→x=0)∧(1≤n→x<n)):=by
 refine cA Tryz.func17 rfl (by kernel_rfl) (dV _ _ _) (C4 rfl) ?_;refine R0 ?_;refine aC fun K hK=>?_;refine R0 ?_;refine aF (b:=decide (n<1)) rfl (fun hb=>?_) (fun hb=>?_)
 · refine R0 ?_;refine aE (RT Tryz.results17 ?_);refine gK [] (.int .i64 0) (tp L a) rfl rfl ?_ (by simp) ⟨0,a,rfl,rfl,by omega,by omega,fun _=>rfl,fun h=>by omega⟩;simp[tp,denilL_int]
 refine aJ ?_;refine T0 (hK _ _ _ ?_);clear hK K;refine RS ?_;iterate 7 refine S0 ?_ (e:=fun _ h_=>by simp only[sH,↓sP,sA,tyS,simprocAttr,tp];exact AX h_)
 refine RE ?_;refine aC fun K hK=>?_;have key: ∀(v:Int) fr ob nx,Fits 1 fr ob (fin [(0,.ptr 0 0),(1,.c (.int .i64 n)),(5,.c (.int .i64 v))]) (fob [(0,.box 59 (.c (tp L a)))]) 300→K fr ob nx:=by
  intro v fr ob nx hf;refine hK _ _ _ (bB hf ?_);clear hf hK K;have hn1:1≤n:=by simp at hb;omega
  have e0:=P3 v (b:=n) (by omega);have e1: -n<v.tmod n:=T9 v (by omega);refine RS ?_;iterate 8 refine S0 ?_ (e:=fun _ h_=>by simp only[sH,↓sP,sA,tyS,simprocAttr,tp];exact AX h_)
  refine RE ?_;refine RS ?_;iterate 8 refine S0 ?_ (e:=fun _ h_=>by simp only[sH,↓sP,sA,tyS,simprocAttr,tp];exact AX h_)
  refine RE ?_;refine aE (RT Tryz.results17 ?_);have e2:IntKind.i64.wrap (v.tmod n+n)=v.tmod n+n:=A8 _ (by omega);have e3:IntKind.i64.wrap ((a:Int)+1)=((a+1:Nat):Int):=A8 _ (by omega);refine gK [] (.int .i64 ((v.tmod n+n).tmod n)) (tp L (a+1)) (by rw[e2];rfl) rfl ?_ (by simp) ⟨_,a+1,rfl,rfl,by omega,AC _ (by omega),fun h=>by omega,fun _=>P3 _ (by omega)⟩;simp[tp,denilL_int,e3]
 refine aC fun K hK=>QR ?_;iterate 10 refine S0 ?_ (e:=fun _ h_=>by simp only[sH,↓sP,sA,tyS,simprocAttr,tp];exact AX h_)
 refine T2 (hK _ _ _ ?_);clear hK K;refine aF (b:=decide ((a:Int)<L.length)) rfl (fun hb=>?_) (fun hb=>?_)
 ·
  refine QW ?_;simp only[sR,simprocAttr];iterate 11 refine S0 ?_ (e:=fun _ h_=>by simp only[sH,↓sP,sA,tyS,simprocAttr,tp,A0,(by simpa using hb:(a:Int)<L.length),aV (show a<L.length by simpa using hb)];exact AX h_)
  refine T4 ?_;exact key (L[a]'(by simpa using hb)) _ _ _ (fF)
 refine aJ (T3 ?_);exact key (IntKind.i64.wrap (IntKind.i64.wrap (↑a*7)+3)) _ _ _ (fF)
theorem aN2 (L:List Int)(a:Nat)(l:List aH)(ha:a<2^40)(hl:1≤l.length∧l.length<2^40):bB1 Tryz.prog 18 59 (tp L a) [.slc (l.map .str)] (fun u v'=> ∃(w:aH) (a':Nat),u= .str w∧w∈l∧v'=tp L a'∧a'≤a+1):=by
 refine cA Tryz.func18 rfl (by kernel_rfl) (dV _ _ _) (C4 rfl) ?_;refine R0 ?_;refine aC fun K hK=>aL (by kernel_rfl) ?_;simp only[↓sP,sA,tyS,simprocAttr];refine cC (args:=[_]) (eZ L a l.length ha (by omega)) rfl (by simp) ⟨rfl,rfl,rfl,rfl⟩ ?_;rintro u v' ⟨x,a',rfl,rfl,h1,h2,h3,h4⟩;obtain⟨i,rfl⟩: ∃i:Nat,x=i:=⟨x.toNat,by omega⟩;have hlt:i<l.length:=by omega
 simp only[↓sP,sA,tyS,simprocAttr,A0,A4,hlt,aV hlt];refine AX (hK _ _ _ ?_);clear hK K;refine aE (RT Tryz.results18 ?_);exact gK [] (.str l[i]) (tp L a') rfl rfl (by simp[tp,denilL_int]) (by simp) ⟨_,a',rfl,C0 _,rfl,h1⟩
end Go.Proofs.YtlgckianjabghaaGreatDoor
