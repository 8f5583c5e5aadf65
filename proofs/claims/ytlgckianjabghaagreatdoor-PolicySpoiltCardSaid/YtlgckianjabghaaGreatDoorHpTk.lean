/- Part of a proof: walks of functions of the program, by contracts, and the rules they use. By an AI agent. -/
import Derived.Test.YtlgckianjabghaaGreatDoorHpT5
set_option maxRecDepth 10000
set_option maxHeartbeats 16000000
set_option linter.unusedSimpArgs false
set_option linter.unusedVariables false
set_option linter.defProp false
namespace Go.Proofs.YtlgckianjabghaaGreatDoor
open Go Go.Hl Go.Pl
theorem bE1 (n k:Int)(h1:1≤k)(hk:k<2^40):cG Tryz.prog 8 [.int .i64 n,.int .i64 k] (fun v=> ∃x:Nat,(x:Int)<k∧v= .int .i64 x):=by
 have e0:=P3 n (b:=k) (by omega);have e1: -k<n.tmod k:=T9 n (by omega);have e2:IntKind.i64.wrap (n.tmod k+k)=n.tmod k+k:=A8 _ (by omega);have e3:(k=0)=False:=by simp;omega
 have e4:=P3 (n.tmod k+k) (b:=k) (by omega);have e5:=AC k (show 0≤n.tmod k+k by omega);refine FW Tryz.func8 ?_;refine R0 ?_;refine RS ?_;have F:=aI e2 e3;refine AU ?_;refine aE (RT Tryz.results8 ?_);exact aK [] (.int .i64 ((n.tmod k+k).tmod k)) rfl ⟨((n.tmod k+k).tmod k).toNat,by omega,by rw[Int.toNat_of_nonneg e5]⟩
theorem cM3 (L:List Int)(n:Nat):HGe Tryz.prog 6 [.c (.slc (L.map (.int .i64))),.c (.int .i64 n)] [] (fun r os'=>r= .ptr 0 0∧os'=[.box 59 (.c (tp (L.take n) 0))]):=by
 refine cA (args:=[.c (.slc (L.map (.int .i64))),.c (.int .i64 n)]) Tryz.func6 rfl (by kernel_rfl) (eM rfl (by simp[dO]) (by simp)) (C4 rfl) ?_;show Hw _ _ 0 _ _ _ (lst _) 0;rw[show lst []=fob []from by funext i;simp[lst,fob]];refine R0 ?_;refine RS ?_;have F:=@denilL_int;refine AU ?_;refine aE (RT Tryz.results6 ?_);refine dS [] [32] (.ptr 0 0) [.box 59 (.c (tp (L.take n) 0))] rfl (by simp) ⟨⟨by simp,by simp,_,rfl,?_⟩,trivial⟩ rfl (by simp) (by simp) (by simp) ⟨rfl,rfl⟩;simp[tau,denilL_int,fC,tp];have e:(if n<L.length then(n:Int)else(L.length:Int)).toNat=min n L.length:=by split<;>omega
 rw[e,←List.map_take,←List.map_take,denilL_int,←List.take_eq_take_min]
theorem bK1 (L:List Int)(a:Nat)(ha:a<2^39):bB1 Tryz.prog 69 59 (tp L a) [] (fun u v'=> ∃(q:Rq) (a':Nat),u=q.cv∧v'=tp L a'∧a'≤a+3∧eA q=true):=by
 refine cA Tryz.func69 rfl (by kernel_rfl) (dV _ _ _) (C4 rfl) ?_;have hw3: ∀x:Int,0≤x→x<100→IntKind.i64.wrap (1+x)=1+x:=fun x h1 h2=>A8 _ (by omega);refine R0 ?_;refine aC fun K hK=>Rg ?_;refine S0 ?_;refine HS rfl rfl fun K' hK'=>T5 ?_;refine cC (args:=[_]) (eZ L a 8 (by omega) (by omega)) rfl (by simp) ⟨rfl,rfl,rfl,rfl⟩ ?_;rintro u v' ⟨x,a1,rfl,rfl,h1,h2,h3,h4⟩;refine AX (hK' _ _ ?_);clear hK' K';refine AU ?_;refine T2 (hK _ _ _ ?_);clear hK K;refine aC fun K hK=>?_;have key: ∀(q:Rq) (a':Nat) fr ob nx,eA q=true→a'≤a+3→Fits 1 fr ob (fin [(2,.ptr 1 0),(3,.ptr 21 0)]) (fob [(0,.box 59 (.c (tp L a'))),(1,.box 54 (.c rq0.cv)),(21,.box 54 (.c q.cv))]) 600→K fr ob nx:=by
  rintro q a' fr ob nx hq ha' hf;refine hK _ _ _ (bB hf ?_);clear hf hK K;refine R0 ?_;refine aE (RT Tryz.results69 ?_);exact gK [] q.cv (tp L a') (by simp[Rq.denil]) rfl (by simp[tp,denilL_int]) (by simp) ⟨q,a',rfl,rfl,ha',hq⟩
 have hx8:=h4 (by omega);obtain⟨k,hk⟩: ∃k,k=IntKind.i64.wrap (1+x):=⟨_,rfl⟩;have hkx:k=1+x:=by rw[hk,hw3 x h2 (by omega)]
 rw[←hk];clear hk h3 h4;refine R0 ?_;refine aM ?_;refine aC fun K hK=>?_;have key2: ∀(b:Bool) fr ob nx,b=(k==1||(k==3||k==5))→Fits 1 fr ob (fin [(0,.ptr 0 0),(2,.ptr 1 0),(3,.ptr 21 0),(9,.c (.int .i64 k)),(10,.c (.bool b))]) (fob [(0,.box 59 (.c (tp L a1))),(1,.box 54 (.c rq0.cv)),(21,.box 54 (.c (Rq.cv ⟨k,0,0,[]⟩)))]) 200→K fr ob nx:=by
  rintro b fr ob nx rfl hf;refine hK _ _ _ (bB hf ?_);clear hf hK K;refine aF (b:=_) rfl (fun hb=>?_) (fun hb=>?_)
  ·
   refine Rg ?_;refine S0 ?_;refine HS rfl rfl fun K' hK'=>T5 ?_;refine cC (args:=[_]) (eZ L a1 3 (by omega) (by omega)) rfl (by simp) ⟨rfl,rfl,rfl,rfl⟩ ?_;rintro u v' ⟨y,a2,rfl,rfl,g1,g2,g3,g4⟩;refine AX (hK' _ _ ?_);clear hK' K';refine AU ?_;refine T4 ?_;have g5:=g4 (by omega);have hk3:k=1∨k=3∨k=5:=by simpa using hb
   exact key ⟨k,IntKind.i64.wrap (1+y),0,[]⟩ a2 _ _ _ (by rw[hw3 y g2 (by omega),eA,B6 hk3];simp[inB];omega) (by omega) (fF)
  have h1:=hb;refine R0 ?_;refine aF (b:=_) rfl (fun hb=>?_) (fun hb=>?_)
  ·
   refine Rg ?_;refine S0 ?_;refine HS rfl rfl fun K' hK'=>T5 ?_;refine cC (args:=[_]) (eZ L a1 2 (by omega) (by omega)) rfl (by simp) ⟨rfl,rfl,rfl,rfl⟩ ?_;rintro u v' ⟨y,a2,rfl,rfl,g1,g2,g3,g4⟩;have g5:=g4 (by omega);clear g3 g4;refine AX (hK' _ _ ?_);clear hK' K';refine AU ?_;refine HS rfl rfl fun K' hK'=>T5 ?_;refine cC (args:=[_]) (eZ L a2 2 (by omega) (by omega)) rfl (by simp) ⟨rfl,rfl,rfl,rfl⟩ ?_;rintro u v' ⟨z,a3,rfl,rfl,f1,f2,f3,f4⟩;refine AX (hK' _ _ ?_);clear hK' K';refine AU ?_;refine T4 ?_;have n1: ¬(k=1∨k=3∨k=5):=by simpa using h1
   have f5:=f4 (by omega);have hk4:k=4:=by simpa using hb
   exact key ⟨k,IntKind.i64.wrap (1+y),z,[]⟩ a3 _ _ _ (by rw[hw3 y g2 (by omega),eA,A7 n1,B6 hk4];simp[inB];omega) (by omega) (fF)
  have n4: ¬k=4:=by simpa using hb
  refine R0 ?_;refine aF (b:=_) rfl (fun hb=>?_) (fun hb=>?_)
  ·
   refine aZ (by kernel_rfl) ?_;simp only[sR,simprocAttr];refine SG0 ?_;refine cU (g:=none) 220 rfl rfl fun K' hK'=>?_;simp only[fI,iM,sH,↓sP,sA,tyS,simprocAttr];repeat refine AI ?_
   refine cK (by first|rfl|simp) ?_;try simp only[sH,↓sP,sA,tyS,simprocAttr]
   refine AX (hK' _ _ ?_);clear hK' K';refine bU (g:=none) rfl rfl fun K' hK'=>T5 ?_;refine cC (args:=[_]) (aN2 L a1 [[115,104,111,112],[119,101,98]] (by omega) (by decide)) rfl (by simp) ⟨rfl,rfl,rfl,rfl⟩ ?_;rintro u v' ⟨w,a2,rfl,hwm,rfl,g1⟩;refine AX (hK' _ _ ?_);clear hK' K';iterate 2 refine SG0 ?_
   refine T4 ?_;have n1: ¬(k=1∨k=3∨k=5):=by simpa using h1
   have hk2:k=2:=by simpa using hb
   exact key ⟨k,0,0,w⟩ a2 _ _ _ (by
    have hnm:dX w=true:=by
     simp only[E9,I7,P1]at hwm;rcases hwm with rfl|rfl<;>decide
    rw[eA,A7 n1,A7 n4,B6 hk2,hnm];rfl) (by omega) (fF)
  have n2: ¬k=2:=by simpa using hb
  refine R0 ?_;refine aF (b:=_) rfl (fun hb=>?_) (fun hb=>?_)
  ·
   refine Rg ?_;refine S0 ?_;refine HS rfl rfl fun K' hK'=>T5 ?_;refine cC (args:=[_]) (eZ L a1 10 (by omega) (by omega)) rfl (by simp) ⟨rfl,rfl,rfl,rfl⟩ ?_;rintro u v' ⟨y,a2,rfl,rfl,g1,g2,g3,g4⟩;refine AX (hK' _ _ ?_);clear hK' K';refine AU ?_;refine T4 ?_;have n1: ¬(k=1∨k=3∨k=5):=by simpa using h1
   have g5:=g4 (by omega);have hk6:k=6:=by simpa using hb
   exact key ⟨k,IntKind.i64.wrap (1+y),0,[]⟩ a2 _ _ _ (by rw[hw3 y g2 (by omega),eA,A7 n1,A7 n4,A7 n2,B6 hk6];simp[inB];omega) (by omega) (fF)
  have n6: ¬k=6:=by simpa using hb
  refine R0 ?_;refine aF (b:=_) rfl (fun hb=>?_) (fun hb=>?_)
  ·
   refine Rg ?_;refine S0 ?_;refine HS rfl rfl fun K' hK'=>T5 ?_;refine cC (args:=[_]) (eZ L a1 30 (by omega) (by omega)) rfl (by simp) ⟨rfl,rfl,rfl,rfl⟩ ?_;rintro u v' ⟨y,a2,rfl,rfl,g1,g2,g3,g4⟩;refine AX (hK' _ _ ?_);clear hK' K';refine AU ?_;refine T4 ?_;have n1: ¬(k=1∨k=3∨k=5):=by simpa using h1
   have g5:=g4 (by omega);have hk7:k=7:=by simpa using hb
   exact key ⟨k,y,0,[]⟩ a2 _ _ _ (by rw[eA,A7 n1,A7 n4,A7 n2,A7 n6,B6 hk7,gO];simp[inB];omega) (by omega) (fF)
  refine aJ (T3 ?_);have n1: ¬(k=1∨k=3∨k=5):=by simpa using h1
  have n7: ¬k=7:=by simpa using hb
  have hk8:k=8:=by omega
  exact key ⟨k,0,0,[]⟩ a1 _ _ _ (by rw[eA,A7 n1,A7 n4,A7 n2,A7 n6,A7 n7,B6 hk8];rfl) (by omega) (fF)
 refine R0 ?_;refine aF (b:=_) rfl (fun hb=>?_) (fun hb=>?_)
 · refine aJ (T3 ?_);exact key2 (k==1) _ _ _ (by rw[hb];rfl) (fG (by simp[Rq.cv,rq0]))
 have h1:=hb;refine R0 ?_;refine aF (b:=_) rfl (fun hb=>?_) (fun hb=>?_)
 · refine aJ (T3 ?_);exact key2 (k==3) _ _ _ (by rw[h1,hb];rfl) (fG (by simp[Rq.cv,rq0]))
 have h1':=hb;refine aL (by kernel_rfl) ?_;simp only[↓sP,sA,tyS,simprocAttr];exact key2 (k==5) _ _ _ (by rw[h1,h1'];rfl) (fG (by simp[Rq.cv,rq0]))
def wiN (n k:Int):Int:=(n.tmod k+k).tmod k
theorem aX4 (n k:Int)(h1:1≤k)(hk:k<2^40):cG Tryz.prog 8 [.int .i64 n,.int .i64 k] (fun v=>v= .int .i64 (wiN n k)):=by
 have e0:=P3 n (b:=k) (by omega);have e1: -k<n.tmod k:=T9 n (by omega);have e2:IntKind.i64.wrap (n.tmod k+k)=n.tmod k+k:=A8 _ (by omega);have e3:(k=0)=False:=by simp;omega
 refine FW Tryz.func8 ?_;refine R0 ?_;refine RS ?_;have F:=aI e2 e3;refine AU ?_;refine aE (RT Tryz.results8 ?_);exact aK [] (.int .i64 (wiN n k)) rfl rfl
theorem cU1 {n k:Int}(h1:1≤k):0≤wiN n k∧wiN n k<k:=by
 have e1: -k<n.tmod k:=T9 n (by omega);exact⟨AC k (show 0≤n.tmod k+k by omega),P3 (n.tmod k+k) (b:=k) (by omega)⟩
end Go.Proofs.YtlgckianjabghaaGreatDoor
namespace Go.Pl
open Go Go.Hl
def isV (ls:List (List aH))(a:Nat)(w:aH)(k:Nat):Bool:=decide (a<ls.length)&&((ls.getD a []).length==k&&wd (ls.getD a []) 0==w)
variable {a:Nat}{ls:List (List aH)}
theorem aN3 (h: ¬a<ls.length)(w:aH)(k:Nat):isV ls a w k=false:=by simp[isV,h]
theorem kD (h:a<ls.length)(w:aH)(k:Nat):isV ls a w k=(ls[a].length==k&&wd ls[a] 0==w):=by simp[isV,h]
variable {k:Nat}
theorem iG {w:aH}(h:isV ls a w k=true): ∃hl:a<ls.length,ls[a].length=k∧wd ls[a] 0=w:=by
 by_cases hl:a<ls.length;all_goals simp_all[kD,A6,G9,aN3]
def iF (ls:List (List aH))(a:Nat)(w:aH):Option Int:=if isV ls a w 2 then bP (wd (ls.getD a []) 1)else none
def oA (ls:List (List aH))(a:Nat)(w:aH):Option (Int×Int):=if isV ls a w 3 then match bP (wd (ls.getD a []) 1),bP (wd (ls.getD a []) 2)with|some n,some m=>some (n,m)|_,_=>none else none
theorem aN4 {w:aH}(h:isV ls a w 2=true)(hl:a<ls.length):iF ls a w=bP (wd ls[a] 1):=by simp[iF,h,hl]
theorem cM4 {w:aH}(h:isV ls a w 2=false):iF ls a w=none:=by simp[iF,h]
theorem cM5 {w:aH}(h:isV ls a w 3=false):oA ls a w=none:=by simp[oA,h]
theorem bK2 {w:aH}(h:isV ls a w 3=true)(hl:a<ls.length):oA ls a w=match bP (wd ls[a] 1),bP (wd ls[a] 2)with|some n,some m=>some (n,m)|_,_=>none:=by simp[oA,h,hl]
theorem kV {w:aH}{n:Int}(h:iF ls a w=some n): ∃hl:a<ls.length,ls[a].length=2∧wd ls[a] 0=w∧bP (wd ls[a] 1)=some n:=by grind[iF,iG]
theorem bS1 {w:aH}{n m:Int}(h:oA ls a w=some (n,m)): ∃hl:a<ls.length,ls[a].length=3∧wd ls[a] 0=w∧bP (wd ls[a] 1)=some n∧bP (wd ls[a] 2)=some m:=by
 unfold oA at h;grind[iG]
variable {w:List aH}
theorem aB5 (h:w.length=2)(h0:wd w 0=bO):dN w=(bP (wd w 1)).map (⟨1,·,0,[]⟩):=by simp[dN,h,h0]
theorem aN5 (h:w.length=2)(h0:wd w 0=bL):dN w=some ⟨2,0,0,wd w 1⟩:=by grind[dN,bL,bO]
theorem aB6 (h:w.length=2)(h0:wd w 0=bQ):dN w=(bP (wd w 1)).map (⟨3,·,0,[]⟩):=by grind[dN,bQ,bO,bL]
theorem aN6 (h:w.length=3)(h0:wd w 0=bW):dN w=match bP (wd w 1),bP (wd w 2)with|some n,some m=>some ⟨4,n,m,[]⟩|_,_=>none:=by
 simp only[dN,h,h0];grind
theorem aX5 (h:w.length=2)(h0:wd w 0=cF):dN w=(bP (wd w 1)).map (⟨5,·,0,[]⟩):=by grind[dN,cF,bO,bL,bQ]
theorem bE2 (h:w.length=2)(h0:wd w 0=cQ):dN w=(bP (wd w 1)).map (⟨6,·,0,[]⟩):=by grind[dN,cQ,bO,bL,bQ,cF]
theorem bE3 (h:w.length=2)(h0:wd w 0=cR):dN w=(bP (wd w 1)).map (⟨7,·,0,[]⟩):=by grind[dN,cR,bO,bL,bQ,cF,cQ]
theorem aN7 (h:w.length=1)(h0:wd w 0=bX):dN w=some ⟨8,0,0,[]⟩:=by simp[dN,h,h0]
def lM (ls:List (List aH))(a:Nat):Option Rq:=if h:a<ls.length then dN ls[a]else none
theorem iH (h:a<ls.length):lM ls a=dN ls[a]:=by simp[lM,h]
theorem bS2 (h1:iF ls a bO=none)(h2:isV ls a bL 2=false)(h3:iF ls a bQ=none)(h4:oA ls a bW=none)(h5:iF ls a cF=none)(h6:iF ls a cQ=none)
  (h7:iF ls a cR=none) (h8:isV ls a bX 1=false):lM ls a=none:=by
 unfold lM;split
 ·
  rename_i hl;have n1: ∀w,iF ls a w=none→ls[a].length=2∧wd ls[a] 0=w→bP (wd ls[a] 1)=none:=fun w h hc=>by grind[isV,kD,aN4]
  unfold dN;split
  · grind
  ·
   split
   · grind[kD]
   ·
    split
    · grind
    ·
     split
     ·
      rename_i hc;have:isV ls a bW 3=true:=by rw[kD hl];simp[hc]
      grind[bK2,absurd]
     ·
      split
      · grind
      grind[kD]
 · rfl
def lH (ls:List (List aH))(a:Nat):Option Nd:=if h:a<ls.length then eL ls[a]else none
theorem cD4 (h:isV ls a fE 1=true):lH ls a=some ⟨2,0,0,rq0⟩:=by grind[iG,lH,eL]
theorem cD5 (h:isV ls a fH 1=true):lH ls a=some ⟨3,0,0,rq0⟩:=by grind[iG,lH,eL,fH,fE]
theorem cM6 {n:Int}(h:iF ls a bT=some n):lH ls a=some ⟨4,n,0,rq0⟩:=by grind[kV,lH,eL]
theorem bS3 (h1:isV ls a fE 1=false)(h2:isV ls a fH 1=false)(h3:iF ls a bT=none):lH ls a=none:=by
 unfold lH;split
 ·
  rename_i hl;unfold eL;split
  · grind[kD]
  grind[kD,isV,bT,aN4]
 · rfl
abbrev Kds :=Option (List Nd×Int)×List (List aH)
def rZ (ts:List Nd)(k:Int)(x:Kds):Kds:=(x.1.map fun p=>(ts++p.1,k+p.2),x.2)
def aB7 (n:Nd)(x:Kds):Option (List Nd)×List (List aH):=(x.1.map fun p=>{n with c:=p.2}::p.1,x.2)
theorem cD6 (ts us:List Nd)(k j:Int)(x:Kds):rZ ts k (rZ us j x)=rZ (ts++us) (k+j) x:=by
 obtain⟨o,r⟩:=x;cases o<;>simp[rZ,E8,Int.add_assoc]
theorem cD7 (x:Kds):rZ [] 0 x=x:=by simp_all[rZ]
variable {q:Rq}{r:List (List aH)}{f:Nat}
theorem pH {w:List aH}(h:dN w=some q):rdN (f+1) (w::r)=(some [⟨1,0,0,q⟩],r):=by simp only[rdN,h]
theorem pI {w:List aH}(h:dN w=none)(h2:eL w=none):rdN (f+1) (w::r)=(none,w::r):=by simp only[rdN,h,h2]
variable {n:Nd}
theorem qO {w:List aH}(h:dN w=none)(h2:eL w=some n):rdN (f+1) (w::r)=aB7 n (rdK f r):=by
 simp only[rdN,h,h2]
 match rdK f r with
 |(none,r')=>rfl
 |(some (ts,c),r')=>rfl
theorem aN8 {l:List (List aH)}(h:eY (l.headD [])=true):rdK (f+1) l=(some ([],0),l.tail):=by simp only[rdK,h,F7]
theorem bE4 {l:List (List aH)}(h:eY (l.headD [])=false)(h2:rdN f l=(none,r)):rdK (f+1) l=(none,r):=by simp_all[rdK,E7,J2]
variable {t:List Nd}
theorem zU {l:List (List aH)}(h:eY (l.headD [])=false)(h2:rdN f l=(some t,r)):rdK (f+1) l=rZ t 1 (rdK f r):=by
 simp only[rdK,h,h2,E7,J2];grind[rdK,rZ,Int.add_comm]
theorem aN9 : ∀f,(∀l,∃j,(rdN f l).2=l.drop j∧ ∀t,(rdN f l).1=some t→t.length+(rdN f l).2.length≤l.length)∧(∀l,∃j,(rdK f l).2=l.drop j∧ ∀p,(rdK f l).1=some p→p.1.length+(rdK f l).2.length≤l.length)
 |0=>⟨fun l=>⟨0,by simp[rdN],fun t h=>by simp[rdN]at h⟩,fun l=>⟨0,by simp[rdK],fun t h=>by simp[rdK]at h⟩⟩
 |f+1=>by
  obtain⟨ihN,ihK⟩:=aN9 f;refine⟨fun l=>?_,fun l=>?_⟩
  ·
   match l with
   |[]=>simp_all[rdN]
   |w::r=>
    cases h1:dN w with
    |some q=>rw[pH h1];exact⟨1,rfl,fun t h=>by grind⟩
    |none=>
     cases h2:eL w with
     |none=>rw[pI h1 h2];exact⟨0,rfl,fun t h=>by cases h⟩
     |some n=>
      rw[qO h1 h2];obtain⟨j,hj,hl⟩:=ihK r;refine⟨j+1,hj,fun t h=>?_⟩;cases hk:(rdK f r).1 with
      |none=>simp[aB7,hk]at h
      |some p=>
       grind[aB7,rdK]
  ·
   cases he:eY (l.headD [])with
   |true=>
    rw[aN8 he];exact⟨1,by simp,fun p h=>by grind⟩
   |false=>
    obtain⟨j,hj,hl⟩:=ihN l
    match h2:rdN f l with
    |(none,r)=>
     rw[bE4 he h2];grind
    |(some t,r)=>
     rw[zU he h2];rw[h2]at hj hl;obtain⟨i,hi,hl2⟩:=ihK r;have hj':r=l.drop j:=hj;have hl':=hl t rfl;simp only at hl';refine⟨j+i,?_,fun p h=>?_⟩
     · show(rdK f r).2=_;simp_all
     ·
      cases hk:(rdK f r).1 with
      |none=>simp[rZ,hk]at h
      |some q=>
       grind[rZ,rdK]
theorem bK3 (f:Nat)(l:List (List aH)): ∃j,j≤l.length∧(rdN f l).2=l.drop j:=by
 obtain⟨j,hj,_⟩:=(aN9 f).1 l;rcases H0 l.length j with h|h
 · exact⟨l.length,F2 _,by rw[hj,H9 (by omega),H9 (F2 _)]⟩
 grind
theorem vH (ha:a≤ls.length):eY ((ls.drop a).headD [])=isV ls a wEnd 1:=by
 rcases H0 a ls.length with h|h
 · rw[kD h,B2 h];rfl
 · rw[aN3 (by omega),H9 h];rfl
structure KdSt (f:Nat)(ls:List (List aH))(a:Nat)(nd:Nd)(g:Nat)(ts:List Nd)(k p:Nat):Prop where
 eq:rdN f (ls.drop a)=aB7 nd (rZ ts k (rdK g (ls.drop p)))
 le:p≤ls.length
 fuel:2*(ls.length-p)+2≤g
 lt:g<f
 len:ts.length+(ls.length-p)+1≤ls.length-a
 kids:k≤ts.length
variable {nd:Nd}
theorem KdSt.init (ha:a<ls.length)(hf:2*(ls.length-a)+1≤f)(h1:dN ls[a]=none)(h2:eL ls[a]=some nd):KdSt f ls a nd (f-1) [] 0 (a+1):=by
 obtain⟨g,rfl⟩: ∃g,f=g+1:=⟨f-1,by omega⟩;refine⟨?_,by omega,?_,by omega,by grind,by simp⟩;all_goals grind[List.drop_eq_getElem_cons,qO,aB7,rZ,cD7,Nat.add_sub_cancel]
variable {p g:Nat}{ts:List Nd}
theorem KdSt.end_ {nd:Nd}{k:Nat}(h:KdSt f ls a nd g ts k p)(he:isV ls p wEnd 1=true):p<ls.length∧rdN f (ls.drop a)=(some ({nd with c:=(k:Int)}::ts),ls.drop (p+1)):=by
 obtain⟨hp,_,_⟩:=iG he;obtain⟨q,rfl⟩: ∃q,g=q+1:=⟨g-1,by have:=h.fuel;omega⟩;refine⟨hp,?_⟩;rw[h.eq,aN8 (by rw[vH h.le,he])];simp[rZ,aB7]
theorem KdSt.no (h:KdSt f ls a nd g ts k p)(he:isV ls p wEnd 1=false)(hn:(rdN (g-1) (ls.drop p)).1=none):rdN f (ls.drop a)=(none,(rdN (g-1) (ls.drop p)).2):=by
 obtain⟨q,rfl⟩: ∃q,g=q+1:=⟨g-1,by have:=h.fuel;omega⟩;simp only[U0]at hn⊢;rw[h.eq,bE4 (by rw[vH h.le,he]) (r:=(rdN q (ls.drop p)).2) (CZ hn rfl)];rfl
theorem KdSt.some_ (h:KdSt f ls a nd g ts k p)(he:isV ls p wEnd 1=false)(hs:(rdN (g-1) (ls.drop p)).1=some t):
  KdSt f ls a nd (g-1) (ts++t) (k+1) (ls.length-(rdN (g-1) (ls.drop p)).2.length):=by
 obtain⟨q,rfl⟩: ∃q,g=q+1:=⟨g-1,by have:=h.fuel;omega⟩;simp only[U0]at hs⊢;obtain⟨j,hj,hr⟩:=bK3 q (ls.drop p);have hlt:(rdN q (ls.drop p)).snd.length<(ls.drop p).length:=(aM5 q).1 (ls.drop p) t (rdN q (ls.drop p)).snd (CZ hs rfl);obtain⟨_,_,hlen⟩:=(aN9 q).1 (ls.drop p);have hlen':=hlen t hs;have hle:=h.le;rw[hr]at hlt hlen';simp only[B8]at hj hlt hlen';have hpos:ls.length-(rdN q (ls.drop p)).2.length=p+j:=by rw[hr];simp only[B8];omega
 have hfu:=h.fuel;have hfl:=h.lt;have hll:=h.len;have hkk:=h.kids;have ht0:1≤t.length∨t=[]:=by cases t<;>simp
 rw[hpos];refine⟨?_,by omega,by omega,by omega,by grind,?_⟩
 · rw[h.eq,zU (by rw[vH h.le,he]) (r:=(rdN q (ls.drop p)).2) (CZ hs rfl),cD6,hr,List.drop_drop];rfl
 ·
  simp only[A3];rcases ht0 with h0|h0
  · omega
  ·
   exfalso;subst h0
   revert hs
   match q,ls.drop p with
   |0,l=>intro hs;cases hs
   |q+1,[]=>intro hs;cases hs
   |q+1,w::r=>
    intro hs;cases h1:dN w with
    |some x=>rw[pH h1]at hs;cases hs
    |none=>
     cases h2:eL w with
     |none=>rw[pI h1 h2]at hs;cases hs
     |some x=>
      rw[qO h1 h2]at hs;cases hk:(rdK q r).1 with
      |none=>simp[aB7,hk]at hs
      |some y=>simp[aB7,hk]at hs
theorem cU2 (ha:a≤ls.length)(h:isV ls a wRule 5=false):rdR (ls.drop a)=(none,ls.drop a):=by
 rcases H0 a ls.length with hl|hl
 · rw[kD hl]at h;rw[B2 hl];simp_all[rdR,A7]
 · rw[H9 hl];rfl
theorem cM7 (hl:a<ls.length)(h1:ls[a].length=5)(h2:wd ls[a] 0=wRule)(hn:bP (wd ls[a] 4)=none):rdR (ls.drop a)=(none,ls.drop a):=by
 rw[B2 hl];simp_all[rdR,B6]
theorem cD8 (hl:a<ls.length)(h1:ls[a].length=5)(h2:wd ls[a] 0=wRule){g:Int}(hn:bP (wd ls[a] 4)=some g):
  rdR (ls.drop a)=((rdT (ls.drop (a+1))).1.map fun t=>⟨wd ls[a] 1,wd ls[a] 2,wd ls[a] 3,g,t⟩,(rdT (ls.drop (a+1))).2):=by
 rw[B2 hl];simp only[rdR];grind
theorem aO0 (ls:List (List aH)): ∃j,j≤ls.length∧(rdR ls).2=ls.drop j∧ ∀p,(rdR ls).1=some p→1≤j:=by
 match ls with
 |[]=>exact⟨0,by simp,rfl,fun p h=>by cases h⟩
 |w::r=>
  simp only[rdR];split
  ·
   cases bP (wd w 4)with
   |none=>exact⟨0,by simp,rfl,fun p h=>by cases h⟩
   |some g=>
    obtain⟨j,hj,h2⟩:=bK3 (2*r.length+2) r;simp only[rdT]
    match hm:rdN (2*r.length+2) r with
    |(none,r')=>rw[hm]at h2;exact⟨j+1,by grind,h2,fun p h=>by cases h⟩
    |(some t,r')=>rw[hm]at h2;exact⟨j+1,by grind,h2,fun p h=>by omega⟩
  · exact⟨0,by simp,rfl,fun p h=>by cases h⟩
abbrev Rls :=Option (List Pr)×List (List aH)
structure RsSt (ls:List (List aH))(X:Rls)(acc:List Pr)(p:Nat):Prop where
 eq:X=kN (ls.length-p+1) (ls.drop p) acc
 le:p≤ls.length
 len:acc.length≤p
theorem aH5 : ∀(f g:Nat) (ls:List (List aH)) (acc:List Pr),ls.length<f→f≤g→kN g ls acc=kN f ls acc
 |0,_,_,_,h,_=>by omega
 |f+1,g,ls,acc,h,hg=>by
  obtain⟨q,rfl⟩: ∃q,g=q+1:=⟨g-1,by omega⟩;simp only[kN];split
  · rfl
  ·
   obtain⟨j,hj,h2,h3⟩:=aO0 ls
   match hm:rdR ls with
   |(none,r)=>rfl
   |(some x,r)=>
    rw[hm]at h2 h3;have h4:=h3 x rfl;simp only at h2;exact aH5 f q r _ (by rw[h2,B8];omega) (by omega)
variable {acc:List Pr}{X:Rls}
theorem RsSt.done (h:RsSt ls X acc p)(hp: ¬p<ls.length):p=ls.length∧X=(some acc,[]):=by
 have h1:=h.le;refine⟨by omega,?_⟩;rw[h.eq,H9 (by omega),kN,B6 rfl]
theorem RsSt.no (h:RsSt ls X acc p)(hp:p<ls.length)(hn:(rdR (ls.drop p)).1=none):X=(none,(rdR (ls.drop p)).2):=by
 rw[h.eq,kN,A7 (by simp_all)];grind
theorem RsSt.some_ (h:RsSt ls X acc p)(hp:p<ls.length){x:Pr}(hs:(rdR (ls.drop p)).1=some x):
  RsSt ls X (acc++[x]) (ls.length-(rdR (ls.drop p)).2.length)∧p<ls.length-(rdR (ls.drop p)).2.length:=by
 obtain⟨j,hj,h2,h3⟩:=aO0 (ls.drop p);have h4:=h3 x hs;rw[B8]at hj;have hlen:=h.len;have hpos:ls.length-(rdR (ls.drop p)).2.length=p+j:=by rw[h2];simp only[B8];omega
 rw[hpos];refine⟨⟨?_,by omega,by grind⟩,by omega⟩;rw[h.eq,kN,A7 (by grind)];grind[rdR,List.drop_drop,aH5,List.length_drop]
theorem cU3 (h:isV ls 0 wPolicy 3=false):rdP ls=(none,ls):=by
 match ls with
 |[]=>rfl
 |w::r=>
  simp_all[kD,rdP,A7]
theorem cM8 (hl:0<ls.length)(h1:ls[0].length=3)(h2:wd ls[0] 0=wPolicy)(hn:bP (wd ls[0] 2)=none):rdP ls=(none,ls):=by
 match ls,hl with
 |w::r,_=>
  simp_all[O8,rdP,B6]
theorem cD9 (hl:0<ls.length)(h1:ls[0].length=3)(h2:wd ls[0] 0=wPolicy){v:Int}(hn:bP (wd ls[0] 2)=some v):
  ∃X:Rls,rdP ls=(X.1.map fun l=>⟨wd ls[0] 1,v,l⟩,X.2)∧RsSt ls X [] 1:=by
 match ls,hl with
 |w::r,_=>
  simp only[O8]at h1 h2 hn⊢;refine⟨kN (r.length+1) r [],?_,⟨by simp,by simp,by simp⟩⟩;simp only[rdP];grind
theorem bK4 (h:cB n=true)(h1:n.k≠1)(h2:n.k≠2)(h3:n.k≠3):n.k=4:=by simp_all[cB,A7]
theorem aX6 (h:eA q=true):(0≤q.n∧q.n≤1099511627776)∧(0≤q.m∧q.m≤1099511627776):=by
 unfold eA inB at h
 repeat' split at h
 all_goals first
  |cases h;done
  |(simp only[A6,B9,G9]at h;(try rw[gO]at h);omega)
theorem bK5 (h:cB n=true)(h1:n.k=1):eA n.q=true:=by simp_all[cB,B6,A6]
theorem bK6 (h:cB n=true)(h1:n.k=4):1≤n.n∧n.n≤60:=by
 unfold cB inB at h;grind
variable {i:Nat}{l:List Nd}
theorem zV (ht:IsTree l)(hi:i<l.length)(hk:l[i].k=1):aft l i=i+1:=by
 obtain⟨_,_,c3,_⟩:=eF (ht.node _ (C0 hi));refine bC9 hi ?_;rw[B2 hi];simp_all[skip,dL]
theorem tY (ht:IsTree l)(hi:i<l.length):eH l l[i].c.toNat (i+1)=aft l i:=by
 obtain⟨h1,h2,h3⟩:=iR ht hi l[i].c.toNat (F2 _);simp_all[jL,U8,dL,congrArg,List.length,P6,B8]
theorem vI {l:List Nd}(ht:IsTree l): ∀(m:Nat) (i:Nat) (hi:i<l.length),l.length-i≤m→(fY l i).length≤2*(aft l i-i)∧ ∀k,k≤l[i].c.toNat→l[i].k≠1→(dT l i k).length≤2*(eH l k (i+1)-(i+1))
 |0,i,hi,hm=>by omega
 |m+1,i,hi,hm=>by
  have hkids: ∀k,k≤l[i].c.toNat→l[i].k≠1→(dT l i k).length≤2*(eH l k (i+1)-(i+1)):=by
   intro k;induction k with
   |zero=>grind[nT]
   |succ k ih=>
    intro hk hn;have h1:=ih (by omega) hn;have hlt:=mU ht hi (k:=k) (by omega);obtain⟨_,_,h3⟩:=iR ht hi k (by omega);have h4:=(vI ht m (eH l k (i+1)) hlt (by omega)).1;grind[jL,nU,List.length_append,iQ]
  refine⟨?_,hkids⟩;by_cases hk:l[i].k=1
  · grind[rQ,zV]
  · have h1:=hkids _ (F2 _) hk;obtain⟨_,_,h3⟩:=iR ht hi _ (F2 l[i].c.toNat);grind[tY,pE,List.length_cons,List.length_append,List.length_nil]
theorem wP (ht:IsTree l)(hi:i<l.length)(hk:k≤l[i].c.toNat)(hn:l[i].k≠1):(dT l i k).length≤2*(eH l k (i+1)-(i+1)):=(vI ht _ i hi (F2 _)).2 k hk hn
theorem zW (ht:IsTree l)(hi:i<l.length):(fY l i).length≤2*(aft l i-i):=(vI ht _ i hi (F2 _)).1
theorem aH6 : ∀(l:List Pr) (i:Nat),iS l=true→iS (l.take i)=true
 |[],i,h=>by grind
 |r::l,0,h=>rfl
 |r::l,i+1,h=>by
  simp only[iS,A6,J8]at h;simp only[P9,iS,A6,J8];refine⟨?_,aH6 l i h.2⟩;grind
def bE5 (l:List Pr)(r:Pr):Bool:=(l.map Pr.a).contains r.a||(!dX r.a||(!(fN r.b).isSome||(!(fN r.c).isSome||(!inB r.g 0 uP||!eB r.t))))
structure RlSt (l:List Pr)(i:Nat):Prop where
 le:i≤l.length
 all:(l.take i).all jW=true
 apart:iS (l.take i)=true
theorem RlSt.zero (l:List Pr):RlSt l 0:=⟨by omega,by simp,by simp[iS]⟩
theorem bK7 (l:List Pr)(r:Pr):bE5 l r=!(!(l.map Pr.a).contains r.a&&jW r):=by simp_all[bE5,jW,Pr.a,dX,fN,inB,uP,eB]
theorem RlSt.succ {l:List Pr}(h:RlSt l i)(hi:i<l.length)(hb:bE5 (l.take i) l[i]=false):RlSt l (i+1):=by
 rw[bK7]at hb;simp only[T8,A6]at hb;refine⟨hi,?_,?_⟩
 · rw[B3 hi,List.all_append,h.all,List.all_cons,hb.2];rfl
 · rw[B3 hi,pC,h.apart,hb.1];rfl
theorem aO1 {l:List Pr}(hi:i<l.length)(hb:bE5 (l.take i) l[i]=true):(l.all jW&&iS l)=false:=by
 rw[BR];intro h;simp only[A6]at h;have h1:=aH6 l (i+1) h.2;rw[B3 hi,pC]at h1;simp_all[A6,H6,C0,bK7]
theorem aO2 {p:Po}(h:(p.r.all jW&&iS p.r)=false):fA p=false:=by
 simp only[fA,h,C9]
def nmD (l:List Pr):MD:=l.foldl (fun D r=>lJ D r.a (.val (.bool true))) []
theorem cE0 (l:List Pr)(r:Pr):nmD (l++[r])=lJ (nmD l) r.a (.val (.bool true)):=by simp[nmD,List.foldl_append]
theorem cZ2 (D:MD)(k j:aH)(h:k≠j)(m:MV):dA (lJ D k m) j=dA D j:=by
 induction D with
 |nil=>simp[lJ,dA,h]
 |cons x D ih=>
  grind[lJ,dA]
theorem cE1 (s:aH): ∀(l:List Pr) (D:MD),dA (l.foldl (fun D r=>lJ D r.a (.val (.bool true))) D) s=if(l.map Pr.a).contains s then some (.val (.bool true))else dA D s
 |[],D=>rfl
 |r::l,D=>by
  rw[List.foldl_cons,cE1 s l,D0,X4];by_cases h:r.a=s;all_goals simp_all[cZ,cZ2,W7,A9]
theorem bK8 (s:aH)(l:List Pr):dA (nmD l) s=if(l.map Pr.a).contains s then some (.val (.bool true))else none:=cE1 s l []
def wZ (p:Po):Bool:=!dX p.n||(!inB p.v 1 1099511627776||decide ((16:Int)<p.r.length))
def pJ (c:Bool)(r:Pr):Bool:=c||(!dX r.a||(!(fN r.b).isSome||(!(fN r.c).isSome||(!inB r.g 0 1099511627776||!eB r.t))))
theorem aX7 (l:List Pr)(r:Pr):pJ ((l.map Pr.a).contains r.a) r=bE5 l r:=by simp only[pJ,bE5,gO]
theorem aH7 {p:Po}(h:wZ p=true):fA p=false:=by grind[wZ,fA,gO,dX,inB,decide]
theorem aX8 {p:Po}(h:wZ p=false)(h2:RlSt p.r p.r.length):fA p=true:=by
 unfold wZ at h;rw[fA,gO];have h3:=h2.all;have h4:=h2.apart;grind
structure PoSz (p:Po):Prop where
 n:p.n.length<2^63
 r:p.r.length<2^40
 a: ∀r∈p.r,r.a.length<2^63
 t: ∀r∈p.r,∀n∈r.t,n.q.t.length<2^63
end Go.Pl
namespace Go.Proofs.YtlgckianjabghaaGreatDoor
open Go Go.Hl Go.Pl
def aO3 (p:Po):Bool:=!dX p.n||(decide (p.v<1)||(decide ((1099511627776:Int)<p.v)||decide ((16:Int)<p.r.length)))
theorem bK9 (p:Po):aO3 p=wZ p:=by
 have h1:decide (p.v<1)=!decide (1≤p.v):=by rw[←decide_not];exact decide_eq_decide.2 (by omega)
 have h2:decide ((1099511627776:Int)<p.v)=!decide (p.v≤1099511627776):=by rw[←decide_not];exact decide_eq_decide.2 (by omega)
 rw[aO3,wZ,inB,h1,h2];cases dX p.n<;>cases decide (1≤p.v)<;>cases decide (p.v≤1099511627776)<;>rfl
def aO4 (r:Pr):Bool:=!dX r.a||(!(fN r.b).isSome||(!(fN r.c).isSome||(!inN r.g||!eB r.t)))
theorem bE6 (l:List Pr)(r:Pr):bE5 l r=((l.map Pr.a).contains r.a||aO4 r):=rfl
theorem aH8 (p:Po)(hp:PoSz p):cG Tryz.prog 14 [p.cv] (fun v=>v= .bool (fA p)):=by
 have hpn:=hp.n;have hpr:=hp.r;refine FW Tryz.func14 ?_;refine R0 ?_;refine aC fun K hK=>?_;refine aC fun K hK=>?_;have key: ∀(b:Bool) fr ob nx,b=aO3 p→Fits 0 fr ob (fin [(1,.ptr 0 0),(25,.c (.bool b))]) (fob [(0,.box 29 (.c p.cv))]) 600→K fr ob nx:=by
  rintro b fr ob nx rfl hf;refine hK _ _ _ (bB hf ?_);clear hf hK K;refine aF (b:=aO3 p) rfl (fun hb=>?_) (fun hb=>?_)
  · refine R0 ?_;refine aE (RT Tryz.results14 ?_);exact aK [] (.bool false) rfl (by rw[aH7 (by rw[←bK9];exact hb)])
  refine aJ ?_;refine T0 (hK _ _ _ ?_);clear hK K;refine aC fun K hK=>?_;refine R0 ?_;refine aM ?_;have hhead:=hb;rw[bK9]at hhead;clear hb;refine bN (α:={i:Nat//RlSt p.r i}) (fun i=>(fin [(1,.ptr 0 0),(3,.c (.int .i64 i.1))],fob [(0,.box 29 (.c p.cv))])) 2000 (fun i=>p.r.length-i.1) ⟨0,RlSt.zero p.r⟩ (fF) ?_;rintro⟨i,hΦ⟩;refine aC fun K hK=>?_;refine AU ?_;refine aF (b:=decide ((i:Int)<p.r.length)) rfl (fun hb=>?_) (fun hb=>?_)
  ·
   have hlt:i<p.r.length:=by simpa using hb
   clear hb;obtain⟨r,hr⟩: ∃r,r=p.r[i]:=⟨_,rfl⟩;have hmem:r∈p.r:=by rw[hr];exact C0 hlt
   have hra:=hp.a r hmem;have hrt:=hp.t r hmem;refine aJ ?_;refine T0 (hK _ _ _ ?_);clear hK K;refine aC fun K hK=>?_;refine aM ?_;refine RS ?_;iterate 7 refine S0 ?_ (e:=fun _ h_=>by simp only[sH,↓sP,sA,tyS,simprocAttr,A0,A4,hlt,aV hlt,←hr];exact AX h_)
   refine RE ?_;refine aC fun K hK=>?_;refine aC fun K hK=>?_;have key: ∀(b:Bool) fr ob nx,b=aO4 r→Fits 0 fr ob (fin [(1,.ptr 0 0),(3,.c (.int .i64 i)),(4,.ptr 2040 0),(65,.c (.bool b))]) (fob [(0,.box 29 (.c p.cv)),(2040,.box 48 (.c r.cv))]) 3000→K fr ob nx:=by
    rintro b fr ob nx rfl hf;refine hK _ _ _ (bB hf ?_);clear hf hK K;refine aF (b:=aO4 r) rfl (fun hb=>?_) (fun hb=>?_)
    · refine R0 ?_;refine aE (RT Tryz.results14 ?_);exact aK [] (.bool false) rfl (by rw[aO2 (aO1 hlt (by rw[bE6,←hr,hb,F0]))])
    refine aJ ?_;refine T0 (hK _ _ _ ?_);clear hK K;refine R0 ?_;refine aM ?_;have hbn:=hb;clear hb;refine bN (α:={k:Nat//k≤i∧((p.r.take k).map Pr.a).contains r.a=false}) (fun k=>(fin [(1,.ptr 0 0),(3,.c (.int .i64 i)),(4,.ptr 2040 0),(5,.c (.int .i64 k.1))],fob [(0,.box 29 (.c p.cv)),(2040,.box 48 (.c r.cv))])) 5000 (fun k=>i-k.1) ⟨0,by omega,rfl⟩ (fF) ?_;rintro⟨k,hk,hno⟩;refine aC fun K hK=>?_;refine R0 ?_;refine aF (b:=decide ((k:Int)<(i:Int))) rfl (fun hb=>?_) (fun hb=>?_)
    ·
     have hki:k<i:=by simpa using hb
     have hkl:k<p.r.length:=by omega
     clear hb;refine aJ ?_;refine T0 (hK _ _ _ ?_);clear hK K;refine aC fun K hK=>?_;refine aM ?_;refine aC fun K hK=>QR ?_;have F:=aI @A0 (aI @A4 (aI hkl (nM hkl)));refine AU ?_;refine T2 (hK _ _ _ ?_);clear hK K;refine aF (b:=p.r[k].a==r.a) rfl (fun hb=>?_) (fun hb=>?_)
     ·
      refine R0 ?_;refine aE (RT Tryz.results14 ?_);have he:p.r[k].a=r.a:=by simpa using hb
      have hc:((p.r.take i).map Pr.a).contains r.a=true:=by
       rw[AD,←he];exact List.mem_map_of_mem (S2.2 ⟨k,by simp;omega,by simp⟩)
      exact aK [] (.bool false) rfl (by rw[aO2 (aO1 hlt (by rw[bE6,←hr,hc,B4]))])
     refine aJ ?_;refine T0 (hK _ _ _ ?_);clear hK K;refine aL (by kernel_rfl) ?_;refine TQ (A8 ((k:Int)+1) (by omega)) ?_;have he:(r.a==p.r[k].a)=false:=by
      rw[I0]at hb⊢;exact fun h=>hb h.symm
     refine⟨⟨k+1,hki,by rw[B3 hkl];simp only[C5,AN,hno,D0,H1,X4,BQ,he,E1]⟩,fF,?_⟩;show i-(k+1)<i-k;omega
    refine bG (T3 ?_);clear hK K;refine AX (hK _ _ _ ?_);clear hK K;have hke:k=i:=by simp at hb;omega
    subst hke;have hΦ2:=hΦ.succ hlt (by rw[bE6,←hr,hno,hbn];rfl);clear hb;refine aL (by kernel_rfl) ?_;refine TQ (A8 ((k:Int)+1) (by omega)) ?_;refine⟨⟨k+1,hΦ2⟩,fF,?_⟩;show p.r.length-(k+1)<p.r.length-k;omega
   refine Rg ?_;refine AU ?_;refine SC (yW r.a (by omega)) ?_;refine AU ?_;refine aG 40 rfl (fun h7_40=>?_) (fun h7_40=>?_)
   ·
    have F:=h7_40;refine AU ?_;refine SCF (aW5 r.b) ?_;refine AU ?_;refine aG 45 rfl (fun h7_45=>?_) (fun h7_45=>?_)
    ·
     have F:=aI h7_40 h7_45;refine AU ?_;refine SCF (aW5 r.c) ?_;refine AU ?_;refine aG 51 rfl (fun h7_51=>?_) (fun h7_51=>?_)
     ·
      have F:=aI h7_40 (aI h7_45 h7_51);refine AU ?_;refine SCF (yV r.g) ?_;refine AU ?_;refine aG 57 rfl (fun h7_57=>?_) (fun h7_57=>?_)
      ·
       have F:=aI h7_40 (aI h7_45 (aI h7_51 h7_57));refine AU ?_;refine SCF (cC5 r.t hrt) ?_;refine AU ?_;refine aG 63 rfl (fun h7_63=>?_) (fun h7_63=>?_)
       · simp only[h7_63];refine T4 ?_;exact key false _ _ _ (by simp only[aO4,h7_40,h7_45,h7_51,h7_57,h7_63,D8,D7,B4,A9]) (fF)
       simp only[h7_63];refine T4 ?_;exact key true _ _ _ (by simp only[aO4,h7_40,h7_45,h7_51,h7_57,h7_63,D8,D7,B4,A9]) (fF)
      have F:=aI h7_40 (aI h7_45 (aI h7_51 h7_57));refine AU ?_;refine T4 ?_;exact key true _ _ _ (by simp only[aO4,h7_40,h7_45,h7_51,h7_57,D8,D7,B4,A9]) (fF)
     have F:=aI h7_40 (aI h7_45 h7_51);refine AU ?_;refine T4 ?_;exact key true _ _ _ (by simp only[aO4,h7_40,h7_45,h7_51,D8,D7,B4,A9]) (fF)
    have F:=aI h7_40 h7_45;refine AU ?_;refine T4 ?_;exact key true _ _ _ (by simp only[aO4,h7_40,h7_45,D8,D7,B4,A9]) (fF)
   have F:=h7_40;refine AU ?_;refine T4 ?_;exact key true _ _ _ (by simp only[aO4,h7_40,D8,D7,B4,A9]) (fF)
  refine bG (T3 ?_);clear hK K;refine AX (hK _ _ _ ?_);clear hK K;refine R0 ?_;refine aE (RT Tryz.results14 ?_);have hie:i=p.r.length:=by have:=hΦ.le;simp at hb;omega
  subst hie;exact aK [] (.bool true) rfl (by rw[aX8 hhead hΦ])
 refine Rg ?_;refine AU ?_;refine SC (yW p.n (by omega)) ?_;refine AU ?_;refine aG 8 rfl (fun h1_8=>?_) (fun h1_8=>?_)
 ·
  have F:=h1_8;refine AU ?_;refine aG 13 rfl (fun h1_13=>?_) (fun h1_13=>?_)
  · have F:=aI h1_8 h1_13;refine AU ?_;refine T4 ?_;exact key true _ _ _ (by simp only[aO3,h1_8,h1_13,D8,D7,B4,A9]) (fF)
  have F:=aI h1_8 h1_13;refine AU ?_;refine aG 18 rfl (fun h1_18=>?_) (fun h1_18=>?_)
  · have F:=aI h1_8 (aI h1_13 h1_18);refine AU ?_;refine T4 ?_;exact key true _ _ _ (by simp only[aO3,h1_8,h1_13,h1_18,D8,D7,B4,A9]) (fF)
  have F:=aI h1_8 (aI h1_13 h1_18);refine AU ?_;refine aG 24 rfl (fun h1_24=>?_) (fun h1_24=>?_)
  · simp only[h1_24];refine T4 ?_;exact key true _ _ _ (by simp only[aO3,h1_8,h1_13,h1_18,h1_24,D8,D7,B4,A9]) (fF)
  simp only[h1_24];refine T4 ?_;exact key false _ _ _ (by simp only[aO3,h1_8,h1_13,h1_18,h1_24,D8,D7,B4,A9]) (fF)
 have F:=h1_8;refine AU ?_;refine T4 ?_;exact key true _ _ _ (by simp only[aO3,h1_8,D8,D7,B4,A9]) (fF)
structure Few (p:Po):Prop where
 r:p.r.length≤20
 n:p.n.length≤100
 t: ∀r∈p.r,r.t.length≤70
end Go.Proofs.YtlgckianjabghaaGreatDoor
namespace Go.Pl
open Go Go.Hl
def nvN (w:List aH):Int:=if 2≤w.length∧wd w 0≠bL then(bP (wd w 1)).getD (-1)else 0
def nvM (w:List aH):Int:=if 3≤w.length then(bP (wd w 2)).getD (-1)else 0
def pK (w:List aH)(n:Nd)(b:Bool):Prop:=b=(dI w).isSome∧ ∀m,dI w=some m→n=m
variable {n:Nd}{w:List aH}
theorem qP (h:dI w=none):pK w n false:=⟨by rw[h];rfl,fun m hm=>by rw[h]at hm;cases hm⟩
theorem aH9 (h:dI w=some n):pK w n true:=⟨by rw[h];rfl,fun m hm=>by rw[h]at hm;cases hm;rfl⟩
theorem jR {w:List aH}{k:Nat}(h1:w.length=k→dI w=some n)(h2:w.length≠k→dI w=none):pK w n ((w.length:Int)==(k:Int)):=by
 by_cases h:w.length=k
 · rw[show((w.length:Int)==(k:Int))=true by simp[h]];exact aH9 (h1 h)
 · rw[show((w.length:Int)==(k:Int))=false by simp;omega];exact qP (h2 h)
theorem bS4 (h:nvN w<0∨nvM w<0):dI w=none:=by
 rcases h with h|h
 ·
  unfold nvN at h;split at h
  ·
   rename_i hc;have hn:bP (wd w 1)=none:=by
    cases e:bP (wd w 1)with
    |none=>rfl
    |some n=>rw[e]at h;have:=(lG e).1;simp at h;omega
   have h1:w.length≠1:=by omega
   simp[dI,dN,eL,hn,h1,hc.2]
  · omega
 ·
  unfold nvM at h;split at h
  ·
   rename_i hc;have hn:bP (wd w 2)=none:=by
    cases e:bP (wd w 2)with
    |none=>rfl
    |some n=>rw[e]at h;have:=(lG e).1;simp at h;omega
   have h1:w.length≠1:=by omega
   have h2:w.length≠2:=by omega
   cases h3:bP (wd w 1)<;>simp[dI,dN,eL,hn,h1,h2,h3]
  · omega
theorem vJ (hl:w.length=2)(h:wd w 0≠bL)(h0:0≤nvN w):bP (wd w 1)=some (nvN w):=by
 have e:nvN w=(bP (wd w 1)).getD (-1):=by rw[nvN,B6 ⟨by omega,h⟩]
 cases h1:bP (wd w 1)with
 |none=>rw[e,h1]at h0;simp at h0
 |some n=>rw[e,h1];rfl
theorem cE2 (hl:w.length=3)(h:wd w 0≠bL)(h0:0≤nvN w):bP (wd w 1)=some (nvN w):=by
 have e:nvN w=(bP (wd w 1)).getD (-1):=by rw[nvN,B6 ⟨by omega,h⟩]
 cases h1:bP (wd w 1)with
 |none=>rw[e,h1]at h0;simp at h0
 |some n=>rw[e,h1];rfl
theorem cE3 (hl:w.length=3)(h0:0≤nvM w):bP (wd w 2)=some (nvM w):=by
 have e:nvM w=(bP (wd w 2)).getD (-1):=by rw[nvM,B6 (by omega)]
 cases h1:bP (wd w 2)with
 |none=>rw[e,h1]at h0;simp at h0
 |some n=>rw[e,h1];rfl
theorem cU4 {w:List aH}(h:wd w 0=fE):pK w ⟨2,0,0,rq0⟩ ((w.length:Int)==((1:Nat):Int)):=jR (fun hl=>by simp[dI,dN,eL,h,hl,bO,bL,bQ,bW,cF,cQ,cR,bX,fE,fH,bT]) (fun hl=>by simp[dI,dN,eL,h,hl,bO,bL,bQ,bW,cF,cQ,cR,bX,fE,fH,bT])
theorem cU5 {w:List aH}(h:wd w 0=fH):pK w ⟨3,0,0,rq0⟩ ((w.length:Int)==((1:Nat):Int)):=jR (fun hl=>by simp[dI,dN,eL,h,hl,bO,bL,bQ,bW,cF,cQ,cR,bX,fE,fH,bT]) (fun hl=>by simp[dI,dN,eL,h,hl,bO,bL,bQ,bW,cF,cQ,cR,bX,fE,fH,bT])
theorem bE7 {w:List aH}(h:wd w 0=bX):pK w ⟨1,0,0,⟨8,0,0,[]⟩⟩ ((w.length:Int)==((1:Nat):Int)):=jR (fun hl=>by simp[dI,dN,eL,h,hl,bO,bL,bQ,bW,cF,cQ,cR,bX,fE,fH,bT]) (fun hl=>by simp[dI,dN,eL,h,hl,bO,bL,bQ,bW,cF,cQ,cR,bX,fE,fH,bT])
theorem bE8 (h:wd w 0=bL)(hl:w.length=2):pK w ⟨1,0,0,⟨2,0,0,wd w 1⟩⟩ true:=aH9 (by simp[dI,dN,eL,h,hl,bO,bL,bQ,bW,cF,cQ,cR,bX,fE,fH,bT])
theorem aB8 (n:Nd)(h:wd w 0=bL)(hl:w.length≠2):pK w n false:=qP (by simp[dI,dN,eL,h,hl,bO,bL,bQ,bW,cF,cQ,cR,bX,fE,fH,bT])
theorem bE9 {w:List aH}(h:wd w 0=bT)(h0:0≤nvN w):pK w ⟨4,nvN w,0,rq0⟩ ((w.length:Int)==((2:Nat):Int)):=jR (fun hl=>by have h1:=vJ hl (by rw[h];decide) h0;simp[dI,dN,eL,h,hl,h1,bO,bL,bQ,bW,cF,cQ,cR,bX,fE,fH,bT]) (fun hl=>by simp[dI,dN,eL,h,hl,bO,bL,bQ,bW,cF,cQ,cR,bX,fE,fH,bT])
theorem aX9 {w:List aH}(h:wd w 0=bO)(h0:0≤nvN w):pK w ⟨1,0,0,⟨1,nvN w,0,[]⟩⟩ ((w.length:Int)==((2:Nat):Int)):=jR (fun hl=>by have h1:=vJ hl (by rw[h];decide) h0;simp[dI,dN,eL,h,hl,h1,bO,bL,bQ,bW,cF,cQ,cR,bX,fE,fH,bT]) (fun hl=>by simp[dI,dN,eL,h,hl,bO,bL,bQ,bW,cF,cQ,cR,bX,fE,fH,bT])
theorem aY0 {w:List aH}(h:wd w 0=bQ)(h0:0≤nvN w):pK w ⟨1,0,0,⟨3,nvN w,0,[]⟩⟩ ((w.length:Int)==((2:Nat):Int)):=jR (fun hl=>by have h1:=vJ hl (by rw[h];decide) h0;simp[dI,dN,eL,h,hl,h1,bO,bL,bQ,bW,cF,cQ,cR,bX,fE,fH,bT]) (fun hl=>by simp[dI,dN,eL,h,hl,bO,bL,bQ,bW,cF,cQ,cR,bX,fE,fH,bT])
theorem bS5 {w:List aH}(h:wd w 0=cF)(h0:0≤nvN w):pK w ⟨1,0,0,⟨5,nvN w,0,[]⟩⟩ ((w.length:Int)==((2:Nat):Int)):=jR (fun hl=>by have h1:=vJ hl (by rw[h];decide) h0;simp[dI,dN,eL,h,hl,h1,bO,bL,bQ,bW,cF,cQ,cR,bX,fE,fH,bT]) (fun hl=>by simp[dI,dN,eL,h,hl,bO,bL,bQ,bW,cF,cQ,cR,bX,fE,fH,bT])
theorem cE4 {w:List aH}(h:wd w 0=cQ)(h0:0≤nvN w):pK w ⟨1,0,0,⟨6,nvN w,0,[]⟩⟩ ((w.length:Int)==((2:Nat):Int)):=jR (fun hl=>by have h1:=vJ hl (by rw[h];decide) h0;simp[dI,dN,eL,h,hl,h1,bO,bL,bQ,bW,cF,cQ,cR,bX,fE,fH,bT]) (fun hl=>by simp[dI,dN,eL,h,hl,bO,bL,bQ,bW,cF,cQ,cR,bX,fE,fH,bT])
theorem cE5 {w:List aH}(h:wd w 0=cR)(h0:0≤nvN w):pK w ⟨1,0,0,⟨7,nvN w,0,[]⟩⟩ ((w.length:Int)==((2:Nat):Int)):=jR (fun hl=>by have h1:=vJ hl (by rw[h];decide) h0;simp[dI,dN,eL,h,hl,h1,bO,bL,bQ,bW,cF,cQ,cR,bX,fE,fH,bT]) (fun hl=>by simp[dI,dN,eL,h,hl,bO,bL,bQ,bW,cF,cQ,cR,bX,fE,fH,bT])
theorem bF0 {w:List aH}(h:wd w 0=bW)(h0:0≤nvN w)(h1:0≤nvM w):pK w ⟨1,0,0,⟨4,nvN w,nvM w,[]⟩⟩ ((w.length:Int)==((3:Nat):Int)):=jR (fun hl=>by have h2:=cE2 hl (by rw[h];decide) h0;have h3:=cE3 hl h1;simp[dI,dN,eL,h,hl,h2,h3,bO,bL,bQ,bW,cF,cQ,cR,bX,fE,fH,bT]) (fun hl=>by simp[dI,dN,eL,h,hl,bO,bL,bQ,bW,cF,cQ,cR,bX,fE,fH,bT])
theorem cE6 (n:Nd)(h1:wd w 0≠fE)(h2:wd w 0≠fH)(h3:wd w 0≠bT)(h4:wd w 0≠bX)(h5:wd w 0≠bL)(h6:wd w 0≠bW)(h7:wd w 0≠bO)(h8:wd w 0≠bQ)(h9:wd w 0≠cF)(ha:wd w 0≠cQ)(hb:wd w 0≠cR):pK w n false:=qP (by simp[dI,dN,eL, *])
end Go.Pl
namespace Go.Proofs.YtlgckianjabghaaGreatDoor
open Go Go.Hl Go.Pl
theorem qQ (s:aH):cG Tryz.prog 55 [.str s] (fun v=>v= .int .i64 ((bP s).getD (-1))):=by
 refine FW Tryz.func55 ?_;refine R0 ?_;refine aC fun K hK=>Rg ?_;refine S0 ?_;refine HS rfl rfl fun K' hK'=>T5 ?_;refine D1 (cC7 s) ?_;rintro u v ⟨rfl,rfl⟩;refine AX (hK' _ _ ?_);clear hK' K';refine AU ?_;refine T2 (hK _ _ _ ?_);clear hK K;refine aC fun K hK=>?_;refine R0 ?_;refine aF (b:=!(bP s).isSome) rfl (fun hb=>?_) (fun hb=>?_)
 ·
  refine R0 ?_;refine aE (RT Tryz.results55 ?_);have hn:bP s=none:=by simpa using hb
  exact aK [] (.int .i64 (-1)) rfl (by rw[hn];rfl)
 refine aJ ?_;refine T0 (hK _ _ _ ?_);clear hK K;refine R0 ?_;refine aE (RT Tryz.results55 ?_);obtain⟨n,hn⟩: ∃n,bP s=some n:=by
  cases h:bP s with
  |none=>rw[h]at hb;simp at hb
  |some n=>exact⟨n,rfl⟩
 exact aK [] (.int .i64 n) (by rw[hn];rfl) (by rw[hn];rfl)
theorem cE7 (s b:Nat)(d:TyD)(e:Operand→HV)(K:HV→Prop):iK ⟨s,b,d,Nd.cv ⟨0,0,0,⟨0,0,0,[]⟩⟩⟩ [] e K=K (.c nd0.cv):=rfl
def NdR (w:List aH)(u v:CV):Prop:= ∃(n:Nd) (b:Bool),u=n.cv∧v= .bool b∧pK w n b
theorem bS6 (w:List aH)(h0:0<w.length):gB Tryz.prog 56 [lsC w] (NdR w):=by
 unfold lsC;have hw0:nth (w.map CV.str) 0= .str (wd w 0):=cH h0;refine FW Tryz.func56 ?_;refine R0 ?_;refine R0 ?_;refine aC fun K hK=>?_;have key: ∀(N:Int) fr ob nx,N=nvN w→Fits 0 fr ob (fin [(0,.c (.slc (w.map .str))),(2,.ptr 0 0),(4,.c (.int .i64 N)),(5,.c (.int .i64 0))]) (fob [(0,.box 56 (.c nd0.cv))]) 200→K fr ob nx:=by
  rintro N fr ob nx rfl hf;refine hK _ _ _ (bB hf ?_);clear hf hK K;refine aC fun K hK=>?_;have key2: ∀(M:Int) fr ob nx,M=nvM w→Fits 0 fr ob (fin [(0,.c (.slc (w.map .str))),(2,.ptr 0 0),(4,.c (.int .i64 (nvN w))),(5,.c (.int .i64 M))]) (fob [(0,.box 56 (.c nd0.cv))]) 300→K fr ob nx:=by
   rintro M fr ob nx rfl hf;refine hK _ _ _ (bB hf ?_);clear hf hK K;refine aC fun K hK=>?_;refine aC fun K hK=>?_;have key: ∀(b:Bool) fr ob nx,b=(decide (nvN w<0)||decide (nvM w<0))→Fits 0 fr ob (fin [(0,.c (.slc (w.map .str))),(2,.ptr 0 0),(4,.c (.int .i64 (nvN w))),(5,.c (.int .i64 (nvM w))),(31,.c (.bool b))]) (fob [(0,.box 56 (.c nd0.cv))]) 400→K fr ob nx:=by
    rintro b fr ob nx rfl hf;refine hK _ _ _ (bB hf ?_);clear hf hK K;refine aF (b:=decide (nvN w<0)||decide (nvM w<0)) rfl (fun hb=>?_) (fun hb=>?_)
    · have F:=@cE7;refine RF ?_;refine aE (RT Tryz.results56 ?_);exact aO [] nd0.cv (.bool false) (by simp[nd0,Nd.cv,rq0,Rq.cv]) ⟨nd0,false,rfl,rfl,qP (bS4 (by simpa using hb))⟩
    refine aJ ?_;refine T0 (hK _ _ _ ?_);clear hK K;refine aC fun K hK=>?_;obtain⟨hN,hM⟩:0≤nvN w∧0≤nvM w:=by
     simp only[K7,C6]at hb;omega
    clear hb;refine R0 ?_ (e:=fun _ h_=>by simp only[↓sP,sA,tyS,simprocAttr,A0,A4,h0,hw0,Q9,S1,H3];exact AX h_);refine aM ?_;refine R0 ?_;refine aF (b:=wd w 0==[97,108,108]) rfl (fun hb=>?_) (fun hb=>?_)
    ·
     have hw:wd w 0=fE:=by simpa[fE]using hb
     clear hb;refine AU ?_;refine aE (RT Tryz.results56 ?_);exact aO [] (Nd.cv ⟨2,0,0,rq0⟩) (.bool ((w.length:Int)==1)) (by simp[Nd.cv,rq0,Rq.cv]) ⟨_,_,rfl,rfl,cU4 hw⟩
    have nt36:wd w 0≠fE:=by simpa[fE]using hb
    clear hb;refine R0 ?_;refine aF (b:=wd w 0==[97,110,121]) rfl (fun hb=>?_) (fun hb=>?_)
    ·
     have hw:wd w 0=fH:=by simpa[fH]using hb
     clear hb;refine AU ?_;refine aE (RT Tryz.results56 ?_);exact aO [] (Nd.cv ⟨3,0,0,rq0⟩) (.bool ((w.length:Int)==1)) (by simp[Nd.cv,rq0,Rq.cv]) ⟨_,_,rfl,rfl,cU5 hw⟩
    have nt42:wd w 0≠fH:=by simpa[fH]using hb
    clear hb;refine R0 ?_;refine aF (b:=wd w 0==[97,116,108,101,97,115,116]) rfl (fun hb=>?_) (fun hb=>?_)
    ·
     have hw:wd w 0=bT:=by simpa[bT]using hb
     clear hb;refine AU ?_;refine aE (RT Tryz.results56 ?_);exact aO [] (Nd.cv ⟨4,nvN w,0,rq0⟩) (.bool ((w.length:Int)==2)) (by simp[Nd.cv,rq0,Rq.cv]) ⟨_,_,rfl,rfl,bE9 hw hN⟩
    have nt48:wd w 0≠bT:=by simpa[bT]using hb
    clear hb;refine R0 ?_;refine aF (b:=wd w 0==[115,101,116,116,108,101,100]) rfl (fun hb=>?_) (fun hb=>?_)
    ·
     have hw:wd w 0=bX:=by simpa[bX]using hb
     clear hb;refine AU ?_;refine aE (RT Tryz.results56 ?_);exact aO [] (Nd.cv ⟨1,0,0,⟨8,0,0,[]⟩⟩) (.bool ((w.length:Int)==1)) (by simp[Nd.cv,rq0,Rq.cv]) ⟨_,_,rfl,rfl,bE7 hw⟩
    have nt55:wd w 0≠bX:=by simpa[bX]using hb
    clear hb;refine R0 ?_;refine aF (b:=wd w 0==[99,104,97,105,110,101,100]) rfl (fun hb=>?_) (fun hb=>?_)
    ·
     have hw:wd w 0=bL:=by simpa[bL]using hb
     clear hb;refine aC fun K hK=>?_;refine R0 ?_;refine aF (b:=!((w.length:Int)==2)) rfl (fun hb=>?_) (fun hb=>?_)
     · have F:=@cE7;refine RF ?_;refine aE (RT Tryz.results56 ?_);exact aO [] nd0.cv (.bool false) (by simp[Nd.cv,nd0,rq0,Rq.cv]) ⟨nd0,false,rfl,rfl,aB8 _ hw (by simp at hb;omega)⟩
     refine aJ ?_;refine T0 (hK _ _ _ ?_);clear hK K;have hl2:w.length=2:=by simp at hb;omega
     have h1:1<w.length:=by omega
     clear hb;refine RS ?_;iterate 7 refine S0 ?_ (e:=fun _ h_=>by simp only[sH,↓sP,sA,tyS,simprocAttr,A0,A4,Q5,h1,cH h1];exact AX h_)
     refine RE ?_;refine aE (RT Tryz.results56 ?_);exact aO [] (Nd.cv ⟨1,0,0,⟨2,0,0,wd w 1⟩⟩) (.bool true) (by simp[Nd.cv,rq0,Rq.cv]) ⟨_,_,rfl,rfl,bE8 hw hl2⟩
    have nt62:wd w 0≠bL:=by simpa[bL]using hb
    clear hb;refine R0 ?_;refine aF (b:=wd w 0==[114,101,98,117,105,108,116]) rfl (fun hb=>?_) (fun hb=>?_)
    ·
     have hw:wd w 0=bW:=by simpa[bW]using hb
     clear hb;refine AU ?_;refine aE (RT Tryz.results56 ?_);exact aO [] (Nd.cv ⟨1,0,0,⟨4,nvN w,nvM w,[]⟩⟩) (.bool ((w.length:Int)==3)) (by simp[Nd.cv,rq0,Rq.cv]) ⟨_,_,rfl,rfl,bF0 hw hN hM⟩
    have nt73:wd w 0≠bW:=by simpa[bW]using hb
    clear hb;refine R0 ?_;refine aF (b:=wd w 0==[114,101,108,101,97,115,101,100]) rfl (fun hb=>?_) (fun hb=>?_)
    ·
     have hw:wd w 0=bO:=by simpa[bO]using hb
     clear hb;refine AU ?_;refine aE (RT Tryz.results56 ?_);exact aO [] (Nd.cv ⟨1,0,0,⟨1,nvN w,0,[]⟩⟩) (.bool ((w.length:Int)==2)) (by simp[Nd.cv,rq0,Rq.cv]) ⟨_,_,rfl,rfl,aX9 hw hN⟩
    have nt82:wd w 0≠bO:=by simpa[bO]using hb
    clear hb;refine R0 ?_;refine aF (b:=wd w 0==[97,112,112,114,111,118,101,100]) rfl (fun hb=>?_) (fun hb=>?_)
    ·
     have hw:wd w 0=bQ:=by simpa[bQ]using hb
     clear hb;refine AU ?_;refine aE (RT Tryz.results56 ?_);exact aO [] (Nd.cv ⟨1,0,0,⟨3,nvN w,0,[]⟩⟩) (.bool ((w.length:Int)==2)) (by simp[Nd.cv,rq0,Rq.cv]) ⟨_,_,rfl,rfl,aY0 hw hN⟩
    have nt90:wd w 0≠bQ:=by simpa[bQ]using hb
    clear hb;refine R0 ?_;refine aF (b:=wd w 0==[108,105,115,116,101,100]) rfl (fun hb=>?_) (fun hb=>?_)
    ·
     have hw:wd w 0=cF:=by simpa[cF]using hb
     clear hb;refine AU ?_;refine aE (RT Tryz.results56 ?_);exact aO [] (Nd.cv ⟨1,0,0,⟨5,nvN w,0,[]⟩⟩) (.bool ((w.length:Int)==2)) (by simp[Nd.cv,rq0,Rq.cv]) ⟨_,_,rfl,rfl,bS5 hw hN⟩
    have nt98:wd w 0≠cF:=by simpa[cF]using hb
    clear hb;refine R0 ?_;refine aF (b:=wd w 0==[99,108,101,97,110]) rfl (fun hb=>?_) (fun hb=>?_)
    ·
     have hw:wd w 0=cQ:=by simpa[cQ]using hb
     clear hb;refine AU ?_;refine aE (RT Tryz.results56 ?_);exact aO [] (Nd.cv ⟨1,0,0,⟨6,nvN w,0,[]⟩⟩) (.bool ((w.length:Int)==2)) (by simp[Nd.cv,rq0,Rq.cv]) ⟨_,_,rfl,rfl,cE4 hw hN⟩
    have nt106:wd w 0≠cQ:=by simpa[cQ]using hb
    clear hb;refine R0 ?_;refine aF (b:=wd w 0==[102,114,101,115,104]) rfl (fun hb=>?_) (fun hb=>?_)
    ·
     have hw:wd w 0=cR:=by simpa[cR]using hb
     clear hb;refine AU ?_;refine aE (RT Tryz.results56 ?_);exact aO [] (Nd.cv ⟨1,0,0,⟨7,nvN w,0,[]⟩⟩) (.bool ((w.length:Int)==2)) (by simp[Nd.cv,rq0,Rq.cv]) ⟨_,_,rfl,rfl,cE5 hw hN⟩
    have nt114:wd w 0≠cR:=by simpa[cR]using hb
    clear hb;refine aJ ?_;refine T0 (hK _ _ _ ?_);clear hK K;have F:=@cE7;refine RF ?_;refine aE (RT Tryz.results56 ?_);exact aO [] nd0.cv (.bool false) (by simp[Nd.cv,nd0,rq0,Rq.cv]) ⟨nd0,false,rfl,rfl,cE6 _ nt36 nt42 nt48 nt55 nt62 nt73 nt82 nt90 nt98 nt106 nt114⟩
   refine Rg ?_;refine AU ?_;refine aG 27 rfl (fun h6_27=>?_) (fun h6_27=>?_)
   · have F:=h6_27;refine AU ?_;refine T4 ?_;exact key true _ _ _ (by simp only[h6_27,B4,A9]) (fF)
   have F:=h6_27;refine AU ?_;refine aG 30 rfl (fun h6_30=>?_) (fun h6_30=>?_)
   · simp only[h6_30];refine T4 ?_;exact key true _ _ _ (by simp only[h6_27,h6_30,B4,A9]) (fF)
   simp only[h6_30];refine T4 ?_;exact key false _ _ _ (by simp only[h6_27,h6_30,B4,A9]) (fF)
  refine R0 ?_;refine aF (b:=decide ((3:Int)≤w.length)) rfl (fun hb=>?_) (fun hb=>?_)
  ·
   have h2:2<w.length:=by simp at hb;omega
   clear hb;refine Rg ?_;have F:=aI @A0 (aI @A4 (aI h2 (cH h2)));refine AU ?_;refine SCF (qQ (wd w 2)) ?_;refine SF ?_;refine T4 ?_;exact key2 _ _ _ _ (by rw[nvM,B6 (by omega)]) (fF)
  refine aJ (T3 ?_);exact key2 0 _ _ _ (by rw[nvM,A7 (by simp at hb;omega)]) (fF)
 refine aC fun K hK=>?_;have key: ∀(b:Bool) fr ob nx,b=(decide ((2:Int)≤w.length)&&!(wd w 0==bL))→Fits 0 fr ob (fin [(0,.c (.slc (w.map .str))),(2,.ptr 0 0),(4,.c (.int .i64 0)),(5,.c (.int .i64 0)),(14,.c (.bool b))]) (fob [(0,.box 56 (.c nd0.cv))]) 100→K fr ob nx:=by
  rintro b fr ob nx rfl hf;refine hK _ _ _ (bB hf ?_);clear hf hK K;refine aF (b:=decide ((2:Int)≤w.length)&&!(wd w 0==bL)) rfl (fun hb=>?_) (fun hb=>?_)
  ·
   have hb2:2≤w.length∧wd w 0≠bL:=by
    simp only[A6,B9,J8,I0]at hb;exact⟨by omega,hb.2⟩
   have h1:1<w.length:=by omega
   clear hb;refine Rg ?_;iterate 3 refine S0 ?_ (e:=fun _ h_=>by simp only[sH,↓sP,sA,tyS,simprocAttr,A0,A4,Q5,h1,cH h1];exact AX h_)
   refine HS rfl rfl fun K' hK'=>?_;simp only[sH,↓sP,sA,tyS,simprocAttr,A0,A4,Q5,h1,cH h1];refine C1 (qQ (wd w 1)) ?_;rintro u rfl;refine AX (hK' _ _ ?_);clear hK' K';refine S0 ?_ (e:=fun _ h_=>by simp only[sH,↓sP,sA,tyS,simprocAttr,A0,A4,Q5,h1,cH h1];exact AX h_);refine T4 ?_;exact key _ _ _ _ (by rw[nvN,B6 hb2]) (fF)
  refine aJ (T3 ?_);exact key 0 _ _ _ (by
   rw[nvN,A7];rintro⟨h1,h2⟩;simp[h2]at hb;omega) (fF)
 refine Rg ?_;iterate 4 refine S0 ?_ (e:=fun _ h_=>by simp only[sH,↓sP,sA,tyS,simprocAttr,A0,A4,h0,hw0,Q9,S1,H3];exact AX h_)
 refine aG 8 rfl (fun h2_8=>?_) (fun h2_8=>?_)
 ·
  iterate 5 refine S0 ?_ (e:=fun _ h_=>by simp only[sH,↓sP,sA,tyS,simprocAttr,A0,A4,h0,hw0,Q9,S1,H3,h2_8];exact AX h_)
  refine aG 13 rfl (fun h2_13=>?_) (fun h2_13=>?_)
  · simp only[h2_13];refine T4 ?_;exact key true _ _ _ (by simp only[bL,h2_8,h2_13,B1,B7]) (fG (by simp[nd0,Nd.cv,rq0,Rq.cv]))
  simp only[h2_13];refine T4 ?_;exact key false _ _ _ (by simp only[bL,h2_8,h2_13,B1,B7]) (fG (by simp[nd0,Nd.cv,rq0,Rq.cv]))
 iterate 5 refine S0 ?_ (e:=fun _ h_=>by simp only[sH,↓sP,sA,tyS,simprocAttr,A0,A4,h0,hw0,Q9,S1,H3,h2_8];exact AX h_)
 refine T4 ?_;exact key false _ _ _ (by simp only[bL,h2_8,B1,B7]) (fG (by simp[nd0,Nd.cv,rq0,Rq.cv]))
theorem bS7 (l:List Nd)(hl:l.length<2^40):aL4 Tryz.prog 86 [(46,.slc (l.map Nd.cv))] (bwL l):=by
 refine aE8 Tryz.func86 rfl (by kernel_rfl) (C4 rfl) rfl fun L J hS hY=>?_;have e0:lL [(46,CV.slc (l.map Nd.cv))]=fob [(0,.box 46 (.c (.slc (l.map Nd.cv))))]:=by
  funext i
  match i with
  |0=>rfl
  |i+1=>simp[lL,fob,upd]
 have e1:iZ (List.range [((46:Nat),CV.slc (l.map Nd.cv))].length)=[.ptr 0 0]:=rfl;rw[e0,e1];refine gD fun K hK=>oU hS rfl (aL (by kernel_rfl) ?_);simp only[sR,simprocAttr];iterate 4 refine S0 ?_ (e:=fun _ h_=>by simp only[sH,↓sP,sA,tyS,simprocAttr,rI,cS ((l.length:Int)-1) (by omega),A2];exact AX h_)
 simp only[sE,↓reduceIte,simprocAttr,rI];refine hK _ _ _ _ _ ?_;clear hK K;refine qH ?_;refine aT8 (α:={j:Nat//j≤l.length}) hS (fun j=>(fin [(0,.opq (.func (.yield L) #[] #[])),(1,.ptr 0 0),(3,.c (.int .i64 ((l.length:Int)-1-j.1)))],fob [(0,.box 46 (.c (.slc (l.map Nd.cv))))])) (fun j=>j.1) 100 (fun j=>l.length-j.1) ⟨0,F9 _⟩ rfl (fF) rfl ?_;rintro⟨j,hj⟩;refine gD fun K hK=>?_;refine gD fun K1 hK1=>oU hS rfl (aL (by kernel_rfl) ?_);simp only[sR,simprocAttr];have F:=rI;refine AU ?_;simp only[sE,↓reduceIte,simprocAttr,rI];refine hK1 _ _ _ _ _ ?_;clear hK1 K1;refine lF (b:=decide ((0:Int)≤(l.length:Int)-1-j)) rfl (fun hb=>?_) (fun hb=>?_)
 ·
  have hlt:j<l.length:=by simp at hb;omega
  have hi2:l.length-1-j<l.length:=by omega
  have hxl:j<(bwL l).length:=by rw[tW];exact hlt
  have hx:=cC0 hxl hi2;have hcast:(l.length:Int)-1-j=((l.length-1-j:Nat):Int):=by omega
  have hw1:IntKind.i64.wrap (((l.length-1-j:Nat):Int)-1)=(l.length:Int)-1-((j:Int)+1):=by rw[cS _ (by omega)];omega
  refine oV ?_;simp only[sE,↓reduceIte,simprocAttr,rI];refine hK _ _ _ _ _ ?_;clear hK K;refine gD fun K hK=>?_;refine qH ?_;refine gD fun K1 hK1=>uX (l:=L) 6 hS hY rfl (by kernel_rfl) (by decide) ?_;simp only[sR,List.range',simprocAttr];have F:=aI rI (aI hcast (aI @A2.{0,0} (aI @A0 (aI @A4 (aI hi2 (nM hi2))))));refine AU ?_;rw[hlex];refine⟨_,_,_,hxl,rfl,rfl,rfl,rfl,rfl,?_,?_,?_⟩
  · rw[hx];simp only[hcast];rfl
  · simp only[sR,List.range',simprocAttr];have F:=rI;refine SF ?_;simp only[sE,↓reduceIte,simprocAttr,rI];refine hK1 _ _ _ _ _ ?_;clear hK1 K1;refine lF (b:=false) rfl (fun hb=>by cases hb) (fun _=>?_);refine oV ?_;simp only[sE,↓reduceIte,simprocAttr,rI];refine hK _ _ _ _ _ ?_;clear hK K;refine oU hS rfl (aL (by kernel_rfl) ?_);simp only[sR,simprocAttr];have F:=aI rI (aI hcast hw1);refine AU ?_;simp only[sE,↓reduceIte,simprocAttr,rI];refine⟨⟨j+1,hlt⟩,fF,trivial,rfl,?_⟩;show l.length-(j+1)<l.length-j;omega
  simp only[sR,List.range',simprocAttr];have F:=rI;refine SF ?_;simp only[sE,↓reduceIte,simprocAttr,rI];refine hK1 _ _ _ _ _ ?_;clear hK1 K1;refine lF (b:=true) rfl (fun _=>?_) (fun hb=>by cases hb);refine bI0 ?_;simp only[sE,↓reduceIte,simprocAttr,rI];exact⟨by simp,fun h=>by cases h⟩
 have hji:j=l.length:=by simp at hb;omega
 refine aT7 ?_;simp only[sE,↓reduceIte,simprocAttr,rI];exact⟨by simp,fun _=>by rw[tW];exact hji⟩
theorem cM9 (l:List Nd):bI1 Tryz.prog 61 86 [.slc (l.map Nd.cv)] [(46,.slc (l.map Nd.cv))]:=by
 refine FW Tryz.func61 ?_;refine AU ?_;refine aE (RT Tryz.results61 ?_);refine uZ (gf:=86) (bs:=[(46,.slc (l.map Nd.cv))]) (ids:=[0]) rfl (by simp) (by decide) ?_ ?_
 ·
  intro j x hx
  match j,hx with
  |0,hx=>cases hx;rfl
 intro x hx;simp only[E9,I7,P1]at hx;subst hx;exact congrArg CV.slc (denilL_Nd l)
theorem aY1 (n:Nd)(L:List Bool)(lo m:Nat)(hl:L.length<2^40)(h0:0<L.length)(hlo:lo≤m)(hm:m≤L.length):
  HGe Tryz.prog 62 [.c n.cv,.osl 0 L.length lo 1 m] [.row 4 1 (L.map bC)] (fun r os'=>r= .c (.bool (mW n ((L.drop lo).take (m-lo))))∧os'=[.row 4 1 (L.map bC)]):=by
 obtain⟨V,hV⟩: ∃V,V=(L.drop lo).take (m-lo):=⟨_,rfl⟩;have hVl:V.length=m-lo:=by rw[hV];simp;omega
 rw[←hV];have hrd:List.take (m-lo) (List.drop lo (L.map bC))=V.map bC:=by rw[hV,K3,M1]
 refine cA (args:=[.c n.cv,.osl 0 L.length lo 1 m]) Tryz.func62 rfl (by kernel_rfl) (eM rfl (by simp[dO]) (by simp)) (C4 rfl) ?_;have e0:lst [.row 4 1 (L.map bC)]=fob [(0,.row 4 1 (L.map bC))]:=by
  funext i
  match i with
  |0=>rfl
  |i+1=>simp[lst,fob,upd]
 show Hw _ _ 1 _ _ _ (lst _) 1;rw[e0];refine R0 ?_;refine R0 ?_;refine aC fun K hK=>?_;refine R0 ?_ (e:=fun _ h_=>by simp only[↓sP,sA,tyS,simprocAttr,hrd,A2,h0,hlo,hm];exact AX h_);refine aM ?_;refine bN (α:={i:Nat//i≤V.length}) (fun i=>(fin [(1,.osl 0 L.length lo 1 m),(2,.ptr 1 0),(5,.c (.int .i64 (cnt (V.take i.1):Nat))),(8,.osl 0 L.length lo 1 m),(9,.c (.int .i64 V.length)),(10,.c (.int .i64 i.1))],fob [(0,.row 4 1 (L.map bC)),(1,.box 56 (.c n.cv))])) 100 (fun i=>V.length-i.1) ⟨0,by omega⟩ (fG (by simp[cnt])) ?_;rintro⟨i,hi⟩;have hcn:cnt (V.take i)≤i:=by have:=cT0 (V.take i);simp at this;omega
 refine R0 ?_;refine aC fun K hK=>?_;refine aF (b:=decide ((i:Int)<V.length)) rfl (fun hb=>?_) (fun hb=>?_)
 ·
  have hlt:i<V.length:=by simpa using hb
  have hct:=rF (l:=V) (k:=i) hlt;have hw3:IntKind.i64.wrap ((cnt (V.take i):Int)+1)=((cnt (V.take i)+1:Nat):Int):=by rw[cS _ (by omega)];rfl
  have hli:lo+i<L.length:=by omega
  have hvi:L[lo+i]=V[i]:=by simp[hV]
  have hli2:lo+i<(L.map bC).length:=by simpa using hli
  have hml:i<m-lo:=by omega
  clear hb;refine aJ ?_;refine T0 (hK _ _ _ ?_);clear hK K;refine aC fun K hK=>?_;refine aM ?_;refine R0 ?_ (e:=fun _ h_=>by simp only[↓sP,sA,tyS,simprocAttr,A2,A0,A4,h0,hm,hml,hli,aV hli,bC];exact AX h_);refine R0 ?_;refine aF (b:=L[lo+i]) rfl (fun hb=>?_) (fun hb=>?_)
  · rw[hvi]at hb;rw[B6 (by simpa[hlt]using hb)]at hct;refine aL (by kernel_rfl) ?_;refine TQ hw3 ?_;refine AX (hK _ _ _ ?_);clear hK K;refine aL (by kernel_rfl) ?_;simp only[↓sP,sA,tyS,simprocAttr,cS ((i:Int)+1) (by omega)];refine⟨⟨i+1,hlt⟩,fG (by simp[hct]),?_⟩;show V.length-(i+1)<V.length-i;omega
  rw[hvi]at hb;rw[A7 (by simp[hlt,hb])]at hct;refine aJ ?_;refine T0 (hK _ _ _ ?_);clear hK K;refine aL (by kernel_rfl) ?_;simp only[↓sP,sA,tyS,simprocAttr,cS ((i:Int)+1) (by omega)];refine⟨⟨i+1,hlt⟩,fG (by simp[hct]),?_⟩;show V.length-(i+1)<V.length-i;omega
 refine bG (T3 ?_);clear hK K;refine AX (hK _ _ _ ?_);clear hK K;refine aC fun K hK=>?_;have hei:i=V.length:=by simp only[C6]at hb;omega
 subst hei;rw[E2]at hcn⊢;clear hb;refine R0 ?_;refine aM ?_;refine R0 ?_;refine aF (b:=(n.k==2)) rfl (fun hb=>?_) (fun hb=>?_)
 ·
  refine RS ?_;iterate 5 refine S0 ?_ (e:=fun _ h_=>by simp only[sH,↓sP,sA,tyS,simprocAttr,hrd,A2,h0,hlo,hm];exact AX h_)
  refine RE ?_;refine aE (RT Tryz.results62 ?_);have h2:n.k=2:=by simpa using hb
  exact dS [] [] (.c (.bool ((cnt V:Int)==V.length))) [.row 4 1 (L.map bC)] rfl (by simp) ⟨⟨trivial,by simp,_,rfl,rfl⟩,trivial⟩ rfl I3 (by simp) (by simp) ⟨by rw[mW,B6 h2];congr 2;rw[T7];simp;omega,rfl⟩
 have h2:n.k≠2:=by simpa using hb
 refine R0 ?_;refine aF (b:=(n.k==3)) rfl (fun hb=>?_) (fun hb=>?_)
 ·
  refine R0 ?_;refine aE (RT Tryz.results62 ?_);have h3:n.k=3:=by simpa using hb
  exact dS [] [] (.c (.bool (decide ((1:Int)≤cnt V)))) [.row 4 1 (L.map bC)] rfl (by simp) ⟨⟨trivial,by simp,_,rfl,rfl⟩,trivial⟩ rfl List.nodup_nil (by simp) (by simp) ⟨by rw[mW,if_neg h2,if_pos h3];congr 2;rw[T7];simp;omega,rfl⟩
 refine aJ ?_;refine T0 (hK _ _ _ ?_);clear hK K;refine AU ?_;refine aE (RT Tryz.results62 ?_);have h3:n.k≠3:=by simpa using hb
 exact dS [] [] (.c (.bool (decide (n.n≤cnt V)))) [.row 4 1 (L.map bC)] rfl (by simp) ⟨⟨trivial,by simp,_,rfl,rfl⟩,trivial⟩ rfl List.nodup_nil (by simp) (by simp) ⟨by rw[mW,if_neg h2,if_neg h3],rfl⟩
end Go.Proofs.YtlgckianjabghaaGreatDoor
