/- Plain Lean: bytes that are compared as numbers; what a search for a byte says. By an AI agent. -/
import Derived.Test.YtlgckianjabghaaGreatDoorPl11B
set_option linter.unusedSimpArgs false
set_option linter.unusedVariables false
set_option linter.defProp false
namespace Go.Pl
open Go Go.Hl
def jW (r:Pr):Bool:=dX r.a&&((fN r.b).isSome&&((fN r.c).isSome&&(inB r.g 0 uP&&eB r.t)))
def iS :List Pr→Bool
 |[]=>true
 |r::l=>!(l.map Pr.a).contains r.a&&iS l
def fA (p:Po):Bool:=dX p.n&&(inB p.v 1 uP&&(decide (p.r.length≤16)&&(p.r.all jW&&iS p.r)))
theorem pC (l:List Pr)(r:Pr):iS (l++[r])=(iS l&&!(l.map Pr.a).contains r.a):=by
 induction l with
 |nil=>simp[iS]
 |cons x l ih=>
  simp only[J4,iS,ih,C5,D0,H1,AN,X4,BQ,E1];rw[show(x.a==r.a)=(r.a==x.a)from Bool.beq_comm];grind
def bO :aH:=[114,101,108,101,97,115,101,100]
def bL :aH:=[99,104,97,105,110,101,100]
def bQ :aH:=[97,112,112,114,111,118,101,100]
def bW :aH:=[114,101,98,117,105,108,116]
def cF :aH:=[108,105,115,116,101,100]
def cQ :aH:=[99,108,101,97,110]
def cR :aH:=[102,114,101,115,104]
def bX :aH:=[115,101,116,116,108,101,100]
def fE :aH:=[97,108,108]
def fH :aH:=[97,110,121]
def bT :aH:=[97,116,108,101,97,115,116]
def wEnd :aH:=[101,110,100]
def wPolicy :aH:=[112,111,108,105,99,121]
def wRule :aH:=[114,117,108,101]
def wlR (q:Rq):List aH:=
 if q.k=1 then [bO,numW q.n]else if q.k=2 then [bL,q.t]else if q.k=3 then [bQ,numW q.n]
 else if q.k=4 then [bW,numW q.n,numW q.m]else if q.k=5 then [cF,numW q.n]else if q.k=6 then [cQ,numW q.n]
 else if q.k=7 then [cR,numW q.n]else [bX]
def wlN (n:Nd):List aH:=if n.k=2 then [fE]else if n.k=3 then [fH]else [bT,numW n.n]
def eC :Nat→Nat→List Nd→List (List aH)
 |0,_,_=>[]
 |_+1,0,_=>[]
 |_+1,_+1,[]=>[]
 |f+1,m+1,n::l=>if n.k=1 then wlR n.q::eC f m l else wlN n::(eC f n.c.toNat l++([wEnd]::eC f m ((skip n.c.toNat l).getD [])))
variable {m:Nat}{l:List Nd}
theorem tO {r:List Nd}(h:skip m l=some r):r.length≤l.length:=by
 obtain⟨j,h1,rfl,_,_⟩:=gP l m r h;grind
theorem gV : ∀(f:Nat) (m:Nat) (l r:List Nd),l.length<f→skip m l=some r→(∀n∈l,cB n=true)→ ∀g,f≤g→eC g m l=eC f m l
 |0,_,_,_,h,_,_,_,_=>by omega
 |f+1,0,l,r,_,_,_,g,hg=>by obtain⟨q,rfl⟩: ∃q,g=q+1:=⟨g-1,by omega⟩;cases l<;>rfl
 |f+1,m+1,[],r,_,h,_,_,_=>by cases h
 |f+1,m+1,n::l,r,hf,h,hn,g,hg=>by
  obtain⟨q,rfl⟩: ∃q,g=q+1:=⟨g-1,by omega⟩;have h':skip (m+n.c.toNat) l=some r:=h;have hn': ∀x∈l,cB x=true:=fun x hx=>hn x (F5 _ hx);have hl:l.length<f:=by simpa using hf
  obtain⟨c1,c2,c3,c4⟩:=eF (hn n F6);simp only[eC];split
  · rename_i hk;rw[c3 hk]at h';rw[gV f m l r hl (by grind) hn' q (by omega)]
  ·
   rw[O4,fW]at h';cases hs:skip n.c.toNat l with
   |none=>grind
   |some r1=>
    rw[hs]at h';have h2:skip m r1=some r:=h';have hr1:=tO hs;obtain⟨j,_,hj,_,_⟩:=gP l _ _ hs;rw[gV f _ l r1 hl hs hn' q (by omega),E0,gV f m r1 r (by omega) h2 (fun x hx=>hn' x (by grind)) q (by omega)]
theorem pD : ∀(f:Nat) (a b:Nat) (l r:List Nd),l.length<f→skip a l=some r→(∀n∈l,cB n=true)→ ∀s,skip b r=some s→eC f (a+b) l=eC f a l++eC f b r
 |0,_,_,_,_,h,_,_,_,_=>by omega
 |f+1,0,b,l,r,_,h,_,_,_=>by simp_all[dL,F3,eC]
 |f+1,a+1,b,[],r,_,h,_,_,_=>by cases h
 |f+1,a+1,b,n::l,r,hf,h,hn,s,hs=>by
  have h':skip (a+n.c.toNat) l=some r:=h;have hn': ∀x∈l,cB x=true:=fun x hx=>hn x (F5 _ hx);have hl:l.length<f:=by simpa using hf
  obtain⟨c1,c2,c3,c4⟩:=eF (hn n F6);have hrl:=tO h';have hrn: ∀x∈r,cB x=true:=fun x hx=>by grind[gP,List.mem_of_mem_drop]
  have hfb:eC (f+1) b r=eC f b r:=gV f b r s (by omega) hs hrn (f+1) (by omega);rw[show a+1+b=a+b+1 from by omega,hfb];simp only[eC];split
  · rename_i hk;rw[c3 hk]at h';rw[pD f a b l r hl (by grind) hn' s hs];rfl
  ·
   rw[O4,fW]at h';cases hs1:skip n.c.toNat l with
   |none=>grind
   |some r1=>
    rw[hs1]at h';have h2:skip a r1=some r:=h';have hr1:=tO hs1;obtain⟨j,_,hj,_,_⟩:=gP l _ _ hs1;rw[E0,pD f a b r1 r (by omega) h2 (fun x hx=>hn' x (by rw[hj]at hx;exact G1 hx)) s hs];simp
def aV4 (t:List Nd):List (List aH):=eC (t.length+1) 1 t
def jB (r:Pr):List (List aH):=[wRule,r.a,r.b,r.c,numW r.g]::aV4 r.t
def jM (p:Po):List (List aH):=[wPolicy,p.n,numW p.v]::p.r.flatMap jB
def mI (p:Po):aH:=if fA p then lK (jM p)else []
def qU (p:Po):Int:=if fA p then gL (jM p)else 1
def fY (l:List Nd)(i:Nat):List (List aH):=eC (l.length+1) 1 (l.drop i)
variable {i:Nat}
theorem rQ (hi:i<l.length)(hk:l[i].k=1):fY l i=[wlR l[i].q]:=by
 unfold fY;rw[B2 hi,eC,B6 hk];cases l.length<;>simp[eC]
def dT (l:List Nd)(i k:Nat):List (List aH):=eC (l.length+1) k (l.drop (i+1))
theorem nT (l:List Nd)(i:Nat):dT l i 0=[]:=by unfold dT;cases l.drop (i+1)<;>rfl
theorem pE (ht:IsTree l)(hi:i<l.length)(hk:l[i].k≠1):fY l i=wlN l[i]::(dT l i l[i].c.toNat++[[wEnd]]):=by
 have ha:=(jL ht hi).2.2;rw[B2 hi]at ha;have ha':skip (0+l[i].c.toNat) (l.drop (i+1))=some (l.drop (aft l i)):=ha;rw[F3]at ha';have hn': ∀x∈l.drop (i+1),cB x=true:=fun x hx=>ht.node x (G1 hx);unfold fY dT;rw[B2 hi];simp only[eC];rw[A7 hk,ha',gV l.length _ _ _ (by grind) ha' hn' (l.length+1) (by omega)];have: ∀f (x:List Nd),eC f 0 x=[]:=fun f x=>by cases f<;>cases x<;>rfl
 grind
theorem nU (ht:IsTree l)(hi:i<l.length){k:Nat}(hk:k<l[i].c.toNat):dT l i (k+1)=dT l i k++fY l (eH l k (i+1)):=by
 have key: ∀k,k≤l[i].c.toNat→skip k (l.drop (i+1))=some (l.drop (eH l k (i+1))):=by
  intro k;induction k with
  |zero=>intro _;rw[dL];rfl
  |succ k ih=>
   grind[fW,iQ,jL,mU]
 unfold dT fY;exact pD _ k 1 _ _ (by grind) (key k (by omega)) (fun x hx=>ht.node x (List.mem_of_mem_drop hx)) _ (jL ht (mU ht hi hk)).2.2
def dN (w:List aH):Option Rq:=
 if w.length=2∧wd w 0=bO then(bP (wd w 1)).map (⟨1,·,0,[]⟩)
 else if w.length=2∧wd w 0=bL then some ⟨2,0,0,wd w 1⟩
 else if w.length=2∧wd w 0=bQ then(bP (wd w 1)).map (⟨3,·,0,[]⟩)
 else if w.length=3∧wd w 0=bW then match bP (wd w 1),bP (wd w 2)with|some n,some m=>some ⟨4,n,m,[]⟩|_,_=>none
 else if w.length=2∧wd w 0=cF then(bP (wd w 1)).map (⟨5,·,0,[]⟩)
 else if w.length=2∧wd w 0=cQ then(bP (wd w 1)).map (⟨6,·,0,[]⟩)
 else if w.length=2∧wd w 0=cR then(bP (wd w 1)).map (⟨7,·,0,[]⟩)
 else if w.length=1∧wd w 0=bX then some ⟨8,0,0,[]⟩else none
def eL (w:List aH):Option Nd:=
 if w.length=1∧wd w 0=fE then some ⟨2,0,0,rq0⟩else if w.length=1∧wd w 0=fH then some ⟨3,0,0,rq0⟩
 else if w.length=2∧wd w 0=bT then(bP (wd w 1)).map (⟨4,·,0,rq0⟩)else none
def eY (w:List aH):Bool:=w.length==1&&wd w 0==wEnd
mutual
def rdN :Nat→List (List aH)→Option (List Nd)×List (List aH)
 |0,ls=>(none,ls)
 |_+1,[]=>(none,[])
 |f+1,w::r=>match dN w with
  |some q=>(some [⟨1,0,0,q⟩],r)
  |none=>match eL w with
   |none=>(none,w::r)
   |some n=>match rdK f r with
    |(none,r')=>(none,r')
    |(some (ts,c),r')=>(some ({n with c:=c}::ts),r')
def rdK :Nat→List (List aH)→Option (List Nd×Int)×List (List aH)
 |0,ls=>(none,ls)
 |f+1,ls=>if eY (ls.headD [])then(some ([],0),ls.tail)else match rdN f ls with
  |(none,r)=>(none,r)
  |(some t,r)=>match rdK f r with
   |(none,r')=>(none,r')
   |(some (ts,c),r')=>(some (t++ts,c+1),r')
end
def rdT (ls:List (List aH)):Option (List Nd)×List (List aH):=rdN (2*ls.length+2) ls
def rdR (ls:List (List aH)):Option Pr×List (List aH):=match ls with
 |[]=>(none,[])
 |w::r=>if w.length=5∧wd w 0=wRule then match bP (wd w 4)with
   |none=>(none,w::r)
   |some g=>match rdT r with|(none,r')=>(none,r')|(some t,r')=>(some ⟨wd w 1,wd w 2,wd w 3,g,t⟩,r')
  else(none,w::r)
def kN :Nat→List (List aH)→List Pr→Option (List Pr)×List (List aH)
 |0,ls,_=>(none,ls)
 |f+1,ls,a=>if ls=[]then(some a,[])else match rdR ls with
  |(none,r)=>(none,r)
  |(some x,r)=>kN f r (a++[x])
def rdP (ls:List (List aH)):Option Po×List (List aH):=match ls with
 |[]=>(none,[])
 |w::r=>if w.length=3∧wd w 0=wPolicy then match bP (wd w 2)with
   |none=>(none,w::r)
   |some v=>match kN (r.length+1) r []with|(none,r')=>(none,r')|(some l,r')=>(some ⟨wd w 1,v,l⟩,r')
  else(none,w::r)
def dpE (b:aH):Int:=if dZ b≠0 then dZ b else match(rdP (decO b)).1 with|none=>2|some p=>if fA p then 0 else 1
def dpL (b:aH):Nat:=if dZ b≠0 then 0 else match rdP (decO b)with|(none,r)=>(decO b).length-r.length|(some _,_)=>0
def po0 :Po:=⟨[],0,[]⟩
def dpO (b:aH):Po:=if dpE b=0 then((rdP (decO b)).1).getD po0 else po0
theorem wL : ∀(a:aH) (c:UInt8) (n k:Nat),eJ (a++[c]) n=some k→ ∃k',eJ a n=some k'∧kL c=true∧k=10*k'+(c.toNat-48)
 |[],c,n,k,h=>by
  simp only[I9,eJ]at h;split at h
  · rename_i hc;cases h;exact⟨n,rfl,hc,rfl⟩
  · cases h
 |b::a,c,n,k,h=>by
  simp only[J4,eJ]at h⊢;split at h
  · rename_i hb;rw[B6 hb];exact wL a c _ k h
  · cases h
theorem bJ1 : ∀(m:Nat) (s:aH) (k:Nat),s.length≤m→s≠[]→(1<s.length→s.head? ≠some 48)→eJ s 0=some k→Lib.decDigits k=s
 |0,s,_,hm,h0,_,_=>absurd (D5 (by omega)) h0
 |m+1,s,k,hm,h0,h1,h=>by
  obtain⟨a,c,rfl⟩: ∃a c,s=a++[c]:=⟨s.dropLast,s.getLast h0,(O7 h0).symm⟩;obtain⟨k',hk',hc,rfl⟩:=wL a c 0 k h;simp only[kL,A6,B9]at hc;have hcc:UInt8.ofNat (48+(c.toNat-48))=c:=by
   refine N9.1 ?_;rw[BD];omega
  by_cases ha:a=[]
  · subst ha;simp only[eJ,D6]at hk';subst hk';rw[Lib.decDigits_one (by omega)];grind
  ·
   have hlen:1<(a++[c]).length:=by
    have:=J0.2 ha;simp;omega
   have hh:(a++[c]).head? =a.head? :=by
    cases a with
    |nil=>grind
    |cons x a=>rfl
   have ih:=bJ1 m a k' (by grind) ha (fun _=>by grind) hk';have hk0:k'≠0:=by
    rintro rfl;rw[Lib.decDigits_one (by omega)]at ih;have:=h1 hlen;rw[hh,←ih]at this;exact this rfl
   rw[Lib.decDigits,dif_neg (by omega),show(10*k'+(c.toNat-48))/10=k' from by omega,ih,show 48+(10*k'+(c.toNat-48))%10=48+(c.toNat-48)from by omega,hcc]
theorem mY {s:aH}{n:Int}(h:bP s=some n):numW n=s:=by
 have hr:=lG h;unfold bP at h;split at h
 · cases h
 ·
  rename_i hb;have hb':fK s=false:=by simpa using hb
  simp only[fK,K7,C6,K9,I0]at hb';split at h
  ·
   rename_i k hk;split at h
   · cases h
   · cases h;rw[tN hr.1];refine bJ1 s.length s _ (F2 _) (fun e=>by grind) (fun hl=>?_) (by grind);grind[List.head?_eq_getElem?]
  grind
variable {w:List aH}
theorem cK6 (h:w.length=1):w=[wd w 0]:=by
 match w,h with
 |[a],_=>rfl
theorem cT1 (h:w.length=2):w=[wd w 0,wd w 1]:=by
 match w,h with
 |[a,b],_=>rfl
theorem cY9 (h:w.length=3):w=[wd w 0,wd w 1,wd w 2]:=by
 match w,h with
 |[a,b,c],_=>rfl
theorem dC4 (h:w.length=5):w=[wd w 0,wd w 1,wd w 2,wd w 3,wd w 4]:=by
 match w,h with
 |[a,b,c,d,e],_=>rfl
variable {q:Rq}
theorem bZ7 (h:dN w=some q):wlR q=w:=by
 have num: ∀{k:Int} {nm:aH},(∀n:Int,wlR ⟨k,n,0,[]⟩=[nm,numW n])→w.length=2∧wd w 0=nm→(bP (wd w 1)).map (⟨k,·,0,[]⟩)=some q→wlR q=w:=by
  intro k nm h1 h2 h3;cases hv:bP (wd w 1)with
  |none=>grind
  |some n=>
   grind[mY,cT1]
 unfold dN at h;split at h
 · rename_i h1;exact num (fun n=>rfl) h1 h
 split at h
 · rename_i h1;cases h;rw[cT1 h1.1,h1.2];rfl
 split at h
 · rename_i h1;exact num (fun n=>rfl) h1 h
 split at h
 ·
  rename_i h1;split at h
  · rename_i n m hn hm;cases h;show [bW,numW n,numW m]=w;grind[mY,cY9]
  grind
 split at h
 · rename_i h1;exact num (fun n=>rfl) h1 h
 split at h
 · rename_i h1;exact num (fun n=>rfl) h1 h
 split at h
 · rename_i h1;exact num (fun n=>rfl) h1 h
 split at h
 · rename_i h1;cases h;rw[cK6 h1.1,h1.2];rfl
 grind
theorem aV5 {n:Nd}(h:eL w=some n)(c:Int):wlN {n with c:=c}=w∧n.k≠1:=by
 unfold eL at h;split at h
 · rename_i h1;cases h;exact⟨by rw[cK6 h1.1,h1.2];rfl,by decide⟩
 split at h
 · rename_i h1;cases h;exact⟨by rw[cK6 h1.1,h1.2];rfl,by decide⟩
 split at h
 ·
  rename_i h1;cases hv:bP (wd w 1)with
  |none=>grind
  |some m=>
   rw[hv]at h;cases h;refine⟨?_,by grind⟩;show [bT,numW m]=w;grind[mY,cT1]
 grind
theorem lU : ∀(t x r:List Nd) (m:Nat),skip m t=some r→skip m (t++x)=some (r++x)
 |t,x,r,0,h=>by grind[dL]
 |[],x,r,m+1,h=>by cases h
 |n::t,x,r,m+1,h=>by
  have h':skip (m+n.c.toNat) t=some r:=h;exact lU t x r _ h'
theorem iV : ∀(f m:Nat) (t x r:List Nd),(t++x).length<f→skip m t=some r→(∀n∈t,cB n=true)→eC f m (t++x)=eC f m t
 |0,_,_,_,_,h,_,_=>by omega
 |f+1,0,t,x,r,_,_,_=>by cases t<;>cases x<;>rfl
 |f+1,m+1,[],x,r,_,h,_=>by cases h
 |f+1,m+1,n::t,x,r,hf,h,hn=>by
  have h':skip (m+n.c.toNat) t=some r:=h;have hn': ∀y∈t,cB y=true:=fun y hy=>hn y (F5 _ hy);have hl:(t++x).length<f:=by simpa using hf
  obtain⟨c1,c2,c3,c4⟩:=eF (hn n F6);simp only[J4,eC];split
  · rename_i hk;rw[c3 hk]at h';rw[iV f m t x r hl (by grind) hn']
  ·
   rw[O4,fW]at h';cases hs:skip n.c.toNat t with
   |none=>grind
   |some r1=>
    rw[hs]at h';have h2:skip m r1=some r:=h';obtain⟨j,_,hj,_,_⟩:=gP t _ _ hs;have hr1:=tO hs;rw[iV f _ t x r1 hl hs hn',lU t x r1 _ hs,E0,E0,
     iV f m r1 x r (by grind) h2 (fun y hy=>hn' y (by grind))]
theorem aG1 (h:eY w=true):w=[wEnd]:=by
 unfold eY at h;simp only[A6,G9]at h;rw[cK6 h.1,h.2]
theorem bZ8 : ∀(f:Nat),(∀ls t r,rdN f ls=(some t,r)→(∀n∈t,cB n=true)→skip 1 t=some []∧ls=eC (t.length+1) 1 t++r)∧
  (∀ls ts c r,rdK f ls=(some (ts,c),r)→(∀n∈ts,cB n=true)→0≤c∧skip c.toNat ts=some []∧ls=eC (ts.length+1) c.toNat ts++([wEnd]::r))
 |0=>⟨fun ls t r h _=>(by grind[rdN]),fun ls ts c r h _=>(by grind[rdK])⟩
 |f+1=>by
  obtain⟨ihN,ihK⟩:=bZ8 f;have z0: ∀f (x:List Nd),eC f 0 x=[]:=fun f x=>by cases f<;>cases x<;>rfl
  refine⟨fun ls t r h hn=>?_,fun ls ts c r h hn=>?_⟩
  ·
   cases ls with
   |nil=>grind[rdN]
   |cons w rest=>
    simp only[rdN]at h;split at h
    · rename_i q hq;cases h;refine⟨rfl,?_⟩;simp only[M2,eC];rw[B6 trivial,bZ7 hq];grind
    ·
     split at h
     · cases h
     ·
      rename_i n hin;cases hk:rdK f rest with
      |mk o r'=>
       rw[hk]at h;cases o with
       |none=>cases h
       |some p=>
        obtain⟨ts,c⟩:=p;simp only[R1,D6]at h;obtain⟨rfl,rfl⟩:=h;obtain⟨g1,g2,g3⟩:=ihK _ _ _ _ hk fun x hx=>hn x (F5 _ hx);obtain⟨e1,e2⟩:=aV5 hin c;refine⟨?_,?_⟩
        · show skip (0+c.toNat) ts=some [];rw[F3];exact g2
        · simp only[B0,eC];rw[A7 e2,e1,g3];simp[z0]
  ·
   simp only[rdK]at h;split at h
   ·
    rename_i he;cases h;cases ls with
    |nil=>simp[eY]at he
    |cons w rest=>
     have:=aG1 he;simp only[Q8]at this;subst this;exact⟨by omega,rfl,rfl⟩
   ·
    cases h1:rdN f ls with
    |mk o r1=>
     rw[h1]at h;cases o with
     |none=>cases h
     |some t=>
      simp only at h;cases h2:rdK f r1 with
      |mk o2 r2=>
       rw[h2]at h;cases o2 with
       |none=>cases h
       |some p=>
        obtain⟨ts2,c2⟩:=p;simp only[R1,D6]at h;obtain⟨⟨rfl,rfl⟩,rfl⟩:=h;obtain⟨a1,a2⟩:=ihN _ _ _ h1 fun x hx=>hn x (M5 _ hx);have hn2: ∀n∈ts2,cB n=true:=fun x hx=>hn x (J5 _ hx);obtain⟨b1,b2,b3⟩:=ihK _ _ _ _ h2 hn2;have e:(c2+1).toNat=1+c2.toNat:=by omega
        have s1:=lU t ts2 [] 1 a1;rw[I9]at s1;refine⟨by omega,?_,?_⟩
        · rw[e,fW,s1];exact b2
        ·
         rw[a2,b3,e,pD ((t++ts2).length+1) 1 c2.toNat (t++ts2) ts2 (H7 _) s1 hn _ b2,
          iV _ 1 t ts2 [] (H7 _) a1 (fun x hx=>hn x (M5 _ hx)),
          gV (t.length+1) 1 t [] (by omega) a1 (fun x hx=>hn x (M5 _ hx)) ((t++ts2).length+1) (by simp),
          gV (ts2.length+1) _ ts2 [] (by omega) b2 hn2 ((t++ts2).length+1) (by simp)]
         simp
variable {ls:List (List aH)}
theorem cK7 {r:List (List aH)}{x:Pr}(h:rdR ls=(some x,r))(hv:eB x.t=true):ls=jB x++r∧r.length<ls.length:=by
 cases ls with
 |nil=>grind[rdR]
 |cons w rest=>
  simp only[rdR]at h;split at h
  ·
   rename_i h1;split at h
   · cases h
   ·
    rename_i g hg;cases ht:rdT rest with
    |mk o r'=>
     rw[ht]at h;cases o with
     |none=>cases h
     |some t=>
      simp only[R1,D6]at h;obtain⟨rfl,rfl⟩:=h;obtain⟨-,g2⟩:=(bZ8 _).1 _ _ _ ht (mQ hv).node;have hw:=dC4 h1.1;rw[h1.2]at hw;refine⟨?_,?_⟩
      · show w::rest=([wRule,wd w 1,wd w 2,wd w 3,numW g]::aV4 t)++r';rw[mY hg,←hw,g2];rfl
      grind
  grind
theorem aV6 : ∀(f:Nat) (ls:List (List aH)) (a l:List Pr) (r:List (List aH)),kN f ls a=(some l,r)→(∀x∈l,eB x.t=true)→ ∃m,l=a++m∧ls=m.flatMap jB∧r=[]
 |0,ls,a,l,r,h,_=>by grind[kN]
 |f+1,ls,a,l,r,h,hv=>by
  simp only[kN]at h;split at h
  · simp_all
  ·
   cases hr:rdR ls with
   |mk o r1=>
    rw[hr]at h;cases o with
    |none=>cases h
    |some x=>
     obtain⟨m,rfl,hm,hr0⟩:=aV6 f r1 (a++[x]) l r h hv;obtain⟨g1,g2⟩:=cK7 hr (hv x (by simp));grind
variable {p:Po}
theorem cK8 {r:List (List aH)}(h:rdP ls=(some p,r))(hv:fA p=true):ls=jM p:=by
 have ht: ∀x∈p.r,eB x.t=true:=fun x hx=>by simp_all[fA,A6,H6,jW]
 cases ls with
 |nil=>grind[rdP]
 |cons w rest=>
  simp only[rdP]at h;split at h
  ·
   rename_i h1;split at h
   · cases h
   ·
    rename_i v hg;cases hr:kN (rest.length+1) rest []with
    |mk o r'=>
     rw[hr]at h;cases o with
     |none=>cases h
     |some l=>
      simp only[R1,D6]at h;obtain⟨rfl,rfl⟩:=h;obtain⟨m,rfl,hm,-⟩:=aV6 _ _ _ _ _ hr ht;have hw:=cY9 h1.1;rw[h1.2]at hw;show w::rest=[wPolicy,wd w 1,numW v]::_;rw[mY hg,←hw,hm]
  grind
variable {b:aH}
theorem bZ9 (h:dZ b=0):gL (decO b)=0∧lK (decO b)=b:=by
 have hO:decO b=(gX b).getD []:=by unfold decO;grind
 unfold dZ at h;split at h
 · cases h
 ·
  rename_i hb;cases hv:gX b with
  |none=>grind
  |some ls=>
   rw[hv]at h hO;simp only at h;split at h
   · cases h
   ·
    rename_i hl;rw[hO,E0];by_cases hne:b=[]
    · grind[gX,gL,eO,lK]
    ·
     have hlast: ∃m,b=m++[10]:=by
      unfold gX at hv;rw[A7 hne]at hv;split at hv
      · grind[lT]
      · grind
     obtain⟨m,rfl⟩:=hlast;rw[qK]at hv;cases hu:(aQ 10 m).mapM unL with
     |none=>grind[rD]
     |some ls'=>
      rw[aU9 hu]at hv;split at hv
      ·
       rename_i hall;cases hv;have hd:=aF8 hu;have hE:gL ls=0:=by simp_all[nK,H6,A7]
       grind[qD]
      grind
theorem cT2 {r:List (List aH)}(h0:dZ b=0)(h:rdP (decO b)=(some p,r)):(qU p=0∧mI p=b)↔fA p=true:=by
 constructor
 · grind[qU]
 · intro hv;have hl:=cK8 h hv;obtain⟨e1,e2⟩:=bZ9 h0;simp_all[qU,mI,B6]
theorem jQ {n a b:Int}:inB n a b=true↔a≤n∧n≤b:=by unfold inB;simp
theorem cA0 (h:eA q=true):dN (wlR q)=some q:=by
 obtain⟨k,n,m,t⟩:=q;have hv: ∀{a b:Int},inB n a b=true→0≤a→b≤1099511627776→bP (numW n)=some n:=fun h h1 h2=>by grind[jQ,mX]
 unfold eA at h;simp only at h;split at h
 ·
  rename_i h1;simp only[A6,G9]at h;obtain⟨h2,rfl,rfl⟩:=h;have hn:=hv h2 (by omega) (by omega);rcases h1 with rfl|rfl|rfl
  · show(bP (numW n)).map _=_;grind
  · show(bP (numW n)).map _=_;grind
  · show(bP (numW n)).map _=_;grind
 split at h
 · rename_i h1;subst h1;simp only[A6,G9]at h;obtain⟨h2,h3,rfl⟩:=h;have hn:=hv h2 (by omega) (by omega);rw[jQ]at h3;have hm:bP (numW m)=some m:=mX (by omega) (by omega);show(match bP (numW n),bP (numW m)with|some n,some m=>some (⟨4,n,m,[]⟩:Rq)|_,_=>none)=_;grind
 split at h
 · rename_i h1;subst h1;simp only[A6,G9]at h;obtain⟨-,rfl,rfl⟩:=h;rfl
 split at h
 · rename_i h1;subst h1;simp only[A6,G9]at h;obtain⟨h2,rfl,rfl⟩:=h;have hn:=hv h2 (by omega) (by omega);show(bP (numW n)).map _=_;grind
 split at h
 · rename_i h1;subst h1;simp only[A6,G9]at h;obtain⟨h2,rfl,rfl⟩:=h;have hn:=hv h2 (by omega) (by rw[gO];omega);show(bP (numW n)).map _=_;grind
 split at h
 · rename_i h1;subst h1;simp only[A6,G9]at h;obtain⟨rfl,rfl,rfl⟩:=h;rfl
 grind
theorem cA1 {n:Nd}(h:cB n=true)(hk:n.k≠1):eL (wlN n)=some {n with c:=0}∧dN (wlN n)=none:=by
 obtain⟨k,a,c,q⟩:=n;unfold cB at h;simp only at h hk;rw[A7 hk]at h;split at h
 · rename_i h1;simp only[A6,G9,sV]at h;obtain⟨-,rfl,rfl⟩:=h;rcases h1 with rfl|rfl<;>exact⟨rfl,rfl⟩
 split at h
 · rename_i h1;subst h1;simp only[A6,sV,jQ]at h;obtain⟨⟨c1,c2⟩,rfl,a1,a2⟩:=h;refine⟨?_,rfl⟩;show(bP (numW a)).map _=_;grind[mX]
 grind
theorem zI {r:List Nd}(h:skip m l=some r): ∃t,l=t++r∧skip m t=some []:=by
 induction l generalizing m with
 |nil=>
  cases m with
  |zero=>rw[dL]at h;cases h;exact⟨[],rfl,rfl⟩
  |succ m=>cases h
 |cons n l ih=>
  cases m with
  |zero=>rw[dL]at h;cases h;exact⟨[],rfl,rfl⟩
  |succ m=>
   obtain⟨t,h1,h2⟩:=ih (m:=m+n.c.toNat) h;exact⟨n::t,by rw[h1];rfl,h2⟩
variable {n:Nd}
theorem bD4 (h:cB n=true)(hk:n.k≠1):eY (wlN n)=false:=by
 unfold wlN;split
 · rfl
 ·
  split
  · rfl
  · rfl
theorem bD5 (q:Rq):eY (wlR q)=false:=by
 unfold wlR
 repeat' split
 all_goals rfl
theorem cA2 : ∀(f:Nat),(∀t rest,skip 1 t=some []→(∀n∈t,cB n=true)→2*t.length≤f→rdN f (eC (t.length+1) 1 t++rest)=(some t,rest))∧
  (∀ts c rest,skip c ts=some []→(∀n∈ts,cB n=true)→2*ts.length+1≤f→rdK f (eC (ts.length+1) c ts++([wEnd]::rest))=(some (ts,(c:Int)),rest))
 |0=>⟨fun t rest h _ hf=>(by
   have:t=[]:=D5 (by omega);subst this;cases h),fun ts c rest _ _ hf=>by omega⟩
 |f+1=>by
  obtain⟨ihN,ihK⟩:=cA2 f;have z0: ∀f (x:List Nd),eC f 0 x=[]:=fun f x=>by cases f<;>cases x<;>rfl
  refine⟨fun t rest h hn hf=>?_,fun ts c rest h hn hf=>?_⟩
  ·
   cases t with
   |nil=>cases h
   |cons n ts=>
    have hnn:=hn n F6;have hn': ∀x∈ts,cB x=true:=fun x hx=>hn x (F5 _ hx);have h':skip (0+n.c.toNat) ts=some []:=h;rw[F3]at h';obtain⟨c1,c2,c3,c4⟩:=eF hnn;simp only[B0,eC];by_cases hk:n.k=1
    ·
     rw[B6 hk];rw[c3 hk]at h';have:ts=[]:=by
      cases ts with
      |nil=>rfl
      |cons a b=>grind[skip,dL]
     subst this;have hq:eA n.q=true∧n.n=0:=by
      unfold cB at hnn;rw[B6 hk]at hnn;simp only[A6,G9]at hnn;exact⟨hnn.2.2,hnn.2.1⟩
     simp only[J4,I9,rdN,cA0 hq.1];obtain⟨k,a,c,q⟩:=n;simp only at hk hq c3;rw[hk,hq.2,c3 hk]
    ·
     rw[A7 hk];obtain⟨e1,e2⟩:=cA1 hnn hk;have:=ihK ts n.c.toNat rest h' hn' (by grind);simp only[J4,E8,I9,rdN,e2,e1,this];have:((n.c.toNat:Nat):Int)=n.c:=by omega
     rw[this]
  ·
   cases c with
   |zero=>
    rw[dL]at h;cases h;rw[z0];simp only[I9,rdK,Q8,show eY [wEnd]=true from rfl,F7,X5];rfl
   |succ c=>
    rw[O4,fW]at h;cases h1:skip 1 ts with
    |none=>grind
    |some r=>
     rw[h1]at h;have h2:skip c r=some []:=h;obtain⟨t,rfl,ht⟩:=zI h1;have hnt: ∀x∈t,cB x=true:=fun x hx=>hn x (M5 _ hx);have hnr: ∀x∈r,cB x=true:=fun x hx=>hn x (J5 _ hx);have ht1:1≤t.length:=by
      cases t with
      |nil=>cases ht
      |cons _ _=>simp
     simp only[A3]at hf;have e:eC ((t++r).length+1) (c+1) (t++r)=eC (t.length+1) 1 t++eC (r.length+1) c r:=by
      rw[O4 c 1,pD _ 1 c (t++r) r (H7 _) h1 hn _ h2,iV _ 1 t r [] (H7 _) ht hnt,
       gV (t.length+1) 1 t [] (by omega) ht hnt ((t++r).length+1) (by simp),gV (r.length+1) c r [] (by omega) h2 hnr ((t++r).length+1) (by simp)]
     rw[e,E8];have a1:=ihN t (eC (r.length+1) c r++[wEnd]::rest) ht hnt (by omega);have a2:=ihK r c rest h2 hnr (by omega);have hne:eY ((eC (t.length+1) 1 t++(eC (r.length+1) c r++[wEnd]::rest)).headD [])=false:=by
      cases t with
      |nil=>cases ht
      |cons n t=>
       simp only[B0,eC];split
       · exact bD5 _
       · rename_i hk;exact bD4 (hnt n F6) hk
     simp only[rdK];rw[hne];simp only[E7,J2,a1,a2];have:((c:Nat):Int)+1=((c+1:Nat):Int):=by omega
     rw[this]
theorem xE : ∀(f m:Nat) (l:List Nd),l.length<f→skip m l=some []→(∀n∈l,cB n=true)→l.length≤(eC f m l).length
 |0,_,_,h,_,_=>by omega
 |f+1,m,[],_,_,_=>by simp
 |f+1,0,n::l,_,h,_=>by rw[dL]at h;cases h
 |f+1,m+1,n::l,hf,h,hn=>by
  have h':skip (m+n.c.toNat) l=some []:=h;have hn': ∀y∈l,cB y=true:=fun y hy=>hn y (F5 _ hy);have hl:l.length<f:=by simpa using hf
  obtain⟨c1,c2,c3,c4⟩:=eF (hn n F6);simp only[eC];split
  · rename_i hk;rw[c3 hk]at h';have:=xE f m l hl (by simpa using h') hn';simp only[B0];omega
  ·
   rw[O4,fW]at h';cases hs:skip n.c.toNat l with
   |none=>rw[hs]at h';cases h'
   |some r1=>
    rw[hs]at h';have h2:skip m r1=some []:=h';obtain⟨t,rfl,ht⟩:=zI hs;simp only[A3]at hl;have hnt: ∀x∈t,cB x=true:=fun x hx=>hn' x (M5 _ hx);have a1:=xE f _ t (by omega) ht hnt;have a2:=xE f m r1 (by omega) h2 (fun x hx=>hn' x (J5 _ hx));rw[E0,iV f _ t r1 [] (by simp;omega) ht hnt];simp only[B0,A3];omega
variable {t:List Nd}
theorem cK9 (h:IsTree t)(rest:List (List aH)):rdT (aV4 t++rest)=(some t,rest):=by
 have:=xE (t.length+1) 1 t (by omega) h.skip h.node;exact(cA2 _).1 t rest h.skip h.node (by simp only[aV4,A3];omega)
theorem jC {r:Pr}(h:jW r=true):(0≤r.g∧r.g≤1099511627776)∧IsTree r.t∧dX r.a=true∧(fN r.b).isSome=true∧(fN r.c).isSome=true:=by
 unfold jW at h;simp only[A6,jQ]at h;obtain⟨h1,h2,h3,⟨h4,h5⟩,h6⟩:=h;rw[gO]at h5;exact⟨⟨h4,h5⟩,mQ h6,h1,h2,h3⟩
theorem cL0 {r:Pr}(h:jW r=true)(rest:List (List aH)):rdR (jB r++rest)=(some r,rest):=by
 obtain⟨⟨g0,g1⟩,ht,-⟩:=jC h;show rdR ([wRule,r.a,r.b,r.c,numW r.g]::(aV4 r.t++rest))=_;unfold rdR;simp only;rw[B6 ⟨rfl,rfl⟩];have:bP (wd [wRule,r.a,r.b,r.c,numW r.g] 4)=some r.g:=mX g0 g1;rw[this];simp only;rw[cK9 ht];rfl
theorem aV7 : ∀(l a:List Pr) (f:Nat),(∀r∈l,jW r=true)→l.length<f→kN f (l.flatMap jB) a=(some (a++l),[])
 |[],a,f,_,hf=>by
  obtain⟨g,rfl⟩: ∃g,f=g+1:=⟨f-1,by simp at hf;omega⟩;simp[kN]
 |r::l,a,f,h,hf=>by
  obtain⟨g,rfl⟩: ∃g,f=g+1:=⟨f-1,by simp at hf;omega⟩;simp only[I1,kN];rw[A7 (by simp[jB]),cL0 (h r F6)];simp only;rw[aV7 l (a++[r]) g (fun x hx=>h x (F5 _ hx)) (by simp at hf;omega)];simp
theorem bJ2 : ∀l:List Pr,l.length≤(l.flatMap jB).length
 |[]=>by simp
 |r::l=>by have:=bJ2 l;simp[jB]at this⊢;omega
theorem qL (h:fA p=true):(1≤p.v∧p.v≤1099511627776)∧p.r.length≤16∧dX p.n=true∧ ∀r∈p.r,jW r=true:=by
 unfold fA at h;simp only[A6,jQ,B9,H6]at h;obtain⟨h1,⟨h2,h3⟩,h4,h5,-⟩:=h;rw[gO]at h3;exact⟨⟨h2,h3⟩,h4,h1,h5⟩
theorem cL1 (h:fA p=true):rdP (jM p)=(some p,[]):=by
 obtain⟨⟨v0,v1⟩,-,-,hr⟩:=qL h;show rdP ([wPolicy,p.n,numW p.v]::p.r.flatMap jB)=_;unfold rdP;simp only;rw[B6 ⟨rfl,rfl⟩];have:bP (wd [wPolicy,p.n,numW p.v] 2)=some p.v:=mX (by omega) v1;rw[this];simp only;rw[aV7 p.r [] _ hr (by have:=bJ2 p.r;omega)];rfl
theorem bQ6 (h:qU p=0):dpE (mI p)=0∧dpO (mI p)=p∧dpL (mI p)=0:=by
 have hv:fA p=true:=by
  unfold qU at h;split at h
  · assumption
  · cases h
 have he:gL (jM p)=0:=by unfold qU at h;rw[B6 hv]at h;exact h
 have hb:mI p=lK (jM p):=by unfold mI;rw[B6 hv]
 obtain⟨h1,h2⟩:=bJ0 he;have hr:=cL1 hv;rw[hb];have hE:dpE (lK (jM p))=0:=by unfold dpE;rw[A7 (by rw[h1];simp),h2,hr];simp only;rw[B6 hv]
 exact⟨hE,by unfold dpO;rw[B6 hE,h2,hr];rfl,by unfold dpL;rw[A7 (by rw[h1];simp),h2,hr]⟩
theorem bJ3 : ∀(l:List Nd) (m:Nat) (v:Int),skip m l=some []→(∀n∈l,cB n=true)→sW l m v=some (0,v+lv l)
 |[],0,v,_,_=>by simp[sW,lv]
 |[],m+1,v,h,_=>by cases h
 |n::l,0,v,h,_=>by grind[dL]
 |n::l,m+1,v,h,hn=>by
  have h':skip (m+n.c.toNat) l=some []:=h;have hnn:=hn n F6;obtain⟨c1,c2,c3,c4⟩:=eF hnn;have e:((m+1:Nat):Int)+(n.c-1)=((m+n.c.toNat:Nat):Int):=by omega
  rw[sW,A7 (by omega),B6 hnn,e,bJ3 l _ _ h' (fun x hx=>hn x (F5 _ hx)),lv];grind
theorem aV8 (h:IsTree l):eB l=true:=by
 unfold eB;have:=bJ3 l 1 0 h.skip h.node;rw[show((1:Nat):Int)=1 from rfl]at this;rw[this];have:=h.lv;simp[h.ne,h.len];omega
def uni (l:List (Nat×Nat)):List (Nat×Nat):=l.eraseDups
def zJ (f:Nat→List (Nat×Nat)):Nat→Nat→Nat×Nat→List (Nat×Nat)
 |0,_,p=>[p]
 |c+1,n,p=>uni ((f n).flatMap fun q=>zJ f c (n+q.1) (p.1+q.1,p.2+q.2))
def pos :Nat→Nat→List (Nat×Nat)
 |0,_=>[(1,1)]
 |d+1,n=>uni ((1,1)::if n≤8 then(List.range 3).flatMap fun c=>zJ (pos d) (c+1) (n+1) (1,0)else [])
theorem qM {l:List (Nat×Nat)}{p:Nat×Nat}:p∈uni l↔p∈l:=by unfold uni;simp_all
theorem aG2 {f:Nat→List (Nat×Nat)}: ∀{c n:Nat} {p q r:Nat×Nat},q∈zJ f c n p→r∈f (n+(q.1-p.1))→p.1≤q.1→(q.1+r.1,q.2+r.2)∈zJ f (c+1) n p
 |0,n,p,q,r,hq,hr,_=>by simp_all[zJ,G0,U8,N0,qM,K6]
 |c+1,n,p,q,r,hq,hr,hpq=>by
  unfold zJ at hq⊢;rw[qM,K6]at hq⊢;obtain⟨s,hs,hq⟩:=hq;have hle:p.1+s.1≤q.1:=by
   have key: ∀(c n:Nat) (p q:Nat×Nat),q∈zJ f c n p→p.1≤q.1:=by
    intro c;induction c with
    |zero=>simp_all[zJ,G0,F2]
    |succ c ih=>
     grind[zJ,qM]
   exact key _ _ _ _ hq
  refine⟨s,hs,aG2 hq ?_ hle⟩;grind
structure Made (d n:Nat)(t:List Nd):Prop where
 skip:skip 1 t=some []
 node: ∀n∈t,cB n=true
 pos:(t.length,lv t)∈pos d n
theorem cL2 (h:Made 3 0 t):IsTree t:=by
 have hb: ∀p∈pos 3 0,1≤p.1∧p.1≤60∧p.2≤16:=by decide+kernel
 obtain⟨h1,h2,h3⟩:=hb _ h.pos;exact⟨h1,h2,h.skip,h.node,h3⟩
variable {d:Nat}
theorem aG3 {n:Nat}(h:eA q=true):Made d n [⟨1,0,0,q⟩]:=by
 refine⟨rfl,fun x hx=>?_,?_⟩
 · simp only[G0]at hx;subst hx;unfold cB;rw[B6 rfl,h];rfl
 ·
  cases d with
  |zero=>simp[pos,lv]
  |succ d=>rw[pos,qM];exact F6
structure MadeK (d n k:Nat)(ts:List Nd):Prop where
 skip:skip k ts=some []
 node: ∀n∈ts,cB n=true
 pos:(1+ts.length,lv ts)∈zJ (pos d) k (n+1) (1,0)
theorem MadeK.zero (d n:Nat):MadeK d n 0 []:=⟨rfl,by simp,by simp[zJ,lv]⟩
variable {ts:List Nd}
theorem MadeK.next {n k:Nat}(h:MadeK d n k ts)(ht:Made d (n+1+ts.length) t):MadeK d n (k+1) (ts++t):=by
 refine⟨?_,fun x hx=>?_,?_⟩
 · rw[fW,lU ts t [] k h.skip];exact ht.skip
 ·
  rcases F4.1 hx with hx|hx
  · exact h.node x hx
  · exact ht.node x hx
 ·
  have:=aG2 (r:=(t.length,lv t)) h.pos (by
   rw[show n+1+(1+ts.length-1)=n+1+ts.length from by omega];exact ht.pos) (by simp)
  grind[uQ,Nat.add_assoc]
theorem MadeK.fin {n:Nat}{x:Nd}{c:Nat}(h:MadeK d n c ts)(hn:n≤8)(hx:cB x=true)(hk:x.k≠1)(hc:x.c=c)(h1:1≤c)(h3:c≤3):Made (d+1) n (x::ts):=by
 refine⟨?_,fun y hy=>?_,?_⟩
 · show Pl.skip (0+x.c.toNat) ts=some [];rw[hc,F3];exact h.skip
 ·
  rcases E9.1 hy with rfl|hy
  · grind
  · exact h.node y hy
 · rw[Pl.pos,qM];refine F5 _ ?_;rw[B6 hn,K6];refine⟨c-1,Q3.2 (by omega),?_⟩;rw[show c-1+1=c from by omega];have:=h.pos;simp_all[lv,A7,B0,O4]
theorem rR (h: ∀l∈ls,l.length≤6∧ ∀w∈l,w.length≤80):(eO ls).length≤1500*ls.length:=by
 induction ls with
 |nil=>simp_all
 |cons l ls ih=>
  have:=ih fun x hx=>h x (F5 _ hx);obtain⟨h1,h2⟩:=h l F6;have e:(qT l).length≤1500:=by
   have h3:=aK6 l;have key: ∀l:List aH,(∀w∈l,w.length≤80)→jF l≤242*l.length:=by
    intro l;induction l with
    |nil=>simp_all
    |cons w l ih=>
     grind[List.mem_cons_of_mem,List.mem_cons_self,jU,jF,List.length_cons]
   have h4:=key l h2;simp only[qT,A3,M2];omega
  grind[eO,List.length_append,List.length_cons]
theorem zK (h: ∀l∈ls,1≤l.length∧l.length≤6∧ ∀w∈l,w.length≤80)(hl:ls.length≤170):gL ls=0:=by
 have h1: ∀l∈ls,okL l=true:=fun l hx=>(gR l).2 ⟨fun e=>by grind,by grind,fun w hw=>by grind⟩;have:=rR fun l hx=>(h l hx).2;rw[nK (by omega) h1,A7 (by omega)]
def dI (w:List aH):Option Nd:=match dN w with|some q=>some ⟨1,0,0,q⟩|none=>eL w
structure Ms where
 n:aH
 v:Int
 r:List Pr
 o:List Nat
 d:Bool
def qV (t:List Nd)(i:Nat):List Nd:=t.set i {t.getD i nd0 with c:=(t.getD i nd0).c+1}
def jX (t:List Nd)(o:List Nat):List Nd:=match o.getLast? with|some i=>qV t i|none=>t
def fP (r:List Pr):List Nd:=(r.getLast?.getD ⟨[],[],[],0,[]⟩).t
def rS (r:List Pr)(t:List Nd):List Pr:=r.dropLast++[{r.getLast?.getD ⟨[],[],[],0,[]⟩with t:=t}]
def cW (w:List aH)(first:Bool)(x:Ms):Option Ms:=
 if first then(if w.length=3∧wd w 0=wPolicy then(bP (wd w 2)).map fun v=>{x with n:=wd w 1,v:=v}else none)
 else if x.d=false∧x.o=[]then(if w.length=5∧wd w 0=wRule then(bP (wd w 4)).map fun g=>{x with r:=x.r++[⟨wd w 1,wd w 2,wd w 3,g,[]⟩],d:=true}else none)
 else if eY w=true∧x.o≠[]then some {x with o:=x.o.dropLast}
 else(dI w).map fun n=>{x with r:=rS x.r (jX (fP x.r) x.o++[n]),o:=if n.k=1 then x.o else x.o++[(fP x.r).length],d:=false}
def goM :List (List aH)→Ms→Option Ms×List (List aH)
 |[],x=>(some x,[])
 |w::ls,x=>match cW w false x with|some y=>goM ls y|none=>(none,w::ls)
variable {x:Ms}
theorem zL {w:List aH}{y:Ms}(h:cW w false x=some y):goM (w::ls) x=goM ls y:=by simp only[goM,h]
theorem aM4 {w:List aH}(h:cW w false x=none):goM (w::ls) x=(none,w::ls):=by simp only[goM,h]
variable {r:List Pr}
theorem aG4 :fP (rS r t)=t:=by simp[fP,rS]
variable {u:List Nd}
theorem aV9 :rS (rS r t) u=rS r u:=by simp[rS]
theorem vE {x:Pr}{t:List Nd}:rS (r++[x]) t=r++[{x with t:=t}]:=by simp[rS]
theorem rT {x:Pr}:fP (r++[x])=x.t:=by simp[fP]
theorem aM5 : ∀(f:Nat),(∀ls t r,rdN f ls=(some t,r)→r.length<ls.length)∧(∀ls p r,rdK f ls=(some p,r)→r.length<ls.length)
 |0=>⟨fun ls t r h=>(by simp only[rdN]at h;cases h),fun ls p r h=>(by simp only[rdK]at h;cases h)⟩
 |f+1=>by
  obtain⟨ihN,ihK⟩:=aM5 f;refine⟨fun ls t r h=>?_,fun ls p r h=>?_⟩
  ·
   cases ls with
   |nil=>simp only[rdN]at h;cases h
   |cons w rest=>
    simp only[rdN]at h;split at h
    · cases h;simp
    ·
     split at h
     · cases h
     ·
      cases hk:rdK f rest with
      |mk o r'=>
       rw[hk]at h;cases o with
       |none=>cases h
       |some p=>
        cases h;have:=ihK _ _ _ hk;simp only[B0];omega
  ·
   simp only[rdK]at h;split at h
   ·
    rename_i he;cases h;cases ls with
    |nil=>simp[eY]at he
    |cons w rest=>simp
   ·
    cases h1:rdN f ls with
    |mk o r1=>
     rw[h1]at h;cases o with
     |none=>cases h
     |some t=>
      simp only at h;cases h2:rdK f r1 with
      |mk o2 r2=>
       rw[h2]at h;cases o2 with
       |none=>cases h
       |some q=>
        cases h;have a:=ihN _ _ _ h1;have b:=ihK _ _ _ h2;omega
theorem bump_len (t:List Nd)(i:Nat):(qV t i).length=t.length:=by simp[qV]
def aW0 (t:List Nd)(i:Nat)(c:Int):List Nd:=t.set i {t.getD i nd0 with c:=(t.getD i nd0).c+c}
theorem bQ7 (h:i<t.length):aW0 t i 0=t:=by
 unfold aW0;have:({t.getD i nd0 with c:=(t.getD i nd0).c+0}:Nd)=t[i]:=by
  rw[C7,B5 h,E0,Int.add_zero]
 rw[this,List.set_getElem_self]
theorem bQ8 {c:Int}(h:i<t.length):aW0 (qV t i++u) i c=aW0 t i (c+1)++u:=by
 unfold aW0;rw[AO _ _ (by rw[bump_len];exact h)];congr 1;have e:(qV t i++u).getD i nd0={t.getD i nd0 with c:=(t.getD i nd0).c+1}:=by
  rw[C7,M8 (by rw[bump_len];exact h)];unfold qV;rw[List.getElem?_set_self h];rfl
 rw[e];unfold qV;rw[List.set_set];congr 1;simp only[Nd.mk.injEq,V5,L8];omega
theorem innR_c (h:eL w=some n):n.c=0∧eY w=false:=by
 refine⟨?_,?_⟩
 ·
  unfold eL at h;split at h
  · cases h;rfl
  split at h
  · cases h;rfl
  split at h
  ·
   cases hv:bP (wd w 1)with
   |none=>rw[hv]at h;cases h
   |some m=>rw[hv]at h;cases h;rfl
  · cases h
 ·
  cases he:eY w with
  |false=>rfl
  |true=>rw[aG1 he]at h;cases h
theorem bQ9 (h:r≠[]):rS r (fP r)=r:=by
 obtain⟨q,x,rfl⟩: ∃q x,r=q++[x]:=⟨r.dropLast,r.getLast h,(O7 h).symm⟩;rw[rT,vE]
theorem bD6 (t:List Nd)(o:List Nat)(i:Nat):jX t (o++[i])=qV t i:=by simp[jX]
theorem bumpO_len (t:List Nd)(o:List Nat):(jX t o).length=t.length:=by
 unfold jX;split
 · exact bump_len _ _
 · rfl
theorem cA3 : ∀(f:Nat),(∀ls (x:Ms),2*ls.length+1≤f→(x.d=true∨x.o≠[])→(∀i∈x.o,i<(fP x.r).length)→(x.o≠[]→eY (ls.headD [])=false)→match rdN f ls with
   |(some t,r)=>goM ls x=goM r {x with r:=rS x.r (jX (fP x.r) x.o++t),d:=false}
   |(none,[])=> ∃y,goM ls x=(some y,[])∧(y.d=true∨y.o≠[])
   |(none,w::r)=>goM ls x=(none,w::r))∧
  (∀ls (x:Ms) (o:List Nat) (i:Nat),2*ls.length+2≤f→x.o=o++[i]→x.d=false→(∀j∈x.o,j<(fP x.r).length)→match rdK f ls with
   |(some (ts,c),r)=>goM ls x=goM r {x with r:=rS x.r (aW0 (fP x.r) i c++ts),o:=o}
   |(none,[])=> ∃y,goM ls x=(some y,[])∧(y.d=true∨y.o≠[])
   |(none,w::r)=>goM ls x=(none,w::r))
 |0=>⟨fun ls x hf _ _ _=>by omega,fun ls x o i hf _ _ _=>by omega⟩
 |f+1=>by
  obtain⟨ihN,ihK⟩:=cA3 f;refine⟨fun ls x hf hx hb hend=>?_,fun ls x o i hf ho hd hb=>?_⟩
  ·
   cases ls with
   |nil=>simp only[rdN];exact⟨x,rfl,hx⟩
   |cons w rest=>
    have hx': ¬(x.d=false∧x.o=[]):=fun h=>by
     rcases hx with h1|h1
     · rw[h.1]at h1;cases h1
     · exact h1 h.2
    have hne: ¬(eY w=true∧x.o≠[]):=fun h=>by
     have:=hend h.2;rw[Q8,h.1]at this;cases this
    simp only[rdN];cases hq:dN w with
    |some q=>
     simp only;have hs:cW w false x=some {x with r:=rS x.r (jX (fP x.r) x.o++[⟨1,0,0,q⟩]),d:=false}:=by
      unfold cW;rw[A7 (by simp),A7 hx',A7 hne];unfold dI;rw[hq];rfl
     rw[zL hs]
    |none=>
     simp only;cases hn:eL w with
     |none=>
      simp only;have hs:cW w false x=none:=by
       unfold cW;rw[A7 (by simp),A7 hx',A7 hne];unfold dI;rw[hq,hn];rfl
      exact aM4 hs
     |some n=>
      obtain⟨hc,-⟩:=innR_c hn;have hk:=(aV5 hn 0).2;obtain⟨y,hy⟩: ∃y:Ms,y={x with r:=rS x.r (jX (fP x.r) x.o++[n]),o:=x.o++[(fP x.r).length],d:=false}:=⟨_,rfl⟩;have hs:cW w false x=some y:=by
       unfold cW;rw[A7 (by simp),A7 hx',A7 hne];unfold dI;rw[hq,hn];simp only[H8];rw[A7 hk,hy]
      have hT:fP y.r=jX (fP x.r) x.o++[n]:=by rw[hy];exact aG4
      have ih:=ihK rest y x.o (fP x.r).length (by simp only[B0]at hf;omega) (by rw[hy]) (by rw[hy]) (fun j hj=>by
       rw[hT,A3,bumpO_len,M2];rw[hy]at hj;simp only[F4,G0]at hj;rcases hj with hj|rfl
       · have:=hb j hj;omega
       · omega)
      simp only;rw[zL hs];cases hr:rdK f rest with
      |mk p r'=>
       rw[hr]at ih;cases p with
       |none=>
        cases r' with
        |nil=>exact ih
        |cons _ _=>exact ih
       |some p=>
        obtain⟨ts,c⟩:=p;simp only at ih⊢;rw[ih,hT];have e:aW0 (jX (fP x.r) x.o++[n]) (fP x.r).length c=jX (fP x.r) x.o++[{n with c:=c}]:=by
         unfold aW0;have hl:=bumpO_len (fP x.r) x.o;rw[←hl,V1 _ _ (F2 _),U8];simp only[C7,M4 (F2 _),U8,M3,E0,hc,Int.zero_add,W9]
        rw[e,hy];simp only[aV9,E8,List.singleton_append]
  ·
   simp only[rdK];have hon:x.o≠[]:=by rw[ho];simp
   have hi:i<(fP x.r).length:=hb i (by rw[ho];simp);have hrn:x.r≠[]:=fun h=>by rw[h]at hi;simp[fP]at hi
   by_cases he:eY (ls.headD [])=true
   ·
    rw[B6 he];cases ls with
    |nil=>simp[eY]at he
    |cons w rest=>
     simp only[Q8]at he;have hs:cW w false x=some {x with o:=o}:=by
      unfold cW;rw[A7 (by simp),A7 (fun h=>hon h.2),B6 ⟨he,hon⟩,ho];simp
     rw[zL hs];simp only[X5,bQ7 hi,J6,bQ9 hrn]
   ·
    rw[A7 he];have he':eY (ls.headD [])=false:=BR.2 he;have ih:=ihN ls x (by omega) (.inr hon) hb (fun _=>he');cases h1:rdN f ls with
    |mk p r1=>
     rw[h1]at ih;cases p with
     |none=>
      cases r1 with
      |nil=>exact ih
      |cons _ _=>exact ih
     |some t=>
      simp only at ih⊢;have hlen:=(aM5 f).1 _ _ _ h1;obtain⟨x1,hx1⟩: ∃x1:Ms,x1={x with r:=rS x.r (jX (fP x.r) x.o++t),d:=false}:=⟨_,rfl⟩;rw[←hx1]at ih;have hT:fP x1.r=qV (fP x.r) i++t:=by rw[hx1];simp only;rw[aG4,ho,bD6]
      have ih2:=ihK r1 x1 o i (by omega) (by rw[hx1];exact ho) (by rw[hx1]) (fun j hj=>by
       rw[hT,A3,bump_len];rw[hx1]at hj;have:=hb j hj;omega)
      rw[ih];cases h2:rdK f r1 with
      |mk p2 r2=>
       rw[h2]at ih2;cases p2 with
       |none=>
        cases r2 with
        |nil=>exact ih2
        |cons _ _=>exact ih2
       |some q=>
        obtain⟨ts,c⟩:=q;simp only at ih2⊢;rw[ih2,hT,bQ8 hi,hx1];simp only[aV9,E8];rw[hd]
theorem cA4 (hd:x.d=false)(ho:x.o=[]):match rdR ls with
   |(some p,r)=>ls≠[]∧goM ls x=goM r {x with r:=x.r++[p]}
   |(none,[])=>ls=[]∨ ∃y,goM ls x=(some y,[])∧(y.d=true∨y.o≠[])
   |(none,w::r)=>goM ls x=(none,w::r):=by
 cases ls with
 |nil=>simp[rdR]
 |cons w rest=>
  simp only[rdR];by_cases h1:w.length=5∧wd w 0=wRule
  ·
   rw[B6 h1];cases hg:bP (wd w 4)with
   |none=>
    simp only;refine aM4 ?_;unfold cW;rw[A7 (by simp),B6 ⟨hd,ho⟩,B6 h1,hg];rfl
   |some g=>
    simp only;have hs:cW w false x=some {x with r:=x.r++[⟨wd w 1,wd w 2,wd w 3,g,[]⟩],d:=true}:=by
     unfold cW;rw[A7 (by simp),B6 ⟨hd,ho⟩,B6 h1,hg];rfl
    have ih:=(cA3 (2*rest.length+2)).1 rest {x with r:=x.r++[⟨wd w 1,wd w 2,wd w 3,g,[]⟩],d:=true} (by omega) (.inl rfl) (fun i hi=>by simp only at hi;rw[ho]at hi;cases hi) (fun h=>absurd ho h);rw[zL hs];unfold rdT;cases ht:rdN (2*rest.length+2) rest with
    |mk p r'=>
     rw[ht]at ih;cases p with
     |none=>
      cases r' with
      |nil=>exact .inr ih
      |cons _ _=>exact ih
     |some t=>
      simp only at ih⊢;refine⟨by simp,?_⟩;rw[ih,rT,vE,ho];simp only[jX,List.getLast?_nil,I9];rw[←hd,←ho]
  · rw[A7 h1];simp only;refine aM4 ?_;unfold cW;rw[A7 (by simp),B6 ⟨hd,ho⟩,A7 h1]
theorem aG5 : ∀(f:Nat) (ls:List (List aH)) (x:Ms),ls.length<f→x.d=false→x.o=[]→match kN f ls x.r with
   |(some l,r)=>goM ls x=(some {x with r:=l},[])∧r=[]
   |(none,[])=> ∃y,goM ls x=(some y,[])∧(y.d=true∨y.o≠[])
   |(none,w::r)=>goM ls x=(none,w::r)
 |0,ls,x,h,_,_=>by omega
 |f+1,ls,x,hf,hd,ho=>by
  simp only[kN];by_cases h0:ls=[]
  · subst h0;rw[B6 rfl];exact⟨rfl,rfl⟩
  ·
   rw[A7 h0];have ih:=cA4 (ls:=ls) hd ho;cases h1:rdR ls with
   |mk p r=>
    rw[h1]at ih;cases p with
    |none=>
     cases r with
     |nil=>exact ih.resolve_left h0
     |cons _ _=>exact ih
    |some q=>
     simp only at ih⊢;have hlen:r.length<ls.length:=by
      cases ls with
      |nil=>exact absurd rfl h0
      |cons w rest=>
       simp only[rdR]at h1;split at h1
       ·
        split at h1
        · cases h1
        ·
         cases ht:rdT rest with
         |mk o r'=>
          rw[ht]at h1;cases o with
          |none=>cases h1
          |some t=>
           cases h1;have:=(aM5 _).1 _ _ _ ht;simp only[B0];omega
       · cases h1
     have ih2:=aG5 f r {x with r:=x.r++[q]} (by omega) hd ho;rw[ih.2];exact ih2
def cA5 (ls:List (List aH)):Option Po×List (List aH):=match ls with
 |[]=>(none,[])
 |w::r=>match cW w true ⟨[],0,[],[],false⟩with
  |none=>(none,w::r)
  |some x=>match goM r x with
   |(none,r')=>(none,r')
   |(some y,_)=>if y.d=true∨y.o≠[]then(none,[])else(some ⟨y.n,y.v,y.r⟩,[])
theorem aM6 (ls:List (List aH)):cA5 ls=rdP ls:=by
 cases ls with
 |nil=>rfl
 |cons w r=>
  unfold cA5 rdP;simp only;by_cases h1:w.length=3∧wd w 0=wPolicy
  ·
   rw[B6 h1];have hs:cW w true ⟨[],0,[],[],false⟩=(bP (wd w 2)).map fun v=>⟨wd w 1,v,[],[],false⟩:=by
    unfold cW;rw[B6 rfl,B6 h1]
   rw[hs];cases hv:bP (wd w 2)with
   |none=>rfl
   |some v=>
    simp only[H8];have ih:=aG5 (r.length+1) r ⟨wd w 1,v,[],[],false⟩ (by omega) rfl rfl;simp only at ih;cases hr:kN (r.length+1) r []with
    |mk o r'=>
     rw[hr]at ih;cases o with
     |some l=>
      simp only at ih;obtain⟨e,rfl⟩:=ih;rw[e];simp
     |none=>
      cases r' with
      |nil=>
       simp only at ih;obtain⟨y,e,hy⟩:=ih;rw[e];simp only;rw[B6 hy]
      |cons a b=>
       simp only at ih;rw[ih]
  ·
   rw[A7 h1];have hs:cW w true ⟨[],0,[],[],false⟩=none:=by
    unfold cW;rw[B6 rfl,A7 h1]
   rw[hs]
theorem aG6 (f:Nat)(x:List Nd):eC f 0 x=[]:=by cases f<;>cases x<;>rfl
theorem mZ {w:aH}(h:dX w=true):1≤w.length∧w.length≤64:=by
 cases w with
 |nil=>cases h
 |cons c r=>
  simp_all[dX,A6,B9]
theorem xF : ∀(f m:Nat) (l r:List Nd),l.length<f→skip m l=some r→(∀n∈l,cB n=true)→(eC f m l).length+2*r.length≤2*l.length
 |0,_,_,_,h,_,_=>by omega
 |f+1,0,l,r,_,h,_=>by grind[dL,aG6]
 |f+1,m+1,[],r,_,h,_=>by cases h
 |f+1,m+1,n::l,r,hf,h,hn=>by
  have h':skip (m+n.c.toNat) l=some r:=h;have hn': ∀y∈l,cB y=true:=fun y hy=>hn y (F5 _ hy);have hl:l.length<f:=by simpa using hf
  obtain⟨c1,c2,c3,c4⟩:=eF (hn n F6);simp only[eC];split
  · rename_i hk;rw[c3 hk]at h';have:=xF f m l r hl (by grind) hn';grind
  ·
   rw[O4,fW]at h';cases hs:skip n.c.toNat l with
   |none=>grind
   |some r1=>
    rw[hs]at h';have h2:skip m r1=some r:=h';obtain⟨j,_,hj,_,_⟩:=gP l _ _ hs;have a1:=xF f _ l r1 hl hs hn';have a2:=xF f m r1 r (by grind) h2 (fun x hx=>hn' x (by grind));grind
def fT (l:List aH):Prop:=1≤l.length∧l.length≤6∧ ∀w∈l,w.length≤80
theorem jN {n:Int}(h0:0≤n)(h1:n≤1099511627776):(numW n).length≤80:=by grind[bY9]
theorem cT3 (h:eA q=true):fT (wlR q):=by
 obtain⟨k,n,m,t⟩:=q;have hb: ∀{a b:Int},inB n a b=true→0≤a→b≤1099511627776→(numW n).length≤80:=fun h h1 h2=>by grind[jQ,jN]
 have two: ∀{a:aH},a.length≤80→(numW n).length≤80→fT [a,numW n]:=fun h1 h2=>⟨by simp,by simp,fun w hw=>by
  grind⟩
 unfold eA at h;simp only at h;split at h
 ·
  rename_i h1;simp only[A6]at h;have hn:=hb h.1 (by omega) (by omega);rcases h1 with rfl|rfl|rfl
  · exact two (by decide) hn
  · exact two (by decide) hn
  · exact two (by decide) hn
 split at h
 ·
  rename_i h1;subst h1;simp only[A6,jQ]at h;have hn:=jN (n:=n) (by omega) (by omega);have hm:=jN (n:=m) (by omega) (by omega);refine⟨by show 1≤3;omega,by show 3≤6;omega,fun w hw=>?_⟩;have hw:w∈[bW,numW n,numW m]:=hw;simp only[E9,I7,P1]at hw;rcases hw with rfl|rfl|rfl
  · decide
  all_goals grind
 split at h
 ·
  rename_i h1;subst h1;simp only[A6]at h;have ht:=mZ h.1;refine⟨by show 1≤2;omega,by show 2≤6;omega,fun w hw=>?_⟩;have hw:w∈[bL,t]:=hw;simp only[E9,I7,P1]at hw;rcases hw with rfl|rfl
  · decide
  grind
 split at h
 · rename_i h1;subst h1;simp only[A6]at h;exact two (by decide) (hb h.1 (by omega) (by omega))
 split at h
 · rename_i h1;subst h1;simp only[A6]at h;exact two (by decide) (hb h.1 (by omega) (by rw[gO];omega))
 split at h
 · rename_i h1;subst h1;refine⟨by show 1≤1;omega,by show 1≤6;omega,fun w hw=>?_⟩;have hw:w∈[bX]:=hw;simp only[G0]at hw;subst hw;decide
 grind
theorem cT4 (h:cB n=true)(hk:n.k≠1):fT (wlN n):=by
 obtain⟨k,a,c,q⟩:=n;unfold cB at h;simp only at h hk;rw[A7 hk]at h;have one: ∀{a:aH},a.length≤80→fT [a]:=fun h1=>⟨by simp,by simp,fun w hw=>by
  grind⟩
 split at h
 ·
  rename_i h1;rcases h1 with rfl|rfl
  · exact one (by decide)
  · exact one (by decide)
 split at h
 ·
  rename_i h1;subst h1;simp only[A6,jQ]at h;have hn:=jN (n:=a) (by omega) (by omega);refine⟨by show 1≤2;omega,by show 2≤6;omega,fun w hw=>?_⟩;have hw:w∈[bT,numW a]:=hw;simp only[E9,I7,P1]at hw;rcases hw with rfl|rfl
  · decide
  grind
 grind
theorem xG : ∀(f m:Nat) (l:List Nd),(∀n∈l,cB n=true)→ ∀x∈eC f m l,fT x
 |0,_,_,_,x,hx=>by simp[eC]at hx
 |f+1,0,l,_,x,hx=>by grind[aG6]
 |f+1,m+1,[],_,x,hx=>by simp[eC]at hx
 |f+1,m+1,n::l,hn,x,hx=>by
  have hnn:=hn n F6;have hn': ∀y∈l,cB y=true:=fun y hy=>hn y (F5 _ hy);simp only[eC]at hx;split at hx
  ·
   rename_i hk;rcases E9.1 hx with rfl|hx
   · simp_all[cB,B6,A6,cT3]
   · exact xG f m l hn' x hx
  ·
   rename_i hk;rcases E9.1 hx with rfl|hx
   · exact cT4 hnn hk
   ·
    rcases F4.1 hx with hx|hx
    · exact xG f _ l hn' x hx
    ·
     rcases E9.1 hx with rfl|hx
     · exact⟨by simp,by simp,fun w hw=>by simp only[G0]at hw;subst hw;decide⟩
     ·
      refine xG f m _ (fun y hy=>hn' y ?_) x hx;cases hs:skip n.c.toNat l with
      |none=>grind
      |some r=>
       grind[gP,List.mem_of_mem_drop]
def pF (p:Po):Prop:=fA p=true∧p.r.length≤2∧ ∀r∈p.r,r.b.length≤80∧r.c.length≤80∧r.t.length≤40
theorem aM7 (h:pF p):(∀l∈jM p,fT l)∧(jM p).length≤170:=by
 obtain⟨hv,h2,h3⟩:=h;obtain⟨⟨v0,v1⟩,-,hn,hr⟩:=qL hv;constructor
 ·
  intro l hl;simp only[jM,E9,K6]at hl;rcases hl with rfl|⟨r,hrm,hl⟩
  ·
   have:=mZ hn;have hnv:=jN (n:=p.v) (by omega) v1;refine⟨by simp,by simp,fun w hw=>?_⟩;simp only[E9,I7,P1]at hw;rcases hw with rfl|rfl|rfl
   · decide
   all_goals grind
  ·
   obtain⟨⟨g0,g1⟩,ht,hna,-⟩:=jC (hr r hrm);have:=mZ hna;have hg:=jN g0 g1;obtain⟨hb,hc,-⟩:=h3 r hrm;simp only[jB,E9]at hl;rcases hl with rfl|hl
   ·
    refine⟨by simp,by simp,fun w hw=>?_⟩;simp only[E9,I7,P1]at hw;rcases hw with rfl|rfl|rfl|rfl|rfl
    · decide
    all_goals grind
   · exact xG _ _ _ ht.node l hl
 ·
  have key: ∀l:List Pr,(∀r∈l,r∈p.r)→(l.flatMap jB).length≤81*l.length:=by
   intro l;induction l with
   |nil=>grind
   |cons r l ih=>
    intro h;have:=ih fun x hx=>h x (F5 _ hx);have hrm:=h r F6;obtain⟨-,ht,-⟩:=jC (hr r hrm);have hle:=xF (r.t.length+1) 1 r.t [] (by omega) ht.skip ht.node;obtain⟨-,-,h40⟩:=h3 r hrm;simp only[I1,A3,jB,B0,aV4];grind
  grind[jM,List.length_cons]
theorem bR0 (h:pF p):qU p=0:=by
 obtain⟨h1,h2⟩:=aM7 h;unfold qU;rw[B6 h.1];exact zK h1 h2
def aG7 (ns im:aH)(r:Pr):Bool:=nL r.b ns&&nL r.c im
def cA6 (p:Po)(ns im:aH):Int:=if fA p then match p.r.findIdx? (aG7 ns im)with|some i=>(i:Int)|none=> -1 else-1
theorem cA7 {ns im:aH}(hp:fA p=false):cA6 p ns im= -1:=by
 unfold cA6;rw[A7 (by rw[hp];simp)]
def aW1 (n:Int):Nd:=⟨1,0,0,⟨1,n,0,[]⟩⟩
def awT :List Nd:=[⟨4,2,3,rq0⟩,aW1 1,aW1 2,aW1 3]
def awP :Po:=⟨[112],1,[⟨[114],[112,114,111,100,47,42,42],[42],5,awT⟩]⟩
theorem cT5 :eB awT=true:=by decide
theorem cT6 :fA awP=true:=by decide+kernel
theorem cA8 :zA awT [true,false,true]=true:=by decide
theorem cA9 :zA awT [true]=false:=by decide
theorem nA :(kM awT).length=3:=by decide
theorem tP :(vB awT 0).length=3:=by decide
theorem cT7 :cA6 awP [112,114,111,100,47,101,117] [119,101,98]=0:=by decide+kernel
theorem bEq {c d:UInt8}(h:((c.toNat:Int)==(d.toNat:Int))=true):c=d:=by
 have h1:=eq_of_beq h;exact N9.1 (by omega)
theorem bNe {c d:UInt8}(h:((c.toNat:Int)==(d.toNat:Int))=false):c≠d:=by
 intro e;subst e;simp at h
variable {c:UInt8}
theorem aW2 {l:List UInt8}(h: ¬eD l c<0):c∈l:=by
 unfold eD at h;cases e:l.findIdx? (· ==c)with
 |none=>rw[e]at h;simp at h
 |some i=>
  obtain⟨hi,h1,_⟩:=J1.1 e;have:=eq_of_beq h1;rw[←this];exact C0 hi
theorem wM {l:List UInt8}(h:eD l c<0):c∉l:=by
 unfold eD at h;cases e:l.findIdx? (· ==c)with
 |none=>
  intro hc;have:=O0.1 e c hc;simp at this
 |some i=>rw[e]at h;simp only at h;omega
theorem tQ {p:aH}(h:p.length<1∨200<p.length):fN p=none:=by unfold fN;rw[B6 h]
theorem aM8 {p:aH}(h1:1≤p.length)(h2:p.length≤200):fN p=patP p:=by unfold fN;rw[A7 (by omega)]
end Go.Pl
