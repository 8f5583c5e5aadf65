/- Part of a proof: walks of functions of the program, by contracts, and the rules they use. By an AI agent. -/
import Derived.Test.YtlldglbooaefhaaGreatDoorPl11v
import Derived.Test.YtlldglbooaefhaaGreatDoorHlZb
import Derived.Test.YtlldglbooaefhaaGreatDoorHzU1
import Derived.Test.YtlldglbooaefhaaGreatDoorHlTlaw
set_option linter.unusedSimpArgs false
set_option linter.unusedVariables false
set_option linter.defProp false
namespace Go.Pl
open Go Go.Hl
theorem vZ : ∀(a b:aG) (n m:Nat),dC a n=some m→dC (a++b) n=dC b m
 |[],b,n,m,h=>by simp only[dC,Option.some.injEq]at h;subst h;rfl
 |c::a,b,n,m,h=>by
  simp only[List.cons_append,dC]at h⊢;split at h
  · rename_i hc;rw[if_pos hc];exact vZ a b _ _ h
  · cases h
variable {k:Nat}
theorem aV4 (h:k<10):mV (UInt8.ofNat (48+k))=true∧(UInt8.ofNat (48+k)).toNat-48=k:=by
 have e:(UInt8.ofNat (48+k)).toNat=48+k:=by simp;omega
 rw[mV,e];exact⟨by simp;omega,by omega⟩
theorem aQ8 (u:Nat):dC (Lib.decDigits u) 0=some u:=by
 induction u using Nat.strongRecOn with
 |ind u ih=>
  rw[Lib.decDigits];split
  · rename_i h;obtain⟨h1,h2⟩:=aV4 h;simp only[dC,h1,if_true,h2];simp
  · rw[vZ _ _ 0 (u/10) (ih _ (by omega))];obtain⟨h1,h2⟩:=aV4 (k:=u%10) (by omega);simp only[dC,h1,if_true,h2];congr 1;omega
theorem aV5 : ∀(k u:Nat),u<10^(k+1)→(Lib.decDigits u).length≤k+1
 |0,u,h=>by rw[Lib.decDigits,dif_pos (by omega)];simp
 |k+1,u,h=>by
  rw[Lib.decDigits];split
  · simp
  · have:=aV5 k (u/10) (by rw[Nat.pow_succ]at h;omega);simp only[List.length_append,List.length_singleton];omega
theorem bK3 {u:Nat}(h:1≤u): ∃c l,Lib.decDigits u=c::l∧c≠48:=by
 induction u using Nat.strongRecOn with
 |ind u ih=>
  rw[Lib.decDigits];split
  · rename_i hu;refine⟨_,_,rfl,fun hc=>?_⟩;have:=congrArg UInt8.toNat hc;simp at this;omega
  · obtain⟨c,l,h1,h2⟩:=ih (u/10) (by omega) (by omega);exact⟨c,l++[UInt8.ofNat (48+u%10)],by rw[h1];rfl,h2⟩
variable {n:Int}
theorem kS (h0:0≤n)(h1:n≤1099511627776):bH (numW n)=some n:=by
 rw[aJ7 h0];have hd:=aQ8 n.natAbs;have hl:=aV5 12 n.natAbs (by omega);have hb:gH (Lib.decDigits n.natAbs)=false:=by
  unfold gH;by_cases hz:n.natAbs=0
  · rw[hz,Lib.decDigits_one (by omega)];simp
  ·
   obtain⟨c,l,h2,h3⟩:=bK3 (u:=n.natAbs) (by omega);rw[h2]at hl⊢;have e:((c::l).getD 0 0==(48:UInt8))=false:=by simpa using h3
   rw[e,Bool.and_false,Bool.or_false,Bool.or_eq_false_iff];exact⟨by simp,decide_eq_false (by omega)⟩
 rw[aV1 hb hd (by omega)];congr 1;omega
variable {ls:List (List aG)}
theorem bU1 (h:lF ls=0):iG (pW ls)=0∧fE (pW ls)=ls:=by
 rw[aB2 h];unfold lF at h;split at h
 · cases h
 ·
  rename_i h1;split at h
  · rename_i l hl;have:=List.find?_some hl;simp only[Bool.not_eq_true']at this;exact absurd h (bS0 this)
  ·
   rename_i hn;split at h
   · cases h
   ·
    rename_i h2;have hok: ∀l∈ls,okL l=true:=fun l hl=>by
     have:=List.find?_eq_none.1 hn l hl;simpa using this
    have hv:=bB3 hok;have hE:iG (gO ls)=0:=by unfold iG;rw[if_neg h2,hv];simp only;rw[if_neg h1]
    exact⟨hE,by unfold fE;rw[if_pos hE,hv];rfl⟩
def iL (r:Pr):Bool:=dL r.a&&((gP r.b).isSome&&((gP r.c).isSome&&(inB r.g 0 tP&&cT r.t)))
def fX :List Pr→Bool
 |[]=>true
 |r::l=>!(l.map Pr.a).contains r.a&&fX l
def fC (p:Po):Bool:=dL p.n&&(inB p.v 1 tP&&(decide (p.r.length≤16)&&(p.r.all iL&&fX p.r)))
theorem nB (l:List Pr)(r:Pr):fX (l++[r])=(fX l&&!(l.map Pr.a).contains r.a):=by
 induction l with
 |nil=>simp[fX]
 |cons x l ih=>
  simp only[List.cons_append,fX,ih,List.map_append,List.map_cons,List.map_nil,List.contains_append,List.contains_cons,List.contains_nil,Bool.or_false];rw[show(x.a==r.a)=(r.a==x.a)from Bool.beq_comm];grind
def dO :aG:=[114,101,108,101,97,115,101,100]
def eG :aG:=[99,104,97,105,110,101,100]
def dU :aG:=[97,112,112,114,111,118,101,100]
def fN :aG:=[114,101,98,117,105,108,116]
def gK :aG:=[108,105,115,116,101,100]
def kH :aG:=[99,108,101,97,110]
def lO :aG:=[102,114,101,115,104]
def jF :aG:=[115,101,116,116,108,101,100]
def pB :aG:=[97,108,108]
def pC :aG:=[97,110,121]
def dD :aG:=[97,116,108,101,97,115,116]
def wEnd :aG:=[101,110,100]
def wPolicy :aG:=[112,111,108,105,99,121]
def wRule :aG:=[114,117,108,101]
def wlR (q:Rq):List aG:=
 if q.k=1 then [dO,numW q.n]else if q.k=2 then [eG,q.t]else if q.k=3 then [dU,numW q.n]
 else if q.k=4 then [fN,numW q.n,numW q.m]else if q.k=5 then [gK,numW q.n]else if q.k=6 then [kH,numW q.n]
 else if q.k=7 then [lO,numW q.n]else [jF]
def wlN (n:Nd):List aG:=if n.k=2 then [pB]else if n.k=3 then [pC]else [dD,numW n.n]
def dR :Nat→Nat→List Nd→List (List aG)
 |0,_,_=>[]
 |_+1,0,_=>[]
 |_+1,_+1,[]=>[]
 |f+1,m+1,n::l=>if n.k=1 then wlR n.q::dR f m l else wlN n::(dR f n.c.toNat l++([wEnd]::dR f m ((skip n.c.toNat l).getD [])))
variable {m:Nat}{l:List Nd}
theorem qI {r:List Nd}(h:skip m l=some r):r.length≤l.length:=by
 obtain⟨j,h1,rfl,_,_⟩:=gN l m r h;grind
theorem fD : ∀(f:Nat) (m:Nat) (l r:List Nd),l.length<f→skip m l=some r→(∀n∈l,bL n=true)→ ∀g,f≤g→dR g m l=dR f m l
 |0,_,_,_,h,_,_,_,_=>by omega
 |f+1,0,l,r,_,_,_,g,hg=>by obtain⟨q,rfl⟩: ∃q,g=q+1:=⟨g-1,by omega⟩;cases l<;>rfl
 |f+1,m+1,[],r,_,h,_,_,_=>by cases h
 |f+1,m+1,n::l,r,hf,h,hn,g,hg=>by
  obtain⟨q,rfl⟩: ∃q,g=q+1:=⟨g-1,by omega⟩;have h':skip (m+n.c.toNat) l=some r:=h;have hn': ∀x∈l,bL x=true:=fun x hx=>hn x (List.mem_cons_of_mem _ hx);have hl:l.length<f:=by simpa using hf
  obtain⟨c1,c2,c3,c4⟩:=cI (hn n List.mem_cons_self);simp only[dR];split
  · rename_i hk;rw[c3 hk]at h';rw[fD f m l r hl (by grind) hn' q (by omega)]
  ·
   rw[Nat.add_comm,eD]at h';cases hs:skip n.c.toNat l with
   |none=>grind
   |some r1=>
    rw[hs]at h';have h2:skip m r1=some r:=h';have hr1:=qI hs;obtain⟨j,_,hj,_,_⟩:=gN l _ _ hs;rw[fD f _ l r1 hl hs hn' q (by omega),Option.getD_some,fD f m r1 r (by omega) h2 (fun x hx=>hn' x (by grind)) q (by omega)]
theorem nC : ∀(f:Nat) (a b:Nat) (l r:List Nd),l.length<f→skip a l=some r→(∀n∈l,bL n=true)→ ∀s,skip b r=some s→dR f (a+b) l=dR f a l++dR f b r
 |0,_,_,_,_,h,_,_,_,_=>by omega
 |f+1,0,b,l,r,_,h,_,_,_=>by simp_all[cF,Nat.zero_add,dR]
 |f+1,a+1,b,[],r,_,h,_,_,_=>by cases h
 |f+1,a+1,b,n::l,r,hf,h,hn,s,hs=>by
  have h':skip (a+n.c.toNat) l=some r:=h;have hn': ∀x∈l,bL x=true:=fun x hx=>hn x (List.mem_cons_of_mem _ hx);have hl:l.length<f:=by simpa using hf
  obtain⟨c1,c2,c3,c4⟩:=cI (hn n List.mem_cons_self);have hrl:=qI h';have hrn: ∀x∈r,bL x=true:=fun x hx=>by grind[gN,List.mem_of_mem_drop]
  have hfb:dR (f+1) b r=dR f b r:=fD f b r s (by omega) hs hrn (f+1) (by omega);rw[show a+1+b=a+b+1 from by omega,hfb];simp only[dR];split
  · rename_i hk;rw[c3 hk]at h';rw[nC f a b l r hl (by grind) hn' s hs];rfl
  ·
   rw[Nat.add_comm,eD]at h';cases hs1:skip n.c.toNat l with
   |none=>grind
   |some r1=>
    rw[hs1]at h';have h2:skip a r1=some r:=h';have hr1:=qI hs1;obtain⟨j,_,hj,_,_⟩:=gN l _ _ hs1;rw[Option.getD_some,nC f a b r1 r (by omega) h2 (fun x hx=>hn' x (by rw[hj]at hx;exact List.mem_of_mem_drop hx)) s hs];simp
def aQ9 (t:List Nd):List (List aG):=dR (t.length+1) 1 t
def jG (r:Pr):List (List aG):=[wRule,r.a,r.b,r.c,numW r.g]::aQ9 r.t
def pD (p:Po):List (List aG):=[wPolicy,p.n,numW p.v]::p.r.flatMap jG
def rW (p:Po):aG:=if fC p then pW (pD p)else []
def xH (p:Po):Int:=if fC p then lF (pD p)else 1
def jH (l:List Nd)(i:Nat):List (List aG):=dR (l.length+1) 1 (l.drop i)
variable {i:Nat}
theorem wC (hi:i<l.length)(hk:l[i].k=1):jH l i=[wlR l[i].q]:=by
 unfold jH;rw[List.drop_eq_getElem_cons hi,dR,if_pos hk];cases l.length<;>simp[dR]
def dY (l:List Nd)(i k:Nat):List (List aG):=dR (l.length+1) k (l.drop (i+1))
theorem lP (l:List Nd)(i:Nat):dY l i 0=[]:=by unfold dY;cases l.drop (i+1)<;>rfl
theorem tF (ht:IsTree l)(hi:i<l.length)(hk:l[i].k≠1):jH l i=wlN l[i]::(dY l i l[i].c.toNat++[[wEnd]]):=by
 have ha:=(iH ht hi).2.2;rw[List.drop_eq_getElem_cons hi]at ha;have ha':skip (0+l[i].c.toNat) (l.drop (i+1))=some (l.drop (aft l i)):=ha;rw[Nat.zero_add]at ha';have hn': ∀x∈l.drop (i+1),bL x=true:=fun x hx=>ht.node x (List.mem_of_mem_drop hx);unfold jH dY;rw[List.drop_eq_getElem_cons hi];simp only[dR];rw[if_neg hk,ha',fD l.length _ _ _ (by grind) ha' hn' (l.length+1) (by omega)];have: ∀f (x:List Nd),dR f 0 x=[]:=fun f x=>by cases f<;>cases x<;>rfl
 grind
theorem qJ (ht:IsTree l)(hi:i<l.length)(hk:k<l[i].c.toNat):dY l i (k+1)=dY l i k++jH l (cK l k (i+1)):=by
 have key: ∀k,k≤l[i].c.toNat→skip k (l.drop (i+1))=some (l.drop (cK l k (i+1))):=by
  intro k;induction k with
  |zero=>intro _;rw[cF];rfl
  |succ k ih=>
   grind[eD,cL,iH,gZ]
 unfold dY jH;exact nC _ k 1 _ _ (by grind) (key k (by omega)) (fun x hx=>ht.node x (List.mem_of_mem_drop hx)) _ (iH ht (gZ ht hi hk)).2.2
def eY (w:List aG):Option Rq:=
 if w.length=2∧wd w 0=dO then(bH (wd w 1)).map (⟨1,·,0,[]⟩)
 else if w.length=2∧wd w 0=eG then some ⟨2,0,0,wd w 1⟩
 else if w.length=2∧wd w 0=dU then(bH (wd w 1)).map (⟨3,·,0,[]⟩)
 else if w.length=3∧wd w 0=fN then match bH (wd w 1),bH (wd w 2)with|some n,some m=>some ⟨4,n,m,[]⟩|_,_=>none
 else if w.length=2∧wd w 0=gK then(bH (wd w 1)).map (⟨5,·,0,[]⟩)
 else if w.length=2∧wd w 0=kH then(bH (wd w 1)).map (⟨6,·,0,[]⟩)
 else if w.length=2∧wd w 0=lO then(bH (wd w 1)).map (⟨7,·,0,[]⟩)
 else if w.length=1∧wd w 0=jF then some ⟨8,0,0,[]⟩else none
def jI (w:List aG):Option Nd:=
 if w.length=1∧wd w 0=pB then some ⟨2,0,0,rq0⟩else if w.length=1∧wd w 0=pC then some ⟨3,0,0,rq0⟩
 else if w.length=2∧wd w 0=dD then(bH (wd w 1)).map (⟨4,·,0,rq0⟩)else none
def iB (w:List aG):Bool:=w.length==1&&wd w 0==wEnd
mutual
def rdN :Nat→List (List aG)→Option (List Nd)×List (List aG)
 |0,ls=>(none,ls)
 |_+1,[]=>(none,[])
 |f+1,w::r=>match eY w with
  |some q=>(some [⟨1,0,0,q⟩],r)
  |none=>match jI w with
   |none=>(none,w::r)
   |some n=>match rdK f r with
    |(none,r')=>(none,r')
    |(some (ts,c),r')=>(some ({n with c:=c}::ts),r')
def rdK :Nat→List (List aG)→Option (List Nd×Int)×List (List aG)
 |0,ls=>(none,ls)
 |f+1,ls=>if iB (ls.headD [])then(some ([],0),ls.tail)else match rdN f ls with
  |(none,r)=>(none,r)
  |(some t,r)=>match rdK f r with
   |(none,r')=>(none,r')
   |(some (ts,c),r')=>(some (t++ts,c+1),r')
end
def rdT (ls:List (List aG)):Option (List Nd)×List (List aG):=rdN (2*ls.length+2) ls
def rdR (ls:List (List aG)):Option Pr×List (List aG):=match ls with
 |[]=>(none,[])
 |w::r=>if w.length=5∧wd w 0=wRule then match bH (wd w 4)with
   |none=>(none,w::r)
   |some g=>match rdT r with|(none,r')=>(none,r')|(some t,r')=>(some ⟨wd w 1,wd w 2,wd w 3,g,t⟩,r')
  else(none,w::r)
def kI :Nat→List (List aG)→List Pr→Option (List Pr)×List (List aG)
 |0,ls,_=>(none,ls)
 |f+1,ls,a=>if ls=[]then(some a,[])else match rdR ls with
  |(none,r)=>(none,r)
  |(some x,r)=>kI f r (a++[x])
def rdP (ls:List (List aG)):Option Po×List (List aG):=match ls with
 |[]=>(none,[])
 |w::r=>if w.length=3∧wd w 0=wPolicy then match bH (wd w 2)with
   |none=>(none,w::r)
   |some v=>match kI (r.length+1) r []with|(none,r')=>(none,r')|(some l,r')=>(some ⟨wd w 1,v,l⟩,r')
  else(none,w::r)
def dpE (b:aG):Int:=if iG b≠0 then iG b else match(rdP (fE b)).1 with|none=>2|some p=>if fC p then 0 else 1
def dpL (b:aG):Nat:=if iG b≠0 then 0 else match rdP (fE b)with|(none,r)=>(fE b).length-r.length|(some _,_)=>0
def po0 :Po:=⟨[],0,[]⟩
def dpO (b:aG):Po:=if dpE b=0 then((rdP (fE b)).1).getD po0 else po0
theorem tG : ∀(a:aG) (c:UInt8) (n k:Nat),dC (a++[c]) n=some k→ ∃k',dC a n=some k'∧mV c=true∧k=10*k'+(c.toNat-48)
 |[],c,n,k,h=>by
  simp only[List.nil_append,dC]at h;split at h
  · rename_i hc;cases h;exact⟨n,rfl,hc,rfl⟩
  · cases h
 |b::a,c,n,k,h=>by
  simp only[List.cons_append,dC]at h⊢;split at h
  · rename_i hb;rw[if_pos hb];exact tG a c _ k h
  · cases h
theorem aV6 : ∀(m:Nat) (s:aG) (k:Nat),s.length≤m→s≠[]→(1<s.length→s.head? ≠some 48)→dC s 0=some k→Lib.decDigits k=s
 |0,s,_,hm,h0,_,_=>absurd (List.eq_nil_of_length_eq_zero (by omega)) h0
 |m+1,s,k,hm,h0,h1,h=>by
  obtain⟨a,c,rfl⟩: ∃a c,s=a++[c]:=⟨s.dropLast,s.getLast h0,(List.dropLast_concat_getLast h0).symm⟩;obtain⟨k',hk',hc,rfl⟩:=tG a c 0 k h;simp only[mV,Bool.and_eq_true,decide_eq_true_eq]at hc;have hcc:UInt8.ofNat (48+(c.toNat-48))=c:=by
   refine UInt8.toNat_inj.1 ?_;rw[UInt8.toNat_ofNat'];omega
  by_cases ha:a=[]
  · subst ha;simp only[dC,Option.some.injEq]at hk';subst hk';rw[Lib.decDigits_one (by omega)];grind
  ·
   have hlen:1<(a++[c]).length:=by
    have:=List.length_pos_iff.2 ha;simp;omega
   have hh:(a++[c]).head? =a.head? :=by
    cases a with
    |nil=>grind
    |cons x a=>rfl
   have ih:=aV6 m a k' (by grind) ha (fun _=>by grind) hk';have hk0:k'≠0:=by
    rintro rfl;rw[Lib.decDigits_one (by omega)]at ih;have:=h1 hlen;rw[hh,←ih]at this;exact this rfl
   rw[Lib.decDigits,dif_neg (by omega),show(10*k'+(c.toNat-48))/10=k' from by omega,ih,show 48+(10*k'+(c.toNat-48))%10=48+(c.toNat-48)from by omega,hcc]
theorem kT {s:aG}(h:bH s=some n):numW n=s:=by
 have hr:=aQ3 h;unfold bH at h;split at h
 · cases h
 ·
  rename_i hb;have hb':gH s=false:=by simpa using hb
  simp only[gH,Bool.or_eq_false_iff,decide_eq_false_iff_not,Bool.and_eq_false_iff,beq_eq_false_iff_ne]at hb';split at h
  ·
   rename_i k hk;split at h
   · cases h
   · cases h;rw[aJ7 hr.1];refine aV6 s.length s _ (Nat.le_refl _) (fun e=>by grind) (fun hl=>?_) (by grind);grind[List.head?_eq_getElem?]
  grind
variable {w:List aG}
theorem bU2 (h:w.length=1):w=[wd w 0]:=by
 match w,h with
 |[a],_=>rfl
theorem cB5 (h:w.length=2):w=[wd w 0,wd w 1]:=by
 match w,h with
 |[a,b],_=>rfl
theorem cG7 (h:w.length=3):w=[wd w 0,wd w 1,wd w 2]:=by
 match w,h with
 |[a,b,c],_=>rfl
theorem cK0 (h:w.length=5):w=[wd w 0,wd w 1,wd w 2,wd w 3,wd w 4]:=by
 match w,h with
 |[a,b,c,d,e],_=>rfl
variable {q:Rq}
theorem bK4 (h:eY w=some q):wlR q=w:=by
 have num: ∀{k:Int} {nm:aG},(∀n:Int,wlR ⟨k,n,0,[]⟩=[nm,numW n])→w.length=2∧wd w 0=nm→(bH (wd w 1)).map (⟨k,·,0,[]⟩)=some q→wlR q=w:=by
  intro k nm h1 h2 h3;cases hv:bH (wd w 1)with
  |none=>grind
  |some n=>
   grind[kT,cB5]
 unfold eY at h;split at h
 · rename_i h1;exact num (fun n=>rfl) h1 h
 split at h
 · rename_i h1;cases h;rw[cB5 h1.1,h1.2];rfl
 split at h
 · rename_i h1;exact num (fun n=>rfl) h1 h
 split at h
 ·
  rename_i h1;split at h
  · rename_i n m hn hm;cases h;show [fN,numW n,numW m]=w;grind[kT,cG7]
  grind
 split at h
 · rename_i h1;exact num (fun n=>rfl) h1 h
 split at h
 · rename_i h1;exact num (fun n=>rfl) h1 h
 split at h
 · rename_i h1;exact num (fun n=>rfl) h1 h
 split at h
 · rename_i h1;cases h;rw[bU2 h1.1,h1.2];rfl
 grind
theorem bK5 {n:Nd}(h:jI w=some n)(c:Int):wlN {n with c:=c}=w∧n.k≠1:=by
 unfold jI at h;split at h
 · rename_i h1;cases h;exact⟨by rw[bU2 h1.1,h1.2];rfl,by decide⟩
 split at h
 · rename_i h1;cases h;exact⟨by rw[bU2 h1.1,h1.2];rfl,by decide⟩
 split at h
 ·
  rename_i h1;cases hv:bH (wd w 1)with
  |none=>grind
  |some m=>
   rw[hv]at h;cases h;refine⟨?_,by grind⟩;show [dD,numW m]=w;grind[kT,cB5]
 grind
theorem jW : ∀(t x r:List Nd) (m:Nat),skip m t=some r→skip m (t++x)=some (r++x)
 |t,x,r,0,h=>by grind[cF]
 |[],x,r,m+1,h=>by cases h
 |n::t,x,r,m+1,h=>by
  have h':skip (m+n.c.toNat) t=some r:=h;exact jW t x r _ h'
theorem gB : ∀(f m:Nat) (t x r:List Nd),(t++x).length<f→skip m t=some r→(∀n∈t,bL n=true)→dR f m (t++x)=dR f m t
 |0,_,_,_,_,h,_,_=>by omega
 |f+1,0,t,x,r,_,_,_=>by cases t<;>cases x<;>rfl
 |f+1,m+1,[],x,r,_,h,_=>by cases h
 |f+1,m+1,n::t,x,r,hf,h,hn=>by
  have h':skip (m+n.c.toNat) t=some r:=h;have hn': ∀y∈t,bL y=true:=fun y hy=>hn y (List.mem_cons_of_mem _ hy);have hl:(t++x).length<f:=by simpa using hf
  obtain⟨c1,c2,c3,c4⟩:=cI (hn n List.mem_cons_self);simp only[List.cons_append,dR];split
  · rename_i hk;rw[c3 hk]at h';rw[gB f m t x r hl (by grind) hn']
  ·
   rw[Nat.add_comm,eD]at h';cases hs:skip n.c.toNat t with
   |none=>grind
   |some r1=>
    rw[hs]at h';have h2:skip m r1=some r:=h';obtain⟨j,_,hj,_,_⟩:=gN t _ _ hs;have hr1:=qI hs;rw[gB f _ t x r1 hl hs hn',jW t x r1 _ hs,Option.getD_some,Option.getD_some,
     gB f m r1 x r (by grind) h2 (fun y hy=>hn' y (by grind))]
theorem zA (h:iB w=true):w=[wEnd]:=by
 unfold iB at h;simp only[Bool.and_eq_true,beq_iff_eq]at h;rw[bU2 h.1,h.2]
theorem bK6 : ∀(f:Nat),(∀ls t r,rdN f ls=(some t,r)→(∀n∈t,bL n=true)→skip 1 t=some []∧ls=dR (t.length+1) 1 t++r)∧
  (∀ls ts c r,rdK f ls=(some (ts,c),r)→(∀n∈ts,bL n=true)→0≤c∧skip c.toNat ts=some []∧ls=dR (ts.length+1) c.toNat ts++([wEnd]::r))
 |0=>⟨fun ls t r h _=>(by grind[rdN]),fun ls ts c r h _=>(by grind[rdK])⟩
 |f+1=>by
  obtain⟨ihN,ihK⟩:=bK6 f;have z0: ∀f (x:List Nd),dR f 0 x=[]:=fun f x=>by cases f<;>cases x<;>rfl
  refine⟨fun ls t r h hn=>?_,fun ls ts c r h hn=>?_⟩
  ·
   cases ls with
   |nil=>grind[rdN]
   |cons w rest=>
    simp only[rdN]at h;split at h
    · rename_i q hq;cases h;refine⟨rfl,?_⟩;simp only[List.length_singleton,dR];rw[if_pos trivial,bK4 hq];grind
    ·
     split at h
     · cases h
     ·
      rename_i n hin;cases hk:rdK f rest with
      |mk o r'=>
       rw[hk]at h;cases o with
       |none=>cases h
       |some p=>
        obtain⟨ts,c⟩:=p;simp only[Prod.mk.injEq,Option.some.injEq]at h;obtain⟨rfl,rfl⟩:=h;obtain⟨g1,g2,g3⟩:=ihK _ _ _ _ hk fun x hx=>hn x (List.mem_cons_of_mem _ hx);obtain⟨e1,e2⟩:=bK5 hin c;refine⟨?_,?_⟩
        · show skip (0+c.toNat) ts=some [];rw[Nat.zero_add];exact g2
        · simp only[List.length_cons,dR];rw[if_neg e2,e1,g3];simp[z0]
  ·
   simp only[rdK]at h;split at h
   ·
    rename_i he;cases h;cases ls with
    |nil=>simp[iB]at he
    |cons w rest=>
     have:=zA he;simp only[List.headD_cons]at this;subst this;exact⟨by omega,rfl,rfl⟩
   ·
    cases h1:rdN f ls with
    |mk o r1=>
     rw[h1]at h;cases o with
     |none=>cases h
     |some t=>
      simp only at h;cases h2:rdK f r1 with
      |mk o2 r2=>
       rw[h2]at h;cases o2 with
       |none=>cases h
       |some p=>
        obtain⟨ts2,c2⟩:=p;simp only[Prod.mk.injEq,Option.some.injEq]at h;obtain⟨⟨rfl,rfl⟩,rfl⟩:=h;obtain⟨a1,a2⟩:=ihN _ _ _ h1 fun x hx=>hn x (List.mem_append_left _ hx);have hn2: ∀n∈ts2,bL n=true:=fun x hx=>hn x (List.mem_append_right _ hx);obtain⟨b1,b2,b3⟩:=ihK _ _ _ _ h2 hn2;have e:(c2+1).toNat=1+c2.toNat:=by omega
        have s1:=jW t ts2 [] 1 a1;rw[List.nil_append]at s1;refine⟨by omega,?_,?_⟩
        · rw[e,eD,s1];exact b2
        ·
         rw[a2,b3,e,nC ((t++ts2).length+1) 1 c2.toNat (t++ts2) ts2 (Nat.lt_succ_self _) s1 hn _ b2,
          gB _ 1 t ts2 [] (Nat.lt_succ_self _) a1 (fun x hx=>hn x (List.mem_append_left _ hx)),
          fD (t.length+1) 1 t [] (by omega) a1 (fun x hx=>hn x (List.mem_append_left _ hx)) ((t++ts2).length+1) (by simp),
          fD (ts2.length+1) _ ts2 [] (by omega) b2 hn2 ((t++ts2).length+1) (by simp)]
         simp
variable {r:List (List aG)}
theorem bU3 {x:Pr}(h:rdR ls=(some x,r))(hv:cT x.t=true):ls=jG x++r∧r.length<ls.length:=by
 cases ls with
 |nil=>grind[rdR]
 |cons w rest=>
  simp only[rdR]at h;split at h
  ·
   rename_i h1;split at h
   · cases h
   ·
    rename_i g hg;cases ht:rdT rest with
    |mk o r'=>
     rw[ht]at h;cases o with
     |none=>cases h
     |some t=>
      simp only[Prod.mk.injEq,Option.some.injEq]at h;obtain⟨rfl,rfl⟩:=h;obtain⟨-,g2⟩:=(bK6 _).1 _ _ _ ht (fK hv).node;have hw:=cK0 h1.1;rw[h1.2]at hw;refine⟨?_,?_⟩
      · show w::rest=([wRule,wd w 1,wd w 2,wd w 3,numW g]::aQ9 t)++r';rw[kT hg,←hw,g2];rfl
      grind
  grind
theorem aJ9 : ∀(f:Nat) (ls:List (List aG)) (a l:List Pr) (r:List (List aG)),kI f ls a=(some l,r)→(∀x∈l,cT x.t=true)→ ∃m,l=a++m∧ls=m.flatMap jG∧r=[]
 |0,ls,a,l,r,h,_=>by grind[kI]
 |f+1,ls,a,l,r,h,hv=>by
  simp only[kI]at h;split at h
  · simp_all
  ·
   cases hr:rdR ls with
   |mk o r1=>
    rw[hr]at h;cases o with
    |none=>cases h
    |some x=>
     obtain⟨m,rfl,hm,hr0⟩:=aJ9 f r1 (a++[x]) l r h hv;obtain⟨g1,g2⟩:=bU3 hr (hv x (by simp));grind
variable {p:Po}
theorem bU4 (h:rdP ls=(some p,r))(hv:fC p=true):ls=pD p:=by
 have ht: ∀x∈p.r,cT x.t=true:=fun x hx=>by simp_all[fC,Bool.and_eq_true,List.all_eq_true,iL]
 cases ls with
 |nil=>grind[rdP]
 |cons w rest=>
  simp only[rdP]at h;split at h
  ·
   rename_i h1;split at h
   · cases h
   ·
    rename_i v hg;cases hr:kI (rest.length+1) rest []with
    |mk o r'=>
     rw[hr]at h;cases o with
     |none=>cases h
     |some l=>
      simp only[Prod.mk.injEq,Option.some.injEq]at h;obtain⟨rfl,rfl⟩:=h;obtain⟨m,rfl,hm,-⟩:=aJ9 _ _ _ _ _ hr ht;have hw:=cG7 h1.1;rw[h1.2]at hw;show w::rest=[wPolicy,wd w 1,numW v]::_;rw[kT hg,←hw,hm]
  grind
variable {b:aG}
theorem bK7 (h:iG b=0):lF (fE b)=0∧pW (fE b)=b:=by
 have hO:fE b=(fV b).getD []:=by unfold fE;grind
 unfold iG at h;split at h
 · cases h
 ·
  rename_i hb;cases hv:fV b with
  |none=>grind
  |some ls=>
   rw[hv]at h hO;simp only at h;split at h
   · cases h
   ·
    rename_i hl;rw[hO,Option.getD_some];by_cases hne:b=[]
    · grind[fV,lF,gO,pW]
    ·
     have hlast: ∃m,b=m++[10]:=by
      unfold fV at hv;rw[if_neg hne]at hv;split at hv
      · grind[mX]
      · grind
     obtain⟨m,rfl⟩:=hlast;rw[yZ]at hv;cases hu:(aR 10 m).mapM unL with
     |none=>grind[xG]
     |some ls'=>
      rw[bJ7 hu]at hv;split at hv
      ·
       rename_i hall;cases hv;have hd:=bB4 hu;have hE:lF ls=0:=by simp_all[aU0,List.all_eq_true,if_neg]
       grind[aB2]
      grind
theorem cB6 (h0:iG b=0)(h:rdP (fE b)=(some p,r)):(xH p=0∧rW p=b)↔fC p=true:=by
 constructor
 · grind[xH]
 · intro hv;have hl:=bU4 h hv;obtain⟨e1,e2⟩:=bK7 h0;simp_all[xH,rW,if_pos]
theorem oA {a b:Int}:inB n a b=true↔a≤n∧n≤b:=by unfold inB;simp
theorem bK8 (h:dB q=true):eY (wlR q)=some q:=by
 obtain⟨k,n,m,t⟩:=q;have hv: ∀{a b:Int},inB n a b=true→0≤a→b≤1099511627776→bH (numW n)=some n:=fun h h1 h2=>by grind[oA,kS]
 unfold dB at h;simp only at h;split at h
 ·
  rename_i h1;simp only[Bool.and_eq_true,beq_iff_eq]at h;obtain⟨h2,rfl,rfl⟩:=h;have hn:=hv h2 (by omega) (by omega);rcases h1 with rfl|rfl|rfl
  · show(bH (numW n)).map _=_;grind
  · show(bH (numW n)).map _=_;grind
  · show(bH (numW n)).map _=_;grind
 split at h
 · rename_i h1;subst h1;simp only[Bool.and_eq_true,beq_iff_eq]at h;obtain⟨h2,h3,rfl⟩:=h;have hn:=hv h2 (by omega) (by omega);rw[oA]at h3;have hm:bH (numW m)=some m:=kS (by omega) (by omega);show(match bH (numW n),bH (numW m)with|some n,some m=>some (⟨4,n,m,[]⟩:Rq)|_,_=>none)=_;grind
 split at h
 · rename_i h1;subst h1;simp only[Bool.and_eq_true,beq_iff_eq]at h;obtain⟨-,rfl,rfl⟩:=h;rfl
 split at h
 · rename_i h1;subst h1;simp only[Bool.and_eq_true,beq_iff_eq]at h;obtain⟨h2,rfl,rfl⟩:=h;have hn:=hv h2 (by omega) (by omega);show(bH (numW n)).map _=_;grind
 split at h
 · rename_i h1;subst h1;simp only[Bool.and_eq_true,beq_iff_eq]at h;obtain⟨h2,rfl,rfl⟩:=h;have hn:=hv h2 (by omega) (by rw[gJ];omega);show(bH (numW n)).map _=_;grind
 split at h
 · rename_i h1;subst h1;simp only[Bool.and_eq_true,beq_iff_eq]at h;obtain⟨rfl,rfl,rfl⟩:=h;rfl
 grind
theorem bK9 {n:Nd}(h:bL n=true)(hk:n.k≠1):jI (wlN n)=some {n with c:=0}∧eY (wlN n)=none:=by
 obtain⟨k,a,c,q⟩:=n;unfold bL at h;simp only at h hk;rw[if_neg hk]at h;split at h
 · rename_i h1;simp only[Bool.and_eq_true,beq_iff_eq,vA]at h;obtain⟨-,rfl,rfl⟩:=h;rcases h1 with rfl|rfl<;>exact⟨rfl,rfl⟩
 split at h
 · rename_i h1;subst h1;simp only[Bool.and_eq_true,vA,oA]at h;obtain⟨⟨c1,c2⟩,rfl,a1,a2⟩:=h;refine⟨?_,rfl⟩;show(bH (numW a)).map _=_;grind[kS]
 grind
theorem wD {r:List Nd}(h:skip m l=some r): ∃t,l=t++r∧skip m t=some []:=by
 induction l generalizing m with
 |nil=>
  cases m with
  |zero=>rw[cF]at h;cases h;exact⟨[],rfl,rfl⟩
  |succ m=>cases h
 |cons n l ih=>
  cases m with
  |zero=>rw[cF]at h;cases h;exact⟨[],rfl,rfl⟩
  |succ m=>
   obtain⟨t,h1,h2⟩:=ih (m:=m+n.c.toNat) h;exact⟨n::t,by rw[h1];rfl,h2⟩
theorem aR0 {n:Nd}(h:bL n=true)(hk:n.k≠1):iB (wlN n)=false:=by
 unfold wlN;split
 · rfl
 ·
  split
  · rfl
  · rfl
theorem aR1 (q:Rq):iB (wlR q)=false:=by
 unfold wlR
 repeat' split
 all_goals rfl
theorem bL0 : ∀(f:Nat),(∀t rest,skip 1 t=some []→(∀n∈t,bL n=true)→2*t.length≤f→rdN f (dR (t.length+1) 1 t++rest)=(some t,rest))∧
  (∀ts c rest,skip c ts=some []→(∀n∈ts,bL n=true)→2*ts.length+1≤f→rdK f (dR (ts.length+1) c ts++([wEnd]::rest))=(some (ts,(c:Int)),rest))
 |0=>⟨fun t rest h _ hf=>(by
   have:t=[]:=List.eq_nil_of_length_eq_zero (by omega);subst this;cases h),fun ts c rest _ _ hf=>by omega⟩
 |f+1=>by
  obtain⟨ihN,ihK⟩:=bL0 f;have z0: ∀f (x:List Nd),dR f 0 x=[]:=fun f x=>by cases f<;>cases x<;>rfl
  refine⟨fun t rest h hn hf=>?_,fun ts c rest h hn hf=>?_⟩
  ·
   cases t with
   |nil=>cases h
   |cons n ts=>
    have hnn:=hn n List.mem_cons_self;have hn': ∀x∈ts,bL x=true:=fun x hx=>hn x (List.mem_cons_of_mem _ hx);have h':skip (0+n.c.toNat) ts=some []:=h;rw[Nat.zero_add]at h';obtain⟨c1,c2,c3,c4⟩:=cI hnn;simp only[List.length_cons,dR];by_cases hk:n.k=1
    ·
     rw[if_pos hk];rw[c3 hk]at h';have:ts=[]:=by
      cases ts with
      |nil=>rfl
      |cons a b=>grind[skip,cF]
     subst this;have hq:dB n.q=true∧n.n=0:=by
      unfold bL at hnn;rw[if_pos hk]at hnn;simp only[Bool.and_eq_true,beq_iff_eq]at hnn;exact⟨hnn.2.2,hnn.2.1⟩
     simp only[List.cons_append,List.nil_append,rdN,bK8 hq.1];obtain⟨k,a,c,q⟩:=n;simp only at hk hq c3;rw[hk,hq.2,c3 hk]
    ·
     rw[if_neg hk];obtain⟨e1,e2⟩:=bK9 hnn hk;have:=ihK ts n.c.toNat rest h' hn' (by grind);simp only[List.cons_append,List.append_assoc,List.nil_append,rdN,e2,e1,this];have:((n.c.toNat:Nat):Int)=n.c:=by omega
     rw[this]
  ·
   cases c with
   |zero=>
    rw[cF]at h;cases h;rw[z0];simp only[List.nil_append,rdK,List.headD_cons,show iB [wEnd]=true from rfl,if_true,List.tail_cons];rfl
   |succ c=>
    rw[Nat.add_comm,eD]at h;cases h1:skip 1 ts with
    |none=>grind
    |some r=>
     rw[h1]at h;have h2:skip c r=some []:=h;obtain⟨t,rfl,ht⟩:=wD h1;have hnt: ∀x∈t,bL x=true:=fun x hx=>hn x (List.mem_append_left _ hx);have hnr: ∀x∈r,bL x=true:=fun x hx=>hn x (List.mem_append_right _ hx);have ht1:1≤t.length:=by
      cases t with
      |nil=>cases ht
      |cons _ _=>simp
     simp only[List.length_append]at hf;have e:dR ((t++r).length+1) (c+1) (t++r)=dR (t.length+1) 1 t++dR (r.length+1) c r:=by
      rw[Nat.add_comm c 1,nC _ 1 c (t++r) r (Nat.lt_succ_self _) h1 hn _ h2,gB _ 1 t r [] (Nat.lt_succ_self _) ht hnt,
       fD (t.length+1) 1 t [] (by omega) ht hnt ((t++r).length+1) (by simp),fD (r.length+1) c r [] (by omega) h2 hnr ((t++r).length+1) (by simp)]
     rw[e,List.append_assoc];have a1:=ihN t (dR (r.length+1) c r++[wEnd]::rest) ht hnt (by omega);have a2:=ihK r c rest h2 hnr (by omega);have hne:iB ((dR (t.length+1) 1 t++(dR (r.length+1) c r++[wEnd]::rest)).headD [])=false:=by
      cases t with
      |nil=>cases ht
      |cons n t=>
       simp only[List.length_cons,dR];split
       · exact aR1 _
       · rename_i hk;exact aR0 (hnt n List.mem_cons_self) hk
     simp only[rdK];rw[hne];simp only[Bool.false_eq_true,if_false,a1,a2];have:((c:Nat):Int)+1=((c+1:Nat):Int):=by omega
     rw[this]
theorem tW : ∀(f m:Nat) (l:List Nd),l.length<f→skip m l=some []→(∀n∈l,bL n=true)→l.length≤(dR f m l).length
 |0,_,_,h,_,_=>by omega
 |f+1,m,[],_,_,_=>by simp
 |f+1,0,n::l,_,h,_=>by rw[cF]at h;cases h
 |f+1,m+1,n::l,hf,h,hn=>by
  have h':skip (m+n.c.toNat) l=some []:=h;have hn': ∀y∈l,bL y=true:=fun y hy=>hn y (List.mem_cons_of_mem _ hy);have hl:l.length<f:=by simpa using hf
  obtain⟨c1,c2,c3,c4⟩:=cI (hn n List.mem_cons_self);simp only[dR];split
  · rename_i hk;rw[c3 hk]at h';have:=tW f m l hl (by simpa using h') hn';simp only[List.length_cons];omega
  ·
   rw[Nat.add_comm,eD]at h';cases hs:skip n.c.toNat l with
   |none=>rw[hs]at h';cases h'
   |some r1=>
    rw[hs]at h';have h2:skip m r1=some []:=h';obtain⟨t,rfl,ht⟩:=wD hs;simp only[List.length_append]at hl;have hnt: ∀x∈t,bL x=true:=fun x hx=>hn' x (List.mem_append_left _ hx);have a1:=tW f _ t (by omega) ht hnt;have a2:=tW f m r1 (by omega) h2 (fun x hx=>hn' x (List.mem_append_right _ hx));rw[Option.getD_some,gB f _ t r1 [] (by simp;omega) ht hnt];simp only[List.length_cons,List.length_append];omega
variable {t:List Nd}
theorem bU5 (h:IsTree t)(rest:List (List aG)):rdT (aQ9 t++rest)=(some t,rest):=by
 have:=tW (t.length+1) 1 t (by omega) h.skip h.node;exact(bL0 _).1 t rest h.skip h.node (by simp only[aQ9,List.length_append];omega)
theorem nD {r:Pr}(h:iL r=true):(0≤r.g∧r.g≤1099511627776)∧IsTree r.t∧dL r.a=true∧(gP r.b).isSome=true∧(gP r.c).isSome=true:=by
 unfold iL at h;simp only[Bool.and_eq_true,oA]at h;obtain⟨h1,h2,h3,⟨h4,h5⟩,h6⟩:=h;rw[gJ]at h5;exact⟨⟨h4,h5⟩,fK h6,h1,h2,h3⟩
theorem bU6 {r:Pr}(h:iL r=true)(rest:List (List aG)):rdR (jG r++rest)=(some r,rest):=by
 obtain⟨⟨g0,g1⟩,ht,-⟩:=nD h;show rdR ([wRule,r.a,r.b,r.c,numW r.g]::(aQ9 r.t++rest))=_;unfold rdR;simp only;rw[if_pos ⟨rfl,rfl⟩];have:bH (wd [wRule,r.a,r.b,r.c,numW r.g] 4)=some r.g:=kS g0 g1;rw[this];simp only;rw[bU5 ht];rfl
theorem aK0 : ∀(l a:List Pr) (f:Nat),(∀r∈l,iL r=true)→l.length<f→kI f (l.flatMap jG) a=(some (a++l),[])
 |[],a,f,_,hf=>by
  obtain⟨g,rfl⟩: ∃g,f=g+1:=⟨f-1,by simp at hf;omega⟩;simp[kI]
 |r::l,a,f,h,hf=>by
  obtain⟨g,rfl⟩: ∃g,f=g+1:=⟨f-1,by simp at hf;omega⟩;simp only[List.flatMap_cons,kI];rw[if_neg (by simp[jG]),bU6 (h r List.mem_cons_self)];simp only;rw[aK0 l (a++[r]) g (fun x hx=>h x (List.mem_cons_of_mem _ hx)) (by simp at hf;omega)];simp
theorem aV7 : ∀l:List Pr,l.length≤(l.flatMap jG).length
 |[]=>by simp
 |r::l=>by have:=aV7 l;simp[jG]at this⊢;omega
theorem aC2 (h:fC p=true):(1≤p.v∧p.v≤1099511627776)∧p.r.length≤16∧dL p.n=true∧ ∀r∈p.r,iL r=true:=by
 unfold fC at h;simp only[Bool.and_eq_true,oA,decide_eq_true_eq,List.all_eq_true]at h;obtain⟨h1,⟨h2,h3⟩,h4,h5,-⟩:=h;rw[gJ]at h3;exact⟨⟨h2,h3⟩,h4,h1,h5⟩
theorem bU7 (h:fC p=true):rdP (pD p)=(some p,[]):=by
 obtain⟨⟨v0,v1⟩,-,-,hr⟩:=aC2 h;show rdP ([wPolicy,p.n,numW p.v]::p.r.flatMap jG)=_;unfold rdP;simp only;rw[if_pos ⟨rfl,rfl⟩];have:bH (wd [wPolicy,p.n,numW p.v] 2)=some p.v:=kS (by omega) v1;rw[this];simp only;rw[aK0 p.r [] _ hr (by have:=aV7 p.r;omega)];rfl
theorem bB9 (h:xH p=0):dpE (rW p)=0∧dpO (rW p)=p∧dpL (rW p)=0:=by
 have hv:fC p=true:=by
  unfold xH at h;split at h
  · assumption
  · cases h
 have he:lF (pD p)=0:=by unfold xH at h;rw[if_pos hv]at h;exact h
 have hb:rW p=pW (pD p):=by unfold rW;rw[if_pos hv]
 obtain⟨h1,h2⟩:=bU1 he;have hr:=bU7 hv;rw[hb];have hE:dpE (pW (pD p))=0:=by unfold dpE;rw[if_neg (by rw[h1];simp),h2,hr];simp only;rw[if_pos hv]
 exact⟨hE,by unfold dpO;rw[if_pos hE,h2,hr];rfl,by unfold dpL;rw[if_neg (by rw[h1];simp),h2,hr]⟩
theorem aV8 : ∀(l:List Nd) (m:Nat) (v:Int),skip m l=some []→(∀n∈l,bL n=true)→pU l m v=some (0,v+lv l)
 |[],0,v,_,_=>by simp[pU,lv]
 |[],m+1,v,h,_=>by cases h
 |n::l,0,v,h,_=>by grind[cF]
 |n::l,m+1,v,h,hn=>by
  have h':skip (m+n.c.toNat) l=some []:=h;have hnn:=hn n List.mem_cons_self;obtain⟨c1,c2,c3,c4⟩:=cI hnn;have e:((m+1:Nat):Int)+(n.c-1)=((m+n.c.toNat:Nat):Int):=by omega
  rw[pU,if_neg (by omega),if_pos hnn,e,aV8 l _ _ h' (fun x hx=>hn x (List.mem_cons_of_mem _ hx)),lv];grind
theorem bL1 (h:IsTree l):cT l=true:=by
 unfold cT;have:=aV8 l 1 0 h.skip h.node;rw[show((1:Nat):Int)=1 from rfl]at this;rw[this];have:=h.lv;simp[h.ne,h.len];omega
def uni (l:List (Nat×Nat)):List (Nat×Nat):=l.eraseDups
def wE (f:Nat→List (Nat×Nat)):Nat→Nat→Nat×Nat→List (Nat×Nat)
 |0,_,p=>[p]
 |c+1,n,p=>uni ((f n).flatMap fun q=>wE f c (n+q.1) (p.1+q.1,p.2+q.2))
def pos :Nat→Nat→List (Nat×Nat)
 |0,_=>[(1,1)]
 |d+1,n=>uni ((1,1)::if n≤8 then(List.range 3).flatMap fun c=>wE (pos d) (c+1) (n+1) (1,0)else [])
theorem oB {l:List (Nat×Nat)}{p:Nat×Nat}:p∈uni l↔p∈l:=by unfold uni;simp_all
theorem zB {f:Nat→List (Nat×Nat)}: ∀{c n:Nat} {p q r:Nat×Nat},q∈wE f c n p→r∈f (n+(q.1-p.1))→p.1≤q.1→(q.1+r.1,q.2+r.2)∈wE f (c+1) n p
 |0,n,p,q,r,hq,hr,_=>by simp_all[wE,List.mem_singleton,Nat.sub_self,Nat.add_zero,oB,List.mem_flatMap]
 |c+1,n,p,q,r,hq,hr,hpq=>by
  unfold wE at hq⊢;rw[oB,List.mem_flatMap]at hq⊢;obtain⟨s,hs,hq⟩:=hq;have hle:p.1+s.1≤q.1:=by
   have key: ∀(c n:Nat) (p q:Nat×Nat),q∈wE f c n p→p.1≤q.1:=by
    intro c;induction c with
    |zero=>simp_all[wE,List.mem_singleton,Nat.le_refl]
    |succ c ih=>
     grind[wE,oB]
   exact key _ _ _ _ hq
  refine⟨s,hs,zB hq ?_ hle⟩;grind
structure Made (d n:Nat)(t:List Nd):Prop where
 skip:skip 1 t=some []
 node: ∀n∈t,bL n=true
 pos:(t.length,lv t)∈pos d n
theorem aV9 (h:Made 3 0 t):IsTree t:=by
 have hb: ∀p∈pos 3 0,1≤p.1∧p.1≤60∧p.2≤16:=by decide+kernel
 obtain⟨h1,h2,h3⟩:=hb _ h.pos;exact⟨h1,h2,h.skip,h.node,h3⟩
variable {d:Nat}
theorem zC {n:Nat}(h:dB q=true):Made d n [⟨1,0,0,q⟩]:=by
 refine⟨rfl,fun x hx=>?_,?_⟩
 · simp only[List.mem_singleton]at hx;subst hx;unfold bL;rw[if_pos rfl,h];rfl
 ·
  cases d with
  |zero=>simp[pos,lv]
  |succ d=>rw[pos,oB];exact List.mem_cons_self
structure MadeK (d n k:Nat)(ts:List Nd):Prop where
 skip:skip k ts=some []
 node: ∀n∈ts,bL n=true
 pos:(1+ts.length,lv ts)∈wE (pos d) k (n+1) (1,0)
theorem MadeK.zero (d n:Nat):MadeK d n 0 []:=⟨rfl,by simp,by simp[wE,lv]⟩
variable {ts:List Nd}
theorem MadeK.next {n:Nat}(h:MadeK d n k ts)(ht:Made d (n+1+ts.length) t):MadeK d n (k+1) (ts++t):=by
 refine⟨?_,fun x hx=>?_,?_⟩
 · rw[eD,jW ts t [] k h.skip];exact ht.skip
 ·
  rcases List.mem_append.1 hx with hx|hx
  · exact h.node x hx
  · exact ht.node x hx
 ·
  have:=zB (r:=(t.length,lv t)) h.pos (by
   rw[show n+1+(1+ts.length-1)=n+1+ts.length from by omega];exact ht.pos) (by simp)
  grind[rK,Nat.add_assoc]
theorem MadeK.fin {n:Nat}{x:Nd}{c:Nat}(h:MadeK d n c ts)(hn:n≤8)(hx:bL x=true)(hk:x.k≠1)(hc:x.c=c)(h1:1≤c)(h3:c≤3):Made (d+1) n (x::ts):=by
 refine⟨?_,fun y hy=>?_,?_⟩
 · show Pl.skip (0+x.c.toNat) ts=some [];rw[hc,Nat.zero_add];exact h.skip
 ·
  rcases List.mem_cons.1 hy with rfl|hy
  · grind
  · exact h.node y hy
 · rw[Pl.pos,oB];refine List.mem_cons_of_mem _ ?_;rw[if_pos hn,List.mem_flatMap];refine⟨c-1,List.mem_range.2 (by omega),?_⟩;rw[show c-1+1=c from by omega];have:=h.pos;simp_all[lv,if_neg,List.length_cons,Nat.add_comm]
structure Ms where
 n:aG
 v:Int
 r:List Pr
 o:List Nat
 d:Bool
theorem bL2 : ∀(f:Nat),(∀ls t r,rdN f ls=(some t,r)→r.length<ls.length)∧(∀ls p r,rdK f ls=(some p,r)→r.length<ls.length)
 |0=>⟨fun ls t r h=>(by simp only[rdN]at h;cases h),fun ls p r h=>(by simp only[rdK]at h;cases h)⟩
 |f+1=>by
  obtain⟨ihN,ihK⟩:=bL2 f;refine⟨fun ls t r h=>?_,fun ls p r h=>?_⟩
  ·
   cases ls with
   |nil=>simp only[rdN]at h;cases h
   |cons w rest=>
    simp only[rdN]at h;split at h
    · cases h;simp
    ·
     split at h
     · cases h
     ·
      cases hk:rdK f rest with
      |mk o r'=>
       rw[hk]at h;cases o with
       |none=>cases h
       |some p=>
        cases h;have:=ihK _ _ _ hk;simp only[List.length_cons];omega
  ·
   simp only[rdK]at h;split at h
   ·
    rename_i he;cases h;cases ls with
    |nil=>simp[iB]at he
    |cons w rest=>simp
   ·
    cases h1:rdN f ls with
    |mk o r1=>
     rw[h1]at h;cases o with
     |none=>cases h
     |some t=>
      simp only at h;cases h2:rdK f r1 with
      |mk o2 r2=>
       rw[h2]at h;cases o2 with
       |none=>cases h
       |some q=>
        cases h;have a:=ihN _ _ _ h1;have b:=ihK _ _ _ h2;omega
theorem innR_c {n:Nd}(h:jI w=some n):n.c=0∧iB w=false:=by
 refine⟨?_,?_⟩
 ·
  unfold jI at h;split at h
  · cases h;rfl
  split at h
  · cases h;rfl
  split at h
  ·
   cases hv:bH (wd w 1)with
   |none=>rw[hv]at h;cases h
   |some m=>rw[hv]at h;cases h;rfl
  · cases h
 ·
  cases he:iB w with
  |false=>rfl
  |true=>rw[zA he]at h;cases h
theorem wF {w:aG}(h:dL w=true):1≤w.length∧w.length≤64:=by
 cases w with
 |nil=>cases h
 |cons c r=>
  simp_all[dL,Bool.and_eq_true,decide_eq_true_eq]
def bL3 (p:Po):Prop:=fC p=true∧p.r.length≤2∧ ∀r∈p.r,r.b.length≤80∧r.c.length≤80∧r.t.length≤40
def zD (ns im:aG)(r:Pr):Bool:=lG r.b ns&&lG r.c im
def bL4 (p:Po)(ns im:aG):Int:=if fC p then match p.r.findIdx? (zD ns im)with|some i=>(i:Int)|none=> -1 else-1
theorem bL5 {ns im:aG}(hp:fC p=false):bL4 p ns im= -1:=by
 unfold bL4;rw[if_neg (by rw[hp];simp)]
def aK1 (n:Int):Nd:=⟨1,0,0,⟨1,n,0,[]⟩⟩
def awT :List Nd:=[⟨4,2,3,rq0⟩,aK1 1,aK1 2,aK1 3]
def awP :Po:=⟨[112],1,[⟨[114],[112,114,111,100,47,42,42],[42],5,awT⟩]⟩
theorem cB7 :cT awT=true:=by decide
theorem cB8 :fC awP=true:=by decide+kernel
theorem bL6 :oR awT [true,false,true]=true:=by decide
theorem bL7 :oR awT [true]=false:=by decide
theorem kU :(gI awT).length=3:=by decide
theorem qK :(lN awT 0).length=3:=by decide
theorem cB9 :bL4 awP [112,114,111,100,47,101,117] [119,101,98]=0:=by decide+kernel
theorem bEq {c d:UInt8}(h:((c.toNat:Int)==(d.toNat:Int))=true):c=d:=by
 have h1:=eq_of_beq h;exact UInt8.toNat_inj.1 (by omega)
theorem bNe {c d:UInt8}(h:((c.toNat:Int)==(d.toNat:Int))=false):c≠d:=by
 intro e;subst e;simp at h
variable {c:UInt8}
theorem aK2 {l:List UInt8}(h: ¬dH l c<0):c∈l:=by
 unfold dH at h;cases e:l.findIdx? (· ==c)with
 |none=>rw[e]at h;simp at h
 |some i=>
  obtain⟨hi,h1,_⟩:=List.findIdx?_eq_some_iff_getElem.1 e;have:=eq_of_beq h1;rw[←this];exact List.getElem_mem hi
theorem tH {l:List UInt8}(h:dH l c<0):c∉l:=by
 unfold dH at h;cases e:l.findIdx? (· ==c)with
 |none=>
  intro hc;have:=List.findIdx?_eq_none_iff.1 e c hc;simp at this
 |some i=>rw[e]at h;simp only at h;omega
theorem aK3 {p:aG}(h:p.length<1∨200<p.length):gP p=none:=by unfold gP;rw[if_pos h]
theorem aW0 {p:aG}(h1:1≤p.length)(h2:p.length≤200):gP p=patP p:=by unfold gP;rw[if_neg (by omega)]
end Go.Pl
namespace Go.Proofs.YtlldglbooaefhaaGreatDoor
open Go Go.Hl Go.Pl
set_option maxRecDepth 10000
set_option maxHeartbeats 16000000
theorem aK4 (p:aG):mR Tryz.prog 83 [.str p] (fun u v=>u= .slc (((gP p).getD []).map Pt.cv)∧v= .bool (gP p).isSome):=by
 refine FW Tryz.func83 ?_;refine R0 ?_;refine aC fun K hK=>?_;refine aC fun K hK=>Rg ?_;iterate 4 refine S0 ?_
 refine aE 8 rfl (fun h1_8=>?_) (fun h1_8=>?_)
 ·
  have F:=h1_8;iterate 9 refine SF ?_
  refine T2 (hK _ _ _ ?_);clear hK K;refine CT rfl ?_;refine R0 ?_;refine aF (RT Tryz.results83 ?_);have hn:gP p=none:=aK3 (by simp at h1_8;omega);refine bF [] (.slc []) (.bool false) ?_ ⟨by rw[hn];rfl,by rw[hn];rfl⟩;simp[HV.close,HV.closeL,CV.denil,CV.denilL,HV.norm,HV.toC,HV.toCL]
 have F:=h1_8;iterate 5 refine SF ?_
 refine aE 12 rfl (fun h1_12=>?_) (fun h1_12=>?_)
 ·
  have F:=aI h1_8 h1_12;iterate 4 refine SF ?_
  refine T2 (hK _ _ _ ?_);clear hK K;refine CT rfl ?_;refine R0 ?_;refine aF (RT Tryz.results83 ?_);have hn:gP p=none:=aK3 (by simp at h1_12;omega);refine bF [] (.slc []) (.bool false) ?_ ⟨by rw[hn];rfl,by rw[hn];rfl⟩;simp[HV.close,HV.closeL,CV.denil,CV.denilL,HV.norm,HV.toC,HV.toCL]
 have F:=aI h1_8 h1_12;refine SF ?_;refine aV (g:=some (14,false)) rfl rfl fun K' hK'=>T6 ?_;refine C2 (qE p 0) ?_;rintro u rfl;refine AX (hK' _ _ ?_);clear hK' K';iterate 2 refine SF ?_
 refine aE 17 rfl (fun h1_17=>?_) (fun h1_17=>?_)
 ·
  simp only[h1_17];refine T2 (hK _ _ _ ?_);clear hK K;refine CT rfl ?_;refine R0 ?_;refine aF (RT Tryz.results83 ?_);have hn:gP p=none:=by
   rw[aW0 (by simp at h1_8;omega) (by simp at h1_12;omega)];exact iU p.length p (Nat.le_refl _) (aK2 (by simpa using h1_17))
  refine bF [] (.slc []) (.bool false) ?_ ⟨by rw[hn];rfl,by rw[hn];rfl⟩;simp[HV.close,HV.closeL,CV.denil,CV.denilL,HV.norm,HV.toC,HV.toCL]
 simp only[h1_17];refine T2 (hK _ _ _ ?_);clear hK K;refine CF rfl ?_;refine aK ?_;refine T0 (hK _ _ _ ?_);clear hK K;have hpv:=aW0 (p:=p) (by simp at h1_8;omega) (by simp at h1_12;omega);have hl:p.length≤200:=by simp at h1_12;omega
 have hz0:(0:UInt8)∉p:=tH (by simpa using h1_17);have hz: ∀(i:Nat) (h:i<p.length),p[i]≠0:=fun i h e=>hz0 (e▸List.getElem_mem h);clear h1_8 h1_12 h1_17;refine R0 ?_;refine aC fun K hK=>?_;refine R0 ?_;refine aL ?_;refine oX 4 0 140 2 rfl rfl rfl rfl ?_;refine bD (α:={y:Nat×List Pt//PatSt p y.1 y.2}) (fun y=>(fin [(0,.c (.str p)),(4,.own 68 y.1.2.length),(5,.c (.int .i64 y.1.1))],fob [(68,.row 140 2 (y.1.2.map Pt.cv))])) 100 (fun y=>p.length-y.1.1) ⟨(0,[]),PatSt.init p⟩ (fF) ?_;rintro⟨⟨i,out⟩,hst⟩;simp only at hst;have hi:=hst.1;have ho:=hst.2.2.1;refine aC fun K hK=>?_;refine aC fun K hK=>Rg ?_;iterate 4 refine S0 ?_
 refine T2 (hK _ _ _ ?_);clear hK K;refine aJ (b:=decide ((i:Int)<p.length)) rfl (fun hb=>?_) (fun hb=>?_)
 ·
  have hlt:i<p.length:=by simpa using hb
  clear hb;have hgd:p.getD i 0=p[i]:=by simp[hlt]
  have hw1:IntKind.i64.wrap ((i:Int)+1)=((i+1:Nat):Int):=by rw[IntWalk.i64_in _ (by omega)];rfl
  have hw2:IntKind.i64.wrap (((i+1:Nat):Int)+1)=((i+2:Nat):Int):=by rw[IntWalk.i64_in _ (by omega)];rfl
  refine aK ?_;refine T0 (hK _ _ _ ?_);clear hK K;refine aC fun K hK=>?_;refine aL ?_;refine aL ?_;refine aC fun K hK=>Rg ?_;iterate 5 refine S0 ?_ (e:=fun _ h_=>by simp only[sH,↓sP,sA,tyS,simprocAttr,Int.natCast_nonneg,Int.ofNat_lt,hlt,hgd];exact AX h_)
  refine T2 (hK _ _ _ ?_);clear hK K;refine aJ (b:=((p[i].toNat:Int)==92)) rfl (fun hb=>?_) (fun hb=>?_)
  ·
   have h92:p[i]=92:=bEq (d:=92) hb;clear hb;have F:=hw1;refine RF ?_;refine aC fun K hK=>?_;refine aC fun K hK=>Rg ?_;iterate 4 refine S0 ?_
   refine T2 (hK _ _ _ ?_);clear hK K;refine aJ (b:=(((i+1:Nat):Int)==((p.length:Nat):Int))) rfl (fun hb=>?_) (fun hb=>?_)
   ·
    have hie:i+1=p.length:=by have:=eq_of_beq hb;omega
    refine R0 ?_;refine aF (RT Tryz.results83 ?_);have hn:gP p=none:=by rw[hpv];exact hst.bad (aZ7 hlt h92 hie)
    refine bF [] (.slc []) (.bool false) ?_ ⟨by rw[hn];rfl,by rw[hn];rfl⟩;simp[HV.close,HV.closeL,CV.denil,CV.denilL,HV.norm,HV.toC,HV.toCL]
   have hi1:i+1<p.length:=by
    have: ¬i+1=p.length:=by rintro e;rw[e]at hb;simp at hb
    omega
   clear hb;have hg1:p.getD (i+1) 0=p[i+1]:=by simp[hi1]
   refine aK ?_;refine T0 (hK _ _ _ ?_);clear hK K;refine Rg ?_;have F:=aI @Int.natCast_nonneg (aI @Int.ofNat_lt (aI hi1 (aI hg1 (aI @List.length_append.{0} @List.length_map.{0,0}))));iterate 8 refine SF ?_
   refine T2 (hK _ _ _ ?_);clear hK K;refine aM (by kernel_rfl) ?_;refine TQ hw2 ?_;refine⟨⟨(i+2,out++[⟨0,p[i+1]⟩]),hst.step (k:=2) (by omega) (by omega) (by simp) (bH4 hi1 h92 (hz (i+1) hi1))⟩,aN (by omega) ?_ ?_,?_⟩
   · simp[aZ,upd_at,fin_at,HV.men]
   · simp only[aY,List.map_append];exact⟨rfl,by omega,trivial,trivial⟩
   show p.length-(i+2)<p.length-i;omega
  have h92:p[i]≠92:=bNe (d:=92) hb;clear hb;refine aC fun K hK=>Rg ?_;iterate 5 refine S0 ?_ (e:=fun _ h_=>by simp only[sH,↓sP,sA,tyS,simprocAttr,Int.natCast_nonneg,Int.ofNat_lt,hlt,hgd];exact AX h_)
  refine T2 (hK _ _ _ ?_);clear hK K;refine aJ (b:=((p[i].toNat:Int)==63)) rfl (fun hb=>?_) (fun hb=>?_)
  ·
   have h63:p[i]=63:=bEq (d:=63) hb;clear hb;refine Rg ?_;have F:=aI @List.length_append.{0} @List.length_map.{0,0};iterate 5 refine SF ?_
   refine T2 (hK _ _ _ ?_);clear hK K;refine aM (by kernel_rfl) ?_;refine TQ hw1 ?_;refine⟨⟨(i+1,out++[⟨1,0⟩]),hst.step (k:=1) (by omega) (by omega) (by simp) (cB1 hlt h63)⟩,aN (by omega) ?_ ?_,?_⟩
   · simp[aZ,upd_at,fin_at,HV.men]
   · simp only[aY,List.map_append];exact⟨rfl,by omega,trivial,trivial⟩
   show p.length-(i+1)<p.length-i;omega
  have h63:p[i]≠63:=bNe (d:=63) hb;clear hb;by_cases h42:p[i]=42
  ·
   by_cases hi1:i+1<p.length
   ·
    by_cases h43:p[i+1]=42
    ·
     have hd42:((p[i].toNat:Int)==42)=true:=by rw[h42];rfl
     have hg1:p.getD (i+1) 0=p[i+1]:=by simp[hi1]
     have hd43:((p[i+1].toNat:Int)==42)=true:=by rw[h43];rfl
     refine aC fun K hK=>Rg ?_;iterate 19 refine S0 ?_ (e:=fun _ h_=>by simp only[sH,↓sP,sA,tyS,simprocAttr,Int.natCast_nonneg,Int.ofNat_lt,hlt,hgd,hw1,hi1,hg1,hd42,hd43,decide_true];exact AX h_)
     refine T2 (hK _ _ _ ?_);clear hK K;refine CT rfl ?_;have F:=hw1;refine RF ?_;refine Rg ?_;have F:=aI @List.length_append.{0} @List.length_map.{0,0};iterate 5 refine SF ?_
     refine T2 (hK _ _ _ ?_);clear hK K;refine aM (by kernel_rfl) ?_;refine TQ hw2 ?_;refine⟨⟨(i+2,out++[⟨3,0⟩]),hst.step (k:=2) (by omega) (by omega) (by simp) (bS4 hi1 h42 h43)⟩,aN (by omega) ?_ ?_,?_⟩
     · simp[aZ,upd_at,fin_at,HV.men]
     · simp only[aY,List.map_append];exact⟨rfl,by omega,trivial,trivial⟩
     show p.length-(i+2)<p.length-i;omega
    have hd42:((p[i].toNat:Int)==42)=true:=by rw[h42];rfl
    have hg1:p.getD (i+1) 0=p[i+1]:=by simp[hi1]
    have hd43:((p[i+1].toNat:Int)==42)=false:=by rw[show(42:Int)=((42:UInt8).toNat:Int)from rfl,bT5];simpa using h43
    refine aC fun K hK=>Rg ?_;iterate 19 refine S0 ?_ (e:=fun _ h_=>by simp only[sH,↓sP,sA,tyS,simprocAttr,Int.natCast_nonneg,Int.ofNat_lt,hlt,hgd,hw1,hi1,hg1,hd42,hd43,decide_true];exact AX h_)
    refine T2 (hK _ _ _ ?_);clear hK K;refine CF rfl ?_;refine aC fun K hK=>Rg ?_;iterate 5 refine S0 ?_ (e:=fun _ h_=>by simp only[sH,↓sP,sA,tyS,simprocAttr,Int.natCast_nonneg,Int.ofNat_lt,hlt,hgd,hd42];exact AX h_)
    refine T2 (hK _ _ _ ?_);clear hK K;refine CT rfl ?_;refine Rg ?_;have F:=aI @List.length_append.{0} @List.length_map.{0,0};iterate 5 refine SF ?_
    refine T2 (hK _ _ _ ?_);clear hK K;refine aM (by kernel_rfl) ?_;refine TQ hw1 ?_;refine⟨⟨(i+1,out++[⟨2,0⟩]),hst.step (k:=1) (by omega) (by omega) (by simp) (bH5 hlt h42 fun _=>h43)⟩,aN (by omega) ?_ ?_,?_⟩
    · simp[aZ,upd_at,fin_at,HV.men]
    · simp only[aY,List.map_append];exact⟨rfl,by omega,trivial,trivial⟩
    show p.length-(i+1)<p.length-i;omega
   have hd42:((p[i].toNat:Int)==42)=true:=by rw[h42];rfl
   have hdi:decide (((i+1:Nat):Int)<((p.length:Nat):Int))=false:=by simp;omega
   refine aC fun K hK=>Rg ?_;iterate 19 refine S0 ?_ (e:=fun _ h_=>by simp only[sH,↓sP,sA,tyS,simprocAttr,Int.natCast_nonneg,hdi,hlt,hgd,hw1,hd42];exact AX h_)
   refine T2 (hK _ _ _ ?_);clear hK K;refine CF rfl ?_;refine aC fun K hK=>Rg ?_;iterate 5 refine S0 ?_ (e:=fun _ h_=>by simp only[sH,↓sP,sA,tyS,simprocAttr,Int.natCast_nonneg,Int.ofNat_lt,hlt,hgd,hd42];exact AX h_)
   refine T2 (hK _ _ _ ?_);clear hK K;refine CT rfl ?_;refine Rg ?_;have F:=aI @List.length_append.{0} @List.length_map.{0,0};iterate 5 refine SF ?_
   refine T2 (hK _ _ _ ?_);clear hK K;refine aM (by kernel_rfl) ?_;refine TQ hw1 ?_;refine⟨⟨(i+1,out++[⟨2,0⟩]),hst.step (k:=1) (by omega) (by omega) (by simp) (bH5 hlt h42 fun h=>absurd h hi1)⟩,aN (by omega) ?_ ?_,?_⟩
   · simp[aZ,upd_at,fin_at,HV.men]
   · simp only[aY,List.map_append];exact⟨rfl,by omega,trivial,trivial⟩
   show p.length-(i+1)<p.length-i;omega
  have hd42:((p[i].toNat:Int)==42)=false:=by rw[show(42:Int)=((42:UInt8).toNat:Int)from rfl,bT5];simpa using h42
  refine aC fun K hK=>Rg ?_;iterate 19 refine S0 ?_ (e:=fun _ h_=>by simp only[sH,↓sP,sA,tyS,simprocAttr,Int.natCast_nonneg,Int.ofNat_lt,hlt,hgd,hw1,hd42];exact AX h_)
  refine T2 (hK _ _ _ ?_);clear hK K;refine CF rfl ?_;refine aC fun K hK=>Rg ?_;iterate 5 refine S0 ?_ (e:=fun _ h_=>by simp only[sH,↓sP,sA,tyS,simprocAttr,Int.natCast_nonneg,Int.ofNat_lt,hlt,hgd,hd42];exact AX h_)
  refine T2 (hK _ _ _ ?_);clear hK K;refine CF rfl ?_;refine Rg ?_;iterate 8 refine S0 ?_ (e:=fun _ h_=>by simp only[sH,↓sP,sA,tyS,simprocAttr,Int.natCast_nonneg,Int.ofNat_lt,hlt,hgd,List.length_append,List.length_map];exact AX h_)
  refine T2 (hK _ _ _ ?_);clear hK K;refine aM (by kernel_rfl) ?_;refine TQ hw1 ?_;refine⟨⟨(i+1,out++[⟨0,p[i]⟩]),hst.step (k:=1) (by omega) (by omega) (by simp) (cB2 hlt (hz i hlt) h92 h63 h42)⟩,aN (by omega) ?_ ?_,?_⟩
  · simp[aZ,upd_at,fin_at,HV.men]
  · simp only[aY,List.map_append];exact⟨rfl,by omega,trivial,trivial⟩
  show p.length-(i+1)<p.length-i;omega
 refine bA (T3 ?_);clear hK K;refine AX (hK _ _ _ ?_);clear hK K;have hei:i=p.length:=by simp at hb;omega
 have hfin:gP p=some out:=by rw[hpv];exact hst.fin hei
 refine R0 ?_;refine aF (RT Tryz.results83 ?_);refine bF [68] (.slc (out.map Pt.cv)) (.bool true) ?_ ⟨by rw[hfin];rfl,by rw[hfin];rfl⟩;simp[HV.close,fob_at,upd_at,HV.norm,HV.toC,HV.closeL,HV.toCL,CV.denil,denilL_Pt]
end Go.Proofs.YtlldglbooaefhaaGreatDoor
namespace Go.Pl
open Go Go.Hl
def qL (c:UInt8)(l:aG):aG:=match l.findIdx? (· ==c)with|some i=>l.take i|none=>l
def wG (c:UInt8)(l:aG):aG:=match l.findIdx? (· ==c)with|some i=>l.drop (i+1)|none=>[]
def tR (c:UInt8)(l:aG):Bool:=(l.findIdx? (· ==c)).isSome
variable {l:aG}{c:UInt8}
theorem qM {i:Nat}(h:dH l c=(i:Int)):i<l.length∧qL c l=l.take i∧wG c l=l.drop (i+1)∧tR c l=true:=by
 unfold dH at h;cases e:l.findIdx? (· ==c)with
 |none=>grind
 |some j=>
  grind[List.findIdx?_eq_some_iff_getElem,qL,wG,tR]
theorem qN (h:dH l c<0):qL c l=l∧wG c l=[]∧tR c l=false:=by grind[dH,qL,wG,tR]
theorem zE (c:UInt8)(l:aG):aR c l=if tR c l then qL c l::aR c (wG c l)else [qL c l]:=by
 by_cases h:dH l c<0;all_goals grind[qN,mP,dX,qM]
theorem aK5 (h:tR c l=true):(wG c l).length<l.length:=by
 by_cases h0:dH l c<0
 · simp_all[qN]
 · obtain⟨i,hi,hil,_⟩:=dX h0;rw[(qM hi).2.2.1];grind
def PathSt (p:aG)(m:Bool)(s:aG):Prop:=s.length≤200∧(aR 47 p).all jU=if m then(aR 47 s).all jU else true
variable {p:aG}
theorem PathSt.step {s:aG}(h:PathSt p true s)(hg:jU (qL 47 s)=true):PathSt p (tR 47 s) (wG 47 s):=by
 refine⟨?_,?_⟩
 ·
  cases hf:tR 47 s with
  |true=>have:=aK5 hf;have:=h.1;omega
  |false=>
   by_cases h0:dH s 47<0;all_goals grind[qN,dX,qM]
 · rw[h.2,if_pos rfl,zE 47 s];grind
theorem PathSt.bad {s:aG}(h:PathSt p true s)(hg:jU (qL 47 s)=false):(aR 47 p).all jU=false:=by
 rw[h.2,if_pos rfl,zE 47 s];grind
theorem bL8 (h1:1≤p.length)(h2:p.length≤200)(h0:(0:UInt8)∉p):jV p=(aR 47 p).all jU:=by grind[jV]
theorem zF (h:p.length<1∨200<p.length):jV p=false:=by grind[jV,decide_eq_false]
theorem aR2 (h:(0:UInt8)∈p):jV p=false:=by
 unfold jV;grind
variable {w:aG}
theorem wH (h:w=[]∨w=[46]∨w=[46,46]):jU w=false:=by
 rcases h with h|h|h<;>subst h<;>rfl
theorem bC0 (h1:w≠[])(h2:w≠[46])(h3:w≠[46,46]):jU w=true:=by grind[jU]
end Go.Pl
namespace Go.Proofs.YtlldglbooaefhaaGreatDoor
open Go Go.Hl Go.Pl
set_option maxRecDepth 10000
set_option maxHeartbeats 16000000
theorem bL9 (l:aG)(c:UInt8)(hl:l.length<2^40):aB4 Tryz.prog 135 [.str l,.str [c]] (fun u v x=>u= .str (qL c l)∧v= .str (wG c l)∧x= .bool (tR c l)):=by
 refine FW Tryz.func135 ?_;refine R0 ?_;refine aC fun K hK=>?_;refine aC fun K hK=>Rg ?_;iterate 2 refine S0 ?_
 refine HS rfl rfl fun K' hK'=>T5 ?_;refine C2 (aQ4 l c) ?_;rintro u rfl;refine AX (hK' _ _ ?_);clear hK' K';refine S0 ?_;refine T2 (hK _ _ _ ?_);clear hK K;refine R0 ?_;refine aJ (b:=decide ((0:Int)≤dH l c)) rfl (fun hb=>?_) (fun hb=>?_)
 ·
  have hn: ¬dH l c<0:=by simp at hb;omega
  obtain⟨i,hi,hil,hsp⟩:=dX hn;obtain⟨_,c1,c2,c3⟩:=qM hi;have htd:List.take (l.length-(i+1)) (List.drop (i+1) l)=List.drop (i+1) l:=List.take_of_length_le (by simp);have hil1:i+1≤l.length:=hil;have hil0:i≤l.length:=by omega
  rw[hi];refine aC fun K hK=>QR ?_;have F:=aI @Int.natCast_nonneg (aI @Int.ofNat_le (aI @Int.sub_zero (aI @Nat.sub_zero (aI @List.drop_zero.{0} (aI hil0 (aI hil1 (aI htd (show IntKind.i64.wrap ((i:Int)+1)=((i+1:Nat):Int)from by rw[IntWalk.i64_in _ (by omega)];rfl))))))));iterate 12 refine SF ?_
  refine T2 (hK _ _ _ ?_);clear hK K;refine aF (RT Tryz.results135 ?_);exact jC [] (.str (l.take i)) (.str (l.drop (i+1))) (.bool true) rfl ⟨by rw[c1],by rw[c2],by rw[c3]⟩
 have hn:dH l c<0:=by simp at hb;omega
 obtain⟨c1,c2,c3⟩:=qN hn;refine aK ?_;refine T0 (hK _ _ _ ?_);clear hK K;refine aC fun K hK=>Rg ?_;iterate 4 refine S0 ?_
 refine T2 (hK _ _ _ ?_);clear hK K;refine aF (RT Tryz.results135 ?_);exact jC [] (.str l) (.str []) (.bool false) rfl ⟨by rw[c1],by rw[c2],by rw[c3]⟩
theorem bU8 (l:aG)(c:UInt8)(hl:l.length<2^40):aB4 Tryz.prog 113 [.str l,.str [c]] (fun u v x=>u= .str (qL c l)∧v= .str (wG c l)∧x= .bool (tR c l)):=by
 refine FW Tryz.func113 ?_;refine R0 ?_;refine aC fun K hK=>Rg ?_;iterate 2 refine S0 ?_
 refine HS rfl rfl fun K' hK'=>T5 ?_;refine oZ (args:=[_,_]) (bL9 l c hl) ⟨rfl,rfl,rfl,rfl⟩ ?_;rintro u v x ⟨rfl,rfl,rfl⟩;refine AX (hK' _ _ ?_);clear hK' K';iterate 6 refine S0 ?_
 refine T2 (hK _ _ _ ?_);clear hK K;refine aF (RT Tryz.results113 ?_);exact jC [] _ _ _ rfl ⟨rfl,rfl,rfl⟩
theorem aW1 (p:aG):bW Tryz.prog 58 [.str p] (fun v=>v= .bool (gP p).isSome):=by
 refine FW Tryz.func58 ?_;refine R0 ?_;refine aC fun K hK=>Rg ?_;refine S0 ?_;refine HS rfl rfl fun K' hK'=>T5 ?_;refine D1 (aK4 p) ?_;rintro u v ⟨rfl,rfl⟩;refine AX (hK' _ _ ?_);clear hK' K';iterate 5 refine S0 ?_
 refine T2 (hK _ _ _ ?_);clear hK K;refine R0 ?_;refine aF (RT Tryz.results58 ?_);exact aH [] _ rfl rfl
theorem aW2 (p:aG):bW Tryz.prog 96 [.str p] (fun v=>v= .bool (jV p)):=by
 refine FW Tryz.func96 ?_;refine R0 ?_;refine aC fun K hK=>?_;refine aC fun K hK=>Rg ?_;iterate 4 refine S0 ?_
 refine aE 7 rfl (fun h1_7=>?_) (fun h1_7=>?_)
 ·
  have F:=h1_7;iterate 9 refine SF ?_
  refine T2 (hK _ _ _ ?_);clear hK K;refine CT rfl ?_;refine R0 ?_;refine aF (RT Tryz.results96 ?_);exact aH [] (.bool false) rfl (by rw[zF (by simp at h1_7;omega)])
 have F:=h1_7;iterate 5 refine SF ?_
 refine aE 11 rfl (fun h1_11=>?_) (fun h1_11=>?_)
 ·
  clear F;have F:=aI h1_7 h1_11;iterate 4 refine SF ?_
  refine T2 (hK _ _ _ ?_);clear hK K;refine CT rfl ?_;refine R0 ?_;refine aF (RT Tryz.results96 ?_);exact aH [] (.bool false) rfl (by rw[zF (by simp at h1_11;omega)])
 clear F;have F:=aI h1_7 h1_11;refine SF ?_;refine aV (g:=some (13,false)) rfl rfl fun K' hK'=>T6 ?_;refine C2 (qE p 0) ?_;rintro u rfl;refine AX (hK' _ _ ?_);clear hK' K';iterate 2 refine SF ?_
 refine aE 16 rfl (fun h1_16=>?_) (fun h1_16=>?_)
 · simp only[h1_16];refine T2 (hK _ _ _ ?_);clear hK K;refine CT rfl ?_;refine R0 ?_;refine aF (RT Tryz.results96 ?_);exact aH [] (.bool false) rfl (by rw[aR2 (aK2 (by simpa using h1_16))])
 simp only[h1_16];refine T2 (hK _ _ _ ?_);clear hK K;refine CF rfl ?_;refine aK ?_;refine T0 (hK _ _ _ ?_);clear hK K;refine aC fun K hK=>?_;have hl:p.length≤200:=by simp at h1_11;omega
 have hpv:=bL8 (p:=p) (by simp at h1_7;omega) hl (tH (by simpa using h1_16));clear h1_7 h1_11 h1_16;refine R0 ?_;refine aL ?_;refine bD (α:={y:Bool×aG//PathSt p y.1 y.2}) (fun y=>(fin [(0,.c (.str y.1.2)),(3,.c (.bool y.1.1))],fob [])) 100 (fun y=>if y.1.1 then y.1.2.length+1 else 0) ⟨(true,p),hl,by simp⟩ (fF) ?_;rintro⟨⟨m,s⟩,hst⟩;simp only at hst;have hs:=hst.1;refine aC fun K hK=>?_;refine R0 ?_;refine aJ (b:=m) rfl (fun hb=>?_) (fun hb=>?_)
 ·
  subst hb;refine aK ?_;refine T0 (hK _ _ _ ?_);clear hK K;refine aL ?_;refine R0 ?_;refine aC fun K hK=>Rg ?_;refine S0 ?_;refine HS rfl rfl fun K' hK'=>T5 ?_;refine oZ (args:=[_,_]) (bU8 s 47 (by omega)) ⟨rfl,rfl,rfl,rfl⟩ ?_;rintro u v x ⟨rfl,rfl,rfl⟩;refine AX (hK' _ _ ?_);clear hK' K';iterate 7 refine S0 ?_
  refine T2 (hK _ _ _ ?_);clear hK K;refine aC fun K hK=>Rg ?_;iterate 3 refine S0 ?_
  refine aE 26 rfl (fun h7_26=>?_) (fun h7_26=>?_)
  ·
   clear F;have F:=h7_26;iterate 7 refine SF ?_
   refine T2 (hK _ _ _ ?_);clear hK K;refine CT rfl ?_;refine R0 ?_;refine aF (RT Tryz.results96 ?_);have hg:jU (qL 47 s)=false:=wH (.inl (eq_of_beq h7_26));exact aH [] (.bool false) rfl (by rw[hpv,hst.bad hg])
  clear F;have F:=h7_26;iterate 4 refine SF ?_
  refine aE 29 rfl (fun h7_29=>?_) (fun h7_29=>?_)
  ·
   clear F;have F:=aI h7_26 h7_29;iterate 3 refine SF ?_
   refine T2 (hK _ _ _ ?_);clear hK K;refine CT rfl ?_;refine R0 ?_;refine aF (RT Tryz.results96 ?_);have hg:jU (qL 47 s)=false:=wH (.inr (.inl (eq_of_beq h7_29)));exact aH [] (.bool false) rfl (by rw[hpv,hst.bad hg])
  clear F;have F:=aI h7_26 h7_29;iterate 3 refine SF ?_
  refine aE 33 rfl (fun h7_33=>?_) (fun h7_33=>?_)
  · simp only[h7_33];refine T2 (hK _ _ _ ?_);clear hK K;refine CT rfl ?_;refine R0 ?_;refine aF (RT Tryz.results96 ?_);have hg:jU (qL 47 s)=false:=wH (.inr (.inr (eq_of_beq h7_33)));exact aH [] (.bool false) rfl (by rw[hpv,hst.bad hg])
  simp only[h7_33];refine T2 (hK _ _ _ ?_);clear hK K;refine CF rfl ?_;refine aK (T3 ?_);have hg:jU (qL 47 s)=true:=bC0 (by simpa using h7_26) (by simpa using h7_29) (by simpa using h7_33);refine⟨⟨(tR 47 s,wG 47 s),hst.step hg⟩,fF,?_⟩;show(if tR 47 s=true then(wG 47 s).length+1 else 0)<if true=true then s.length+1 else 0
  rw[if_pos rfl];split
  · rename_i h;have:=aK5 h;omega
  omega
 subst hb;refine bA (T3 ?_);clear hK K;refine AX (hK _ _ _ ?_);clear hK K;refine R0 ?_;refine aF (RT Tryz.results96 ?_);exact aH [] (.bool true) rfl (by rw[hpv,hst.2];rfl)
theorem cK1 :lst []=cH:=by funext j;simp[lst,cH]
theorem bU9 (x:Pt)(c:UInt8):cF2 Tryz.prog 114 140 x.cv [u8 c] (fun v=>v= .bool (c==x.c)):=by
 show HFn _ _ [.c (u8 c),.ptr 0 0] 1 _ _;refine bR (args:=[.c (u8 c),.ptr 0 0]) Tryz.func114 rfl (by kernel_rfl) (yF _ _ [u8 c]) (Nat.le_of_ble_eq_true rfl) ?_;refine R0 ?_;refine aC fun K hK=>Rg ?_;have F:=aI @Pt.get_c @bT5;iterate 5 refine SF ?_
 refine T2 (hK _ _ _ ?_);clear hK K;refine aF (RT Tryz.results114 ?_);refine aO8 [] (.bool (c==x.c)) x.cv rfl rfl (by simp[HV.close,HV.norm,HV.toC,Pt.denil]) (by simp) rfl rfl
theorem bC2 (x:Pt)(hk:x.k=0):HGe Tryz.prog 97 [.c x.cv] [] (fun r os=>r= .clo 114 [.ptr 0 0]∧os=[.box 140 (.c x.cv)]):=by
 show HFn _ _ [.c x.cv] 0 (lst []) _;rw[cK1];refine bR (args:=[.c x.cv]) Tryz.func97 rfl (by kernel_rfl) (iT [x.cv]) (Nat.le_of_ble_eq_true rfl) ?_;have hd0:((x.k:Int)==0)=true:=by rw[hk];rfl
 have F:=aI @Pt.cells (aI @Pt.isAgg @Pt.getAll);refine RF ?_;refine aC fun K hK=>?_;have F:=@Pt.get_k;refine RF ?_;refine aL ?_;have F:=hd0;refine RF ?_;refine CT rfl ?_;refine R0 ?_;refine aF (RT Tryz.results97 ?_);refine eA [] [0] (.clo 114 [.ptr 0 0]) [.box 140 (.c x.cv)] rfl ?_ ?_ rfl (by simp) (by simp) (by simp) ⟨rfl,rfl⟩
 · simp[HV.men,HV.menL]
 refine⟨⟨by simp[HO.men,HV.men],by simp,.box 140 (.c x.cv),rfl,?_⟩,trivial⟩;simp[fL,HV.close,HV.norm,HV.toC,Pt.denil,HO.ren,HV.ren]
theorem bC3 (x:Pt)(hk:x.k=3):bW Tryz.prog 97 [x.cv] (fun v=>v= .fn 115):=by
 refine FW Tryz.func97 ?_;have hd0:((x.k:Int)==0)=false:=by rw[hk];rfl
 have hd3:((x.k:Int)==3)=true:=by rw[hk];rfl
 have F:=aI @Pt.cells (aI @Pt.isAgg @Pt.getAll);refine RF ?_;refine aC fun K hK=>?_;have F:=@Pt.get_k;refine RF ?_;refine aL ?_;have F:=hd0;refine RF ?_;refine CF rfl ?_;have F:=hd3;refine RF ?_;refine CT rfl ?_;refine R0 ?_;refine aF (RT Tryz.results97 ?_);exact aH [] (.fn 115) rfl rfl
theorem zG (x:Pt)(hk:x.k=1∨x.k=2):bW Tryz.prog 97 [x.cv] (fun v=>v= .fn 116):=by
 refine FW Tryz.func97 ?_;have hd0:((x.k:Int)==0)=false:=by rcases hk with h|h<;>rw[h]<;>rfl
 have hd3:((x.k:Int)==3)=false:=by rcases hk with h|h<;>rw[h]<;>rfl
 have F:=aI @Pt.cells (aI @Pt.isAgg @Pt.getAll);refine RF ?_;refine aC fun K hK=>?_;have F:=@Pt.get_k;refine RF ?_;refine aL ?_;have F:=hd0;refine RF ?_;refine CF rfl ?_;have F:=hd3;refine RF ?_;refine CF rfl ?_;refine aK ?_;refine T0 (hK _ _ _ ?_);clear hK K;refine R0 ?_;refine aF (RT Tryz.results97 ?_);exact aH [] (.fn 116) rfl rfl
end Go.Proofs.YtlldglbooaefhaaGreatDoor
