/- Plain Lean: a word cut at a byte; paths read part by part. By an AI agent. -/
import Derived.Test.YtlldglbooaefhaaGreatDoorPl11v
import Derived.Test.YtlldglbooaefhaaGreatDoorHlZb
import Derived.Test.YtlldglbooaefhaaGreatDoorHzU1
import Derived.Test.YtlldglbooaefhaaGreatDoorHlTlaw
set_option linter.unusedSimpArgs false
set_option linter.unusedVariables false
set_option linter.defProp false
namespace Go.Pl
open Go Go.Hl
theorem wR : ∀(a b:aH) (n m:Nat),dT a n=some m→dT (a++b) n=dT b m
 |[],b,n,m,h=>by simp only[dT,Option.some.injEq]at h;subst h;rfl
 |c::a,b,n,m,h=>by
  simp only[List.cons_append,dT]at h⊢;split at h
  · rename_i hc;rw[if_pos hc];exact wR a b _ _ h
  · cases h
variable {k:Nat}
theorem aY7 (h:k<10):nP (UInt8.ofNat (48+k))=true∧(UInt8.ofNat (48+k)).toNat-48=k:=by
 have e:(UInt8.ofNat (48+k)).toNat=48+k:=by simp;omega
 rw[nP,e];exact⟨by simp;omega,by omega⟩
theorem aT4 (u:Nat):dT (Lib.decDigits u) 0=some u:=by
 induction u using Nat.strongRecOn with
 |ind u ih=>
  rw[Lib.decDigits];split
  · rename_i h;obtain⟨h1,h2⟩:=aY7 h;simp only[dT,h1,if_true,h2];simp
  · rw[wR _ _ 0 (u/10) (ih _ (by omega))];obtain⟨h1,h2⟩:=aY7 (k:=u%10) (by omega);simp only[dT,h1,if_true,h2];congr 1;omega
theorem aY8 : ∀(k u:Nat),u<10^(k+1)→(Lib.decDigits u).length≤k+1
 |0,u,h=>by rw[Lib.decDigits,dif_pos (by omega)];simp
 |k+1,u,h=>by
  rw[Lib.decDigits];split
  · simp
  · have:=aY8 k (u/10) (by rw[Nat.pow_succ]at h;omega);simp only[List.length_append,List.length_singleton];omega
theorem bO1 {u:Nat}(h:1≤u): ∃c l,Lib.decDigits u=c::l∧c≠48:=by
 induction u using Nat.strongRecOn with
 |ind u ih=>
  rw[Lib.decDigits];split
  · rename_i hu;refine⟨_,_,rfl,fun hc=>?_⟩;have:=congrArg UInt8.toNat hc;simp at this;omega
  · obtain⟨c,l,h1,h2⟩:=ih (u/10) (by omega) (by omega);exact⟨c,l++[UInt8.ofNat (48+u%10)],by rw[h1];rfl,h2⟩
variable {n:Int}
theorem lF (h0:0≤n)(h1:n≤1099511627776):bN (numW n)=some n:=by
 rw[qV h0];have hd:=aT4 n.natAbs;have hl:=aY8 12 n.natAbs (by omega);have hb:gV (Lib.decDigits n.natAbs)=false:=by
  unfold gV;by_cases hz:n.natAbs=0
  · rw[hz,Lib.decDigits_one (by omega)];simp
  ·
   obtain⟨c,l,h2,h3⟩:=bO1 (u:=n.natAbs) (by omega);rw[h2]at hl⊢;have e:((c::l).getD 0 0==(48:UInt8))=false:=by simpa using h3
   rw[e,Bool.and_false,Bool.or_false,Bool.or_eq_false_iff];exact⟨by simp,decide_eq_false (by omega)⟩
 rw[aY3 hb hd (by omega)];congr 1;omega
variable {ls:List (List aH)}
theorem bX3 (h:jX ls=0):iT (nH ls)=0∧fT (nH ls)=ls:=by
 rw[uL h];unfold jX at h;split at h
 · cases h
 ·
  rename_i h1;split at h
  · rename_i l hl;have:=List.find?_some hl;simp only[Bool.not_eq_true']at this;exact absurd h (bV3 this)
  ·
   rename_i hn;split at h
   · cases h
   ·
    rename_i h2;have hok: ∀l∈ls,okL l=true:=fun l hl=>by
     have:=List.find?_eq_none.1 hn l hl;simpa using this
    have hv:=bE8 hok;have hE:iT (fK ls)=0:=by unfold iT;rw[if_neg h2,hv];simp only;rw[if_neg h1]
    exact⟨hE,by unfold fT;rw[if_pos hE,hv];rfl⟩
def iL (r:Pr):Bool:=dG r.a&&((eP r.b).isSome&&((eP r.c).isSome&&(inB r.g 0 sC&&dK r.t)))
def gK :List Pr→Bool
 |[]=>true
 |r::l=>!(l.map Pr.a).contains r.a&&gK l
def eU (p:Po):Bool:=dG p.n&&(inB p.v 1 sC&&(decide (p.r.length≤16)&&(p.r.all iL&&gK p.r)))
theorem nU (l:List Pr)(r:Pr):gK (l++[r])=(gK l&&!(l.map Pr.a).contains r.a):=by
 induction l with
 |nil=>simp[gK]
 |cons x l ih=>
  simp only[List.cons_append,gK,ih,List.map_append,List.map_cons,List.map_nil,List.contains_append,List.contains_cons,List.contains_nil,Bool.or_false];rw[show(x.a==r.a)=(r.a==x.a)from Bool.beq_comm];grind
def dO :aH:=[114,101,108,101,97,115,101,100]
def eM :aH:=[99,104,97,105,110,101,100]
def eB :aH:=[97,112,112,114,111,118,101,100]
def fN :aH:=[114,101,98,117,105,108,116]
def gC :aH:=[108,105,115,116,101,100]
def jR :aH:=[99,108,101,97,110]
def kT :aH:=[102,114,101,115,104]
def iM :aH:=[115,101,116,116,108,101,100]
def lG :aH:=[97,108,108]
def lH :aH:=[97,110,121]
def cR :aH:=[97,116,108,101,97,115,116]
def wEnd :aH:=[101,110,100]
def wPolicy :aH:=[112,111,108,105,99,121]
def wRule :aH:=[114,117,108,101]
def wlR (q:Rq):List aH:=
 if q.k=1 then [dO,numW q.n]else if q.k=2 then [eM,q.t]else if q.k=3 then [eB,numW q.n]
 else if q.k=4 then [fN,numW q.n,numW q.m]else if q.k=5 then [gC,numW q.n]else if q.k=6 then [jR,numW q.n]
 else if q.k=7 then [kT,numW q.n]else [iM]
def wlN (n:Nd):List aH:=if n.k=2 then [lG]else if n.k=3 then [lH]else [cR,numW n.n]
def eE :Nat→Nat→List Nd→List (List aH)
 |0,_,_=>[]
 |_+1,0,_=>[]
 |_+1,_+1,[]=>[]
 |f+1,m+1,n::l=>if n.k=1 then wlR n.q::eE f m l else wlN n::(eE f n.c.toNat l++([wEnd]::eE f m ((skip n.c.toNat l).getD [])))
variable {m:Nat}{l:List Nd}
theorem qW {r:List Nd}(h:skip m l=some r):r.length≤l.length:=by
 obtain⟨j,h1,rfl,_,_⟩:=iA l m r h;grind
theorem fR : ∀(f:Nat) (m:Nat) (l r:List Nd),l.length<f→skip m l=some r→(∀n∈l,bR n=true)→ ∀g,f≤g→eE g m l=eE f m l
 |0,_,_,_,h,_,_,_,_=>by omega
 |f+1,0,l,r,_,_,_,g,hg=>by obtain⟨q,rfl⟩: ∃q,g=q+1:=⟨g-1,by omega⟩;cases l<;>rfl
 |f+1,m+1,[],r,_,h,_,_,_=>by cases h
 |f+1,m+1,n::l,r,hf,h,hn,g,hg=>by
  obtain⟨q,rfl⟩: ∃q,g=q+1:=⟨g-1,by omega⟩;have h':skip (m+n.c.toNat) l=some r:=h;have hn': ∀x∈l,bR x=true:=fun x hx=>hn x (List.mem_cons_of_mem _ hx);have hl:l.length<f:=by simpa using hf
  obtain⟨c1,c2,c3,c4⟩:=dV (hn n List.mem_cons_self);simp only[eE];split
  · rename_i hk;rw[c3 hk]at h';rw[fR f m l r hl (by grind) hn' q (by omega)]
  ·
   rw[Nat.add_comm,fJ]at h';cases hs:skip n.c.toNat l with
   |none=>grind
   |some r1=>
    rw[hs]at h';have h2:skip m r1=some r:=h';have hr1:=qW hs;obtain⟨j,_,hj,_,_⟩:=iA l _ _ hs;rw[fR f _ l r1 hl hs hn' q (by omega),Option.getD_some,fR f m r1 r (by omega) h2 (fun x hx=>hn' x (by grind)) q (by omega)]
theorem nV : ∀(f:Nat) (a b:Nat) (l r:List Nd),l.length<f→skip a l=some r→(∀n∈l,bR n=true)→ ∀s,skip b r=some s→eE f (a+b) l=eE f a l++eE f b r
 |0,_,_,_,_,h,_,_,_,_=>by omega
 |f+1,0,b,l,r,_,h,_,_,_=>by simp_all[cU,Nat.zero_add,eE]
 |f+1,a+1,b,[],r,_,h,_,_,_=>by cases h
 |f+1,a+1,b,n::l,r,hf,h,hn,s,hs=>by
  have h':skip (a+n.c.toNat) l=some r:=h;have hn': ∀x∈l,bR x=true:=fun x hx=>hn x (List.mem_cons_of_mem _ hx);have hl:l.length<f:=by simpa using hf
  obtain⟨c1,c2,c3,c4⟩:=dV (hn n List.mem_cons_self);have hrl:=qW h';have hrn: ∀x∈r,bR x=true:=fun x hx=>by grind[iA,List.mem_of_mem_drop]
  have hfb:eE (f+1) b r=eE f b r:=fR f b r s (by omega) hs hrn (f+1) (by omega);rw[show a+1+b=a+b+1 from by omega,hfb];simp only[eE];split
  · rename_i hk;rw[c3 hk]at h';rw[nV f a b l r hl (by grind) hn' s hs];rfl
  ·
   rw[Nat.add_comm,fJ]at h';cases hs1:skip n.c.toNat l with
   |none=>grind
   |some r1=>
    rw[hs1]at h';have h2:skip a r1=some r:=h';have hr1:=qW hs1;obtain⟨j,_,hj,_,_⟩:=iA l _ _ hs1;rw[Option.getD_some,nV f a b r1 r (by omega) h2 (fun x hx=>hn' x (by rw[hj]at hx;exact List.mem_of_mem_drop hx)) s hs];simp
def aT5 (t:List Nd):List (List aH):=eE (t.length+1) 1 t
def iW (r:Pr):List (List aH):=[wRule,r.a,r.b,r.c,numW r.g]::aT5 r.t
def mA (p:Po):List (List aH):=[wPolicy,p.n,numW p.v]::p.r.flatMap iW
def oV (p:Po):aH:=if eU p then nH (mA p)else []
def sU (p:Po):Int:=if eU p then jX (mA p)else 1
def eV (l:List Nd)(i:Nat):List (List aH):=eE (l.length+1) 1 (l.drop i)
variable {i:Nat}
theorem pM (hi:i<l.length)(hk:l[i].k=1):eV l i=[wlR l[i].q]:=by
 unfold eV;rw[List.drop_eq_getElem_cons hi,eE,if_pos hk];cases l.length<;>simp[eE]
def cY (l:List Nd)(i k:Nat):List (List aH):=eE (l.length+1) k (l.drop (i+1))
theorem gW (l:List Nd)(i:Nat):cY l i 0=[]:=by unfold cY;cases l.drop (i+1)<;>rfl
theorem nW (ht:IsTree l)(hi:i<l.length)(hk:l[i].k≠1):eV l i=wlN l[i]::(cY l i l[i].c.toNat++[[wEnd]]):=by
 have ha:=(iB ht hi).2.2;rw[List.drop_eq_getElem_cons hi]at ha;have ha':skip (0+l[i].c.toNat) (l.drop (i+1))=some (l.drop (aft l i)):=ha;rw[Nat.zero_add]at ha';have hn': ∀x∈l.drop (i+1),bR x=true:=fun x hx=>ht.node x (List.mem_of_mem_drop hx);unfold eV cY;rw[List.drop_eq_getElem_cons hi];simp only[eE];rw[if_neg hk,ha',fR l.length _ _ _ (by grind) ha' hn' (l.length+1) (by omega)];have: ∀f (x:List Nd),eE f 0 x=[]:=fun f x=>by cases f<;>cases x<;>rfl
 grind
theorem mB (ht:IsTree l)(hi:i<l.length)(hk:k<l[i].c.toNat):cY l i (k+1)=cY l i k++eV l (dB l k (i+1)):=by
 have key: ∀k,k≤l[i].c.toNat→skip k (l.drop (i+1))=some (l.drop (dB l k (i+1))):=by
  intro k;induction k with
  |zero=>intro _;rw[cU];rfl
  |succ k ih=>
   grind[fJ,fM,iB,lC]
 unfold cY eV;exact nV _ k 1 _ _ (by grind) (key k (by omega)) (fun x hx=>ht.node x (List.mem_of_mem_drop hx)) _ (iB ht (lC ht hi hk)).2.2
def fO (w:List aH):Option Rq:=
 if w.length=2∧wd w 0=dO then(bN (wd w 1)).map (⟨1,·,0,[]⟩)
 else if w.length=2∧wd w 0=eM then some ⟨2,0,0,wd w 1⟩
 else if w.length=2∧wd w 0=eB then(bN (wd w 1)).map (⟨3,·,0,[]⟩)
 else if w.length=3∧wd w 0=fN then match bN (wd w 1),bN (wd w 2)with|some n,some m=>some ⟨4,n,m,[]⟩|_,_=>none
 else if w.length=2∧wd w 0=gC then(bN (wd w 1)).map (⟨5,·,0,[]⟩)
 else if w.length=2∧wd w 0=jR then(bN (wd w 1)).map (⟨6,·,0,[]⟩)
 else if w.length=2∧wd w 0=kT then(bN (wd w 1)).map (⟨7,·,0,[]⟩)
 else if w.length=1∧wd w 0=iM then some ⟨8,0,0,[]⟩else none
def jS (w:List aH):Option Nd:=
 if w.length=1∧wd w 0=lG then some ⟨2,0,0,rq0⟩else if w.length=1∧wd w 0=lH then some ⟨3,0,0,rq0⟩
 else if w.length=2∧wd w 0=cR then(bN (wd w 1)).map (⟨4,·,0,rq0⟩)else none
def iN (w:List aH):Bool:=w.length==1&&wd w 0==wEnd
mutual
def rdN :Nat→List (List aH)→Option (List Nd)×List (List aH)
 |0,ls=>(none,ls)
 |_+1,[]=>(none,[])
 |f+1,w::r=>match fO w with
  |some q=>(some [⟨1,0,0,q⟩],r)
  |none=>match jS w with
   |none=>(none,w::r)
   |some n=>match rdK f r with
    |(none,r')=>(none,r')
    |(some (ts,c),r')=>(some ({n with c:=c}::ts),r')
def rdK :Nat→List (List aH)→Option (List Nd×Int)×List (List aH)
 |0,ls=>(none,ls)
 |f+1,ls=>if iN (ls.headD [])then(some ([],0),ls.tail)else match rdN f ls with
  |(none,r)=>(none,r)
  |(some t,r)=>match rdK f r with
   |(none,r')=>(none,r')
   |(some (ts,c),r')=>(some (t++ts,c+1),r')
end
def rdT (ls:List (List aH)):Option (List Nd)×List (List aH):=rdN (2*ls.length+2) ls
def rdR (ls:List (List aH)):Option Pr×List (List aH):=match ls with
 |[]=>(none,[])
 |w::r=>if w.length=5∧wd w 0=wRule then match bN (wd w 4)with
   |none=>(none,w::r)
   |some g=>match rdT r with|(none,r')=>(none,r')|(some t,r')=>(some ⟨wd w 1,wd w 2,wd w 3,g,t⟩,r')
  else(none,w::r)
def kU :Nat→List (List aH)→List Pr→Option (List Pr)×List (List aH)
 |0,ls,_=>(none,ls)
 |f+1,ls,a=>if ls=[]then(some a,[])else match rdR ls with
  |(none,r)=>(none,r)
  |(some x,r)=>kU f r (a++[x])
def rdP (ls:List (List aH)):Option Po×List (List aH):=match ls with
 |[]=>(none,[])
 |w::r=>if w.length=3∧wd w 0=wPolicy then match bN (wd w 2)with
   |none=>(none,w::r)
   |some v=>match kU (r.length+1) r []with|(none,r')=>(none,r')|(some l,r')=>(some ⟨wd w 1,v,l⟩,r')
  else(none,w::r)
def dpE (b:aH):Int:=if iT b≠0 then iT b else match(rdP (fT b)).1 with|none=>2|some p=>if eU p then 0 else 1
def dpL (b:aH):Nat:=if iT b≠0 then 0 else match rdP (fT b)with|(none,r)=>(fT b).length-r.length|(some _,_)=>0
def po0 :Po:=⟨[],0,[]⟩
def dpO (b:aH):Po:=if dpE b=0 then((rdP (fT b)).1).getD po0 else po0
theorem tU : ∀(a:aH) (c:UInt8) (n k:Nat),dT (a++[c]) n=some k→ ∃k',dT a n=some k'∧nP c=true∧k=10*k'+(c.toNat-48)
 |[],c,n,k,h=>by
  simp only[List.nil_append,dT]at h;split at h
  · rename_i hc;cases h;exact⟨n,rfl,hc,rfl⟩
  · cases h
 |b::a,c,n,k,h=>by
  simp only[List.cons_append,dT]at h⊢;split at h
  · rename_i hb;rw[if_pos hb];exact tU a c _ k h
  · cases h
theorem aY9 : ∀(m:Nat) (s:aH) (k:Nat),s.length≤m→s≠[]→(1<s.length→s.head? ≠some 48)→dT s 0=some k→Lib.decDigits k=s
 |0,s,_,hm,h0,_,_=>absurd (List.eq_nil_of_length_eq_zero (by omega)) h0
 |m+1,s,k,hm,h0,h1,h=>by
  obtain⟨a,c,rfl⟩: ∃a c,s=a++[c]:=⟨s.dropLast,s.getLast h0,(List.dropLast_concat_getLast h0).symm⟩;obtain⟨k',hk',hc,rfl⟩:=tU a c 0 k h;simp only[nP,Bool.and_eq_true,decide_eq_true_eq]at hc;have hcc:UInt8.ofNat (48+(c.toNat-48))=c:=by
   refine UInt8.toNat_inj.1 ?_;rw[UInt8.toNat_ofNat'];omega
  by_cases ha:a=[]
  · subst ha;simp only[dT,Option.some.injEq]at hk';subst hk';rw[Lib.decDigits_one (by omega)];grind
  ·
   have hlen:1<(a++[c]).length:=by
    have:=List.length_pos_iff.2 ha;simp;omega
   have hh:(a++[c]).head? =a.head? :=by
    cases a with
    |nil=>grind
    |cons x a=>rfl
   have ih:=aY9 m a k' (by grind) ha (fun _=>by grind) hk';have hk0:k'≠0:=by
    rintro rfl;rw[Lib.decDigits_one (by omega)]at ih;have:=h1 hlen;rw[hh,←ih]at this;exact this rfl
   rw[Lib.decDigits,dif_neg (by omega),show(10*k'+(c.toNat-48))/10=k' from by omega,ih,show 48+(10*k'+(c.toNat-48))%10=48+(c.toNat-48)from by omega,hcc]
theorem lI {s:aH}(h:bN s=some n):numW n=s:=by
 have hr:=aS8 h;unfold bN at h;split at h
 · cases h
 ·
  rename_i hb;have hb':gV s=false:=by simpa using hb
  simp only[gV,Bool.or_eq_false_iff,decide_eq_false_iff_not,Bool.and_eq_false_iff,beq_eq_false_iff_ne]at hb';split at h
  ·
   rename_i k hk;split at h
   · cases h
   · cases h;rw[qV hr.1];refine aY9 s.length s _ (Nat.le_refl _) (fun e=>by grind) (fun hl=>?_) (by grind);grind[List.head?_eq_getElem?]
  grind
variable {w:List aH}
theorem bX4 (h:w.length=1):w=[wd w 0]:=by
 match w,h with
 |[a],_=>rfl
theorem cE5 (h:w.length=2):w=[wd w 0,wd w 1]:=by
 match w,h with
 |[a,b],_=>rfl
theorem cJ6 (h:w.length=3):w=[wd w 0,wd w 1,wd w 2]:=by
 match w,h with
 |[a,b,c],_=>rfl
theorem cM8 (h:w.length=5):w=[wd w 0,wd w 1,wd w 2,wd w 3,wd w 4]:=by
 match w,h with
 |[a,b,c,d,e],_=>rfl
variable {q:Rq}
theorem bO2 (h:fO w=some q):wlR q=w:=by
 have num: ∀{k:Int} {nm:aH},(∀n:Int,wlR ⟨k,n,0,[]⟩=[nm,numW n])→w.length=2∧wd w 0=nm→(bN (wd w 1)).map (⟨k,·,0,[]⟩)=some q→wlR q=w:=by
  intro k nm h1 h2 h3;cases hv:bN (wd w 1)with
  |none=>grind
  |some n=>
   grind[lI,cE5]
 unfold fO at h;split at h
 · rename_i h1;exact num (fun n=>rfl) h1 h
 split at h
 · rename_i h1;cases h;rw[cE5 h1.1,h1.2];rfl
 split at h
 · rename_i h1;exact num (fun n=>rfl) h1 h
 split at h
 ·
  rename_i h1;split at h
  · rename_i n m hn hm;cases h;show [fN,numW n,numW m]=w;grind[lI,cJ6]
  grind
 split at h
 · rename_i h1;exact num (fun n=>rfl) h1 h
 split at h
 · rename_i h1;exact num (fun n=>rfl) h1 h
 split at h
 · rename_i h1;exact num (fun n=>rfl) h1 h
 split at h
 · rename_i h1;cases h;rw[bX4 h1.1,h1.2];rfl
 grind
theorem bO3 {n:Nd}(h:jS w=some n)(c:Int):wlN {n with c:=c}=w∧n.k≠1:=by
 unfold jS at h;split at h
 · rename_i h1;cases h;exact⟨by rw[bX4 h1.1,h1.2];rfl,by decide⟩
 split at h
 · rename_i h1;cases h;exact⟨by rw[bX4 h1.1,h1.2];rfl,by decide⟩
 split at h
 ·
  rename_i h1;cases hv:bN (wd w 1)with
  |none=>grind
  |some m=>
   rw[hv]at h;cases h;refine⟨?_,by grind⟩;show [cR,numW m]=w;grind[lI,cE5]
 grind
theorem kK : ∀(t x r:List Nd) (m:Nat),skip m t=some r→skip m (t++x)=some (r++x)
 |t,x,r,0,h=>by grind[cU]
 |[],x,r,m+1,h=>by cases h
 |n::t,x,r,m+1,h=>by
  have h':skip (m+n.c.toNat) t=some r:=h;exact kK t x r _ h'
theorem gO : ∀(f m:Nat) (t x r:List Nd),(t++x).length<f→skip m t=some r→(∀n∈t,bR n=true)→eE f m (t++x)=eE f m t
 |0,_,_,_,_,h,_,_=>by omega
 |f+1,0,t,x,r,_,_,_=>by cases t<;>cases x<;>rfl
 |f+1,m+1,[],x,r,_,h,_=>by cases h
 |f+1,m+1,n::t,x,r,hf,h,hn=>by
  have h':skip (m+n.c.toNat) t=some r:=h;have hn': ∀y∈t,bR y=true:=fun y hy=>hn y (List.mem_cons_of_mem _ hy);have hl:(t++x).length<f:=by simpa using hf
  obtain⟨c1,c2,c3,c4⟩:=dV (hn n List.mem_cons_self);simp only[List.cons_append,eE];split
  · rename_i hk;rw[c3 hk]at h';rw[gO f m t x r hl (by grind) hn']
  ·
   rw[Nat.add_comm,fJ]at h';cases hs:skip n.c.toNat t with
   |none=>grind
   |some r1=>
    rw[hs]at h';have h2:skip m r1=some r:=h';obtain⟨j,_,hj,_,_⟩:=iA t _ _ hs;have hr1:=qW hs;rw[gO f _ t x r1 hl hs hn',kK t x r1 _ hs,Option.getD_some,Option.getD_some,
     gO f m r1 x r (by grind) h2 (fun y hy=>hn' y (by grind))]
theorem zV (h:iN w=true):w=[wEnd]:=by
 unfold iN at h;simp only[Bool.and_eq_true,beq_iff_eq]at h;rw[bX4 h.1,h.2]
theorem bO4 : ∀(f:Nat),(∀ls t r,rdN f ls=(some t,r)→(∀n∈t,bR n=true)→skip 1 t=some []∧ls=eE (t.length+1) 1 t++r)∧
  (∀ls ts c r,rdK f ls=(some (ts,c),r)→(∀n∈ts,bR n=true)→0≤c∧skip c.toNat ts=some []∧ls=eE (ts.length+1) c.toNat ts++([wEnd]::r))
 |0=>⟨fun ls t r h _=>(by grind[rdN]),fun ls ts c r h _=>(by grind[rdK])⟩
 |f+1=>by
  obtain⟨ihN,ihK⟩:=bO4 f;have z0: ∀f (x:List Nd),eE f 0 x=[]:=fun f x=>by cases f<;>cases x<;>rfl
  refine⟨fun ls t r h hn=>?_,fun ls ts c r h hn=>?_⟩
  ·
   cases ls with
   |nil=>grind[rdN]
   |cons w rest=>
    simp only[rdN]at h;split at h
    · rename_i q hq;cases h;refine⟨rfl,?_⟩;simp only[List.length_singleton,eE];rw[if_pos trivial,bO2 hq];grind
    ·
     split at h
     · cases h
     ·
      rename_i n hin;cases hk:rdK f rest with
      |mk o r'=>
       rw[hk]at h;cases o with
       |none=>cases h
       |some p=>
        obtain⟨ts,c⟩:=p;simp only[Prod.mk.injEq,Option.some.injEq]at h;obtain⟨rfl,rfl⟩:=h;obtain⟨g1,g2,g3⟩:=ihK _ _ _ _ hk fun x hx=>hn x (List.mem_cons_of_mem _ hx);obtain⟨e1,e2⟩:=bO3 hin c;refine⟨?_,?_⟩
        · show skip (0+c.toNat) ts=some [];rw[Nat.zero_add];exact g2
        · simp only[List.length_cons,eE];rw[if_neg e2,e1,g3];simp[z0]
  ·
   simp only[rdK]at h;split at h
   ·
    rename_i he;cases h;cases ls with
    |nil=>simp[iN]at he
    |cons w rest=>
     have:=zV he;simp only[List.headD_cons]at this;subst this;exact⟨by omega,rfl,rfl⟩
   ·
    cases h1:rdN f ls with
    |mk o r1=>
     rw[h1]at h;cases o with
     |none=>cases h
     |some t=>
      simp only at h;cases h2:rdK f r1 with
      |mk o2 r2=>
       rw[h2]at h;cases o2 with
       |none=>cases h
       |some p=>
        obtain⟨ts2,c2⟩:=p;simp only[Prod.mk.injEq,Option.some.injEq]at h;obtain⟨⟨rfl,rfl⟩,rfl⟩:=h;obtain⟨a1,a2⟩:=ihN _ _ _ h1 fun x hx=>hn x (List.mem_append_left _ hx);have hn2: ∀n∈ts2,bR n=true:=fun x hx=>hn x (List.mem_append_right _ hx);obtain⟨b1,b2,b3⟩:=ihK _ _ _ _ h2 hn2;have e:(c2+1).toNat=1+c2.toNat:=by omega
        have s1:=kK t ts2 [] 1 a1;rw[List.nil_append]at s1;refine⟨by omega,?_,?_⟩
        · rw[e,fJ,s1];exact b2
        ·
         rw[a2,b3,e,nV ((t++ts2).length+1) 1 c2.toNat (t++ts2) ts2 (Nat.lt_succ_self _) s1 hn _ b2,
          gO _ 1 t ts2 [] (Nat.lt_succ_self _) a1 (fun x hx=>hn x (List.mem_append_left _ hx)),
          fR (t.length+1) 1 t [] (by omega) a1 (fun x hx=>hn x (List.mem_append_left _ hx)) ((t++ts2).length+1) (by simp),
          fR (ts2.length+1) _ ts2 [] (by omega) b2 hn2 ((t++ts2).length+1) (by simp)]
         simp
variable {r:List (List aH)}
theorem bX5 {x:Pr}(h:rdR ls=(some x,r))(hv:dK x.t=true):ls=iW x++r∧r.length<ls.length:=by
 cases ls with
 |nil=>grind[rdR]
 |cons w rest=>
  simp only[rdR]at h;split at h
  ·
   rename_i h1;split at h
   · cases h
   ·
    rename_i g hg;cases ht:rdT rest with
    |mk o r'=>
     rw[ht]at h;cases o with
     |none=>cases h
     |some t=>
      simp only[Prod.mk.injEq,Option.some.injEq]at h;obtain⟨rfl,rfl⟩:=h;obtain⟨-,g2⟩:=(bO4 _).1 _ _ _ ht (lA hv).node;have hw:=cM8 h1.1;rw[h1.2]at hw;refine⟨?_,?_⟩
      · show w::rest=([wRule,wd w 1,wd w 2,wd w 3,numW g]::aT5 t)++r';rw[lI hg,←hw,g2];rfl
      grind
  grind
theorem aM2 : ∀(f:Nat) (ls:List (List aH)) (a l:List Pr) (r:List (List aH)),kU f ls a=(some l,r)→(∀x∈l,dK x.t=true)→ ∃m,l=a++m∧ls=m.flatMap iW∧r=[]
 |0,ls,a,l,r,h,_=>by grind[kU]
 |f+1,ls,a,l,r,h,hv=>by
  simp only[kU]at h;split at h
  · simp_all
  ·
   cases hr:rdR ls with
   |mk o r1=>
    rw[hr]at h;cases o with
    |none=>cases h
    |some x=>
     obtain⟨m,rfl,hm,hr0⟩:=aM2 f r1 (a++[x]) l r h hv;obtain⟨g1,g2⟩:=bX5 hr (hv x (by simp));grind
variable {p:Po}
theorem bX6 (h:rdP ls=(some p,r))(hv:eU p=true):ls=mA p:=by
 have ht: ∀x∈p.r,dK x.t=true:=fun x hx=>by simp_all[eU,Bool.and_eq_true,List.all_eq_true,iL]
 cases ls with
 |nil=>grind[rdP]
 |cons w rest=>
  simp only[rdP]at h;split at h
  ·
   rename_i h1;split at h
   · cases h
   ·
    rename_i v hg;cases hr:kU (rest.length+1) rest []with
    |mk o r'=>
     rw[hr]at h;cases o with
     |none=>cases h
     |some l=>
      simp only[Prod.mk.injEq,Option.some.injEq]at h;obtain⟨rfl,rfl⟩:=h;obtain⟨m,rfl,hm,-⟩:=aM2 _ _ _ _ _ hr ht;have hw:=cJ6 h1.1;rw[h1.2]at hw;show w::rest=[wPolicy,wd w 1,numW v]::_;rw[lI hg,←hw,hm]
  grind
variable {b:aH}
theorem bO5 (h:iT b=0):jX (fT b)=0∧nH (fT b)=b:=by
 have hO:fT b=(gI b).getD []:=by unfold fT;grind
 unfold iT at h;split at h
 · cases h
 ·
  rename_i hb;cases hv:gI b with
  |none=>grind
  |some ls=>
   rw[hv]at h hO;simp only at h;split at h
   · cases h
   ·
    rename_i hl;rw[hO,Option.getD_some];by_cases hne:b=[]
    · grind[gI,jX,fK,nH]
    ·
     have hlast: ∃m,b=m++[10]:=by
      unfold gI at hv;rw[if_neg hne]at hv;split at hv
      · grind[nQ]
      · grind
     obtain⟨m,rfl⟩:=hlast;rw[zU]at hv;cases hu:(aR 10 m).mapM unL with
     |none=>grind[xX]
     |some ls'=>
      rw[bN3 hu]at hv;split at hv
      ·
       rename_i hall;cases hv;have hd:=bE9 hu;have hE:jX ls=0:=by simp_all[aD3,List.all_eq_true,if_neg]
       grind[uL]
      grind
theorem cE6 (h0:iT b=0)(h:rdP (fT b)=(some p,r)):(sU p=0∧oV p=b)↔eU p=true:=by
 constructor
 · grind[sU]
 · intro hv;have hl:=bX6 h hv;obtain⟨e1,e2⟩:=bO5 h0;simp_all[sU,oV,if_pos]
theorem mC {a b:Int}:inB n a b=true↔a≤n∧n≤b:=by unfold inB;simp
theorem bO6 (h:dR q=true):fO (wlR q)=some q:=by
 obtain⟨k,n,m,t⟩:=q;have hv: ∀{a b:Int},inB n a b=true→0≤a→b≤1099511627776→bN (numW n)=some n:=fun h h1 h2=>by grind[mC,lF]
 unfold dR at h;simp only at h;split at h
 ·
  rename_i h1;simp only[Bool.and_eq_true,beq_iff_eq]at h;obtain⟨h2,rfl,rfl⟩:=h;have hn:=hv h2 (by omega) (by omega);rcases h1 with rfl|rfl|rfl
  · show(bN (numW n)).map _=_;grind
  · show(bN (numW n)).map _=_;grind
  · show(bN (numW n)).map _=_;grind
 split at h
 · rename_i h1;subst h1;simp only[Bool.and_eq_true,beq_iff_eq]at h;obtain⟨h2,h3,rfl⟩:=h;have hn:=hv h2 (by omega) (by omega);rw[mC]at h3;have hm:bN (numW m)=some m:=lF (by omega) (by omega);show(match bN (numW n),bN (numW m)with|some n,some m=>some (⟨4,n,m,[]⟩:Rq)|_,_=>none)=_;grind
 split at h
 · rename_i h1;subst h1;simp only[Bool.and_eq_true,beq_iff_eq]at h;obtain⟨-,rfl,rfl⟩:=h;rfl
 split at h
 · rename_i h1;subst h1;simp only[Bool.and_eq_true,beq_iff_eq]at h;obtain⟨h2,rfl,rfl⟩:=h;have hn:=hv h2 (by omega) (by omega);show(bN (numW n)).map _=_;grind
 split at h
 · rename_i h1;subst h1;simp only[Bool.and_eq_true,beq_iff_eq]at h;obtain⟨h2,rfl,rfl⟩:=h;have hn:=hv h2 (by omega) (by rw[fZ];omega);show(bN (numW n)).map _=_;grind
 split at h
 · rename_i h1;subst h1;simp only[Bool.and_eq_true,beq_iff_eq]at h;obtain⟨rfl,rfl,rfl⟩:=h;rfl
 grind
theorem bO7 {n:Nd}(h:bR n=true)(hk:n.k≠1):jS (wlN n)=some {n with c:=0}∧fO (wlN n)=none:=by
 obtain⟨k,a,c,q⟩:=n;unfold bR at h;simp only at h hk;rw[if_neg hk]at h;split at h
 · rename_i h1;simp only[Bool.and_eq_true,beq_iff_eq,vS]at h;obtain⟨-,rfl,rfl⟩:=h;rcases h1 with rfl|rfl<;>exact⟨rfl,rfl⟩
 split at h
 · rename_i h1;subst h1;simp only[Bool.and_eq_true,vS,mC]at h;obtain⟨⟨c1,c2⟩,rfl,a1,a2⟩:=h;refine⟨?_,rfl⟩;show(bN (numW a)).map _=_;grind[lF]
 grind
theorem wS {r:List Nd}(h:skip m l=some r): ∃t,l=t++r∧skip m t=some []:=by
 induction l generalizing m with
 |nil=>
  cases m with
  |zero=>rw[cU]at h;cases h;exact⟨[],rfl,rfl⟩
  |succ m=>cases h
 |cons n l ih=>
  cases m with
  |zero=>rw[cU]at h;cases h;exact⟨[],rfl,rfl⟩
  |succ m=>
   obtain⟨t,h1,h2⟩:=ih (m:=m+n.c.toNat) h;exact⟨n::t,by rw[h1];rfl,h2⟩
theorem aT6 {n:Nd}(h:bR n=true)(hk:n.k≠1):iN (wlN n)=false:=by
 unfold wlN;split
 · rfl
 ·
  split
  · rfl
  · rfl
theorem aT7 (q:Rq):iN (wlR q)=false:=by
 unfold wlR
 repeat' split
 all_goals rfl
theorem bO8 : ∀(f:Nat),(∀t rest,skip 1 t=some []→(∀n∈t,bR n=true)→2*t.length≤f→rdN f (eE (t.length+1) 1 t++rest)=(some t,rest))∧
  (∀ts c rest,skip c ts=some []→(∀n∈ts,bR n=true)→2*ts.length+1≤f→rdK f (eE (ts.length+1) c ts++([wEnd]::rest))=(some (ts,(c:Int)),rest))
 |0=>⟨fun t rest h _ hf=>(by
   have:t=[]:=List.eq_nil_of_length_eq_zero (by omega);subst this;cases h),fun ts c rest _ _ hf=>by omega⟩
 |f+1=>by
  obtain⟨ihN,ihK⟩:=bO8 f;have z0: ∀f (x:List Nd),eE f 0 x=[]:=fun f x=>by cases f<;>cases x<;>rfl
  refine⟨fun t rest h hn hf=>?_,fun ts c rest h hn hf=>?_⟩
  ·
   cases t with
   |nil=>cases h
   |cons n ts=>
    have hnn:=hn n List.mem_cons_self;have hn': ∀x∈ts,bR x=true:=fun x hx=>hn x (List.mem_cons_of_mem _ hx);have h':skip (0+n.c.toNat) ts=some []:=h;rw[Nat.zero_add]at h';obtain⟨c1,c2,c3,c4⟩:=dV hnn;simp only[List.length_cons,eE];by_cases hk:n.k=1
    ·
     rw[if_pos hk];rw[c3 hk]at h';have:ts=[]:=by
      cases ts with
      |nil=>rfl
      |cons a b=>grind[skip,cU]
     subst this;have hq:dR n.q=true∧n.n=0:=by
      unfold bR at hnn;rw[if_pos hk]at hnn;simp only[Bool.and_eq_true,beq_iff_eq]at hnn;exact⟨hnn.2.2,hnn.2.1⟩
     simp only[List.cons_append,List.nil_append,rdN,bO6 hq.1];obtain⟨k,a,c,q⟩:=n;simp only at hk hq c3;rw[hk,hq.2,c3 hk]
    ·
     rw[if_neg hk];obtain⟨e1,e2⟩:=bO7 hnn hk;have:=ihK ts n.c.toNat rest h' hn' (by grind);simp only[List.cons_append,List.append_assoc,List.nil_append,rdN,e2,e1,this];have:((n.c.toNat:Nat):Int)=n.c:=by omega
     rw[this]
  ·
   cases c with
   |zero=>
    rw[cU]at h;cases h;rw[z0];simp only[List.nil_append,rdK,List.headD_cons,show iN [wEnd]=true from rfl,if_true,List.tail_cons];rfl
   |succ c=>
    rw[Nat.add_comm,fJ]at h;cases h1:skip 1 ts with
    |none=>grind
    |some r=>
     rw[h1]at h;have h2:skip c r=some []:=h;obtain⟨t,rfl,ht⟩:=wS h1;have hnt: ∀x∈t,bR x=true:=fun x hx=>hn x (List.mem_append_left _ hx);have hnr: ∀x∈r,bR x=true:=fun x hx=>hn x (List.mem_append_right _ hx);have ht1:1≤t.length:=by
      cases t with
      |nil=>cases ht
      |cons _ _=>simp
     simp only[List.length_append]at hf;have e:eE ((t++r).length+1) (c+1) (t++r)=eE (t.length+1) 1 t++eE (r.length+1) c r:=by
      rw[Nat.add_comm c 1,nV _ 1 c (t++r) r (Nat.lt_succ_self _) h1 hn _ h2,gO _ 1 t r [] (Nat.lt_succ_self _) ht hnt,
       fR (t.length+1) 1 t [] (by omega) ht hnt ((t++r).length+1) (by simp),fR (r.length+1) c r [] (by omega) h2 hnr ((t++r).length+1) (by simp)]
     rw[e,List.append_assoc];have a1:=ihN t (eE (r.length+1) c r++[wEnd]::rest) ht hnt (by omega);have a2:=ihK r c rest h2 hnr (by omega);have hne:iN ((eE (t.length+1) 1 t++(eE (r.length+1) c r++[wEnd]::rest)).headD [])=false:=by
      cases t with
      |nil=>cases ht
      |cons n t=>
       simp only[List.length_cons,eE];split
       · exact aT7 _
       · rename_i hk;exact aT6 (hnt n List.mem_cons_self) hk
     simp only[rdK];rw[hne];simp only[Bool.false_eq_true,if_false,a1,a2];have:((c:Nat):Int)+1=((c+1:Nat):Int):=by omega
     rw[this]
theorem uN : ∀(f m:Nat) (l:List Nd),l.length<f→skip m l=some []→(∀n∈l,bR n=true)→l.length≤(eE f m l).length
 |0,_,_,h,_,_=>by omega
 |f+1,m,[],_,_,_=>by simp
 |f+1,0,n::l,_,h,_=>by rw[cU]at h;cases h
 |f+1,m+1,n::l,hf,h,hn=>by
  have h':skip (m+n.c.toNat) l=some []:=h;have hn': ∀y∈l,bR y=true:=fun y hy=>hn y (List.mem_cons_of_mem _ hy);have hl:l.length<f:=by simpa using hf
  obtain⟨c1,c2,c3,c4⟩:=dV (hn n List.mem_cons_self);simp only[eE];split
  · rename_i hk;rw[c3 hk]at h';have:=uN f m l hl (by simpa using h') hn';simp only[List.length_cons];omega
  ·
   rw[Nat.add_comm,fJ]at h';cases hs:skip n.c.toNat l with
   |none=>rw[hs]at h';cases h'
   |some r1=>
    rw[hs]at h';have h2:skip m r1=some []:=h';obtain⟨t,rfl,ht⟩:=wS hs;simp only[List.length_append]at hl;have hnt: ∀x∈t,bR x=true:=fun x hx=>hn' x (List.mem_append_left _ hx);have a1:=uN f _ t (by omega) ht hnt;have a2:=uN f m r1 (by omega) h2 (fun x hx=>hn' x (List.mem_append_right _ hx));rw[Option.getD_some,gO f _ t r1 [] (by simp;omega) ht hnt];simp only[List.length_cons,List.length_append];omega
variable {t:List Nd}
theorem bX7 (h:IsTree t)(rest:List (List aH)):rdT (aT5 t++rest)=(some t,rest):=by
 have:=uN (t.length+1) 1 t (by omega) h.skip h.node;exact(bO8 _).1 t rest h.skip h.node (by simp only[aT5,List.length_append];omega)
theorem lJ {r:Pr}(h:iL r=true):(0≤r.g∧r.g≤1099511627776)∧IsTree r.t∧dG r.a=true∧(eP r.b).isSome=true∧(eP r.c).isSome=true:=by
 unfold iL at h;simp only[Bool.and_eq_true,mC]at h;obtain⟨h1,h2,h3,⟨h4,h5⟩,h6⟩:=h;rw[fZ]at h5;exact⟨⟨h4,h5⟩,lA h6,h1,h2,h3⟩
theorem bX8 {r:Pr}(h:iL r=true)(rest:List (List aH)):rdR (iW r++rest)=(some r,rest):=by
 obtain⟨⟨g0,g1⟩,ht,-⟩:=lJ h;show rdR ([wRule,r.a,r.b,r.c,numW r.g]::(aT5 r.t++rest))=_;unfold rdR;simp only;rw[if_pos ⟨rfl,rfl⟩];have:bN (wd [wRule,r.a,r.b,r.c,numW r.g] 4)=some r.g:=lF g0 g1;rw[this];simp only;rw[bX7 ht];rfl
theorem aM3 : ∀(l a:List Pr) (f:Nat),(∀r∈l,iL r=true)→l.length<f→kU f (l.flatMap iW) a=(some (a++l),[])
 |[],a,f,_,hf=>by
  obtain⟨g,rfl⟩: ∃g,f=g+1:=⟨f-1,by simp at hf;omega⟩;simp[kU]
 |r::l,a,f,h,hf=>by
  obtain⟨g,rfl⟩: ∃g,f=g+1:=⟨f-1,by simp at hf;omega⟩;simp only[List.flatMap_cons,kU];rw[if_neg (by simp[iW]),bX8 (h r List.mem_cons_self)];simp only;rw[aM3 l (a++[r]) g (fun x hx=>h x (List.mem_cons_of_mem _ hx)) (by simp at hf;omega)];simp
theorem aZ0 : ∀l:List Pr,l.length≤(l.flatMap iW).length
 |[]=>by simp
 |r::l=>by have:=aZ0 l;simp[iW]at this⊢;omega
theorem uO (h:eU p=true):(1≤p.v∧p.v≤1099511627776)∧p.r.length≤16∧dG p.n=true∧ ∀r∈p.r,iL r=true:=by
 unfold eU at h;simp only[Bool.and_eq_true,mC,decide_eq_true_eq,List.all_eq_true]at h;obtain⟨h1,⟨h2,h3⟩,h4,h5,-⟩:=h;rw[fZ]at h3;exact⟨⟨h2,h3⟩,h4,h1,h5⟩
theorem bX9 (h:eU p=true):rdP (mA p)=(some p,[]):=by
 obtain⟨⟨v0,v1⟩,-,-,hr⟩:=uO h;show rdP ([wPolicy,p.n,numW p.v]::p.r.flatMap iW)=_;unfold rdP;simp only;rw[if_pos ⟨rfl,rfl⟩];have:bN (wd [wPolicy,p.n,numW p.v] 2)=some p.v:=lF (by omega) v1;rw[this];simp only;rw[aM3 p.r [] _ hr (by have:=aZ0 p.r;omega)];rfl
theorem bF5 (h:sU p=0):dpE (oV p)=0∧dpO (oV p)=p∧dpL (oV p)=0:=by
 have hv:eU p=true:=by
  unfold sU at h;split at h
  · assumption
  · cases h
 have he:jX (mA p)=0:=by unfold sU at h;rw[if_pos hv]at h;exact h
 have hb:oV p=nH (mA p):=by unfold oV;rw[if_pos hv]
 obtain⟨h1,h2⟩:=bX3 he;have hr:=bX9 hv;rw[hb];have hE:dpE (nH (mA p))=0:=by unfold dpE;rw[if_neg (by rw[h1];simp),h2,hr];simp only;rw[if_pos hv]
 exact⟨hE,by unfold dpO;rw[if_pos hE,h2,hr];rfl,by unfold dpL;rw[if_neg (by rw[h1];simp),h2,hr]⟩
theorem aZ1 : ∀(l:List Nd) (m:Nat) (v:Int),skip m l=some []→(∀n∈l,bR n=true)→qF l m v=some (0,v+lv l)
 |[],0,v,_,_=>by simp[qF,lv]
 |[],m+1,v,h,_=>by cases h
 |n::l,0,v,h,_=>by grind[cU]
 |n::l,m+1,v,h,hn=>by
  have h':skip (m+n.c.toNat) l=some []:=h;have hnn:=hn n List.mem_cons_self;obtain⟨c1,c2,c3,c4⟩:=dV hnn;have e:((m+1:Nat):Int)+(n.c-1)=((m+n.c.toNat:Nat):Int):=by omega
  rw[qF,if_neg (by omega),if_pos hnn,e,aZ1 l _ _ h' (fun x hx=>hn x (List.mem_cons_of_mem _ hx)),lv];grind
theorem aM4 (h:IsTree l):dK l=true:=by
 unfold dK;have:=aZ1 l 1 0 h.skip h.node;rw[show((1:Nat):Int)=1 from rfl]at this;rw[this];have:=h.lv;simp[h.ne,h.len];omega
def uni (l:List (Nat×Nat)):List (Nat×Nat):=l.eraseDups
def wT (f:Nat→List (Nat×Nat)):Nat→Nat→Nat×Nat→List (Nat×Nat)
 |0,_,p=>[p]
 |c+1,n,p=>uni ((f n).flatMap fun q=>wT f c (n+q.1) (p.1+q.1,p.2+q.2))
def pos :Nat→Nat→List (Nat×Nat)
 |0,_=>[(1,1)]
 |d+1,n=>uni ((1,1)::if n≤8 then(List.range 3).flatMap fun c=>wT (pos d) (c+1) (n+1) (1,0)else [])
theorem oQ {l:List (Nat×Nat)}{p:Nat×Nat}:p∈uni l↔p∈l:=by unfold uni;simp_all
theorem zW {f:Nat→List (Nat×Nat)}: ∀{c n:Nat} {p q r:Nat×Nat},q∈wT f c n p→r∈f (n+(q.1-p.1))→p.1≤q.1→(q.1+r.1,q.2+r.2)∈wT f (c+1) n p
 |0,n,p,q,r,hq,hr,_=>by simp_all[wT,List.mem_singleton,Nat.sub_self,Nat.add_zero,oQ,List.mem_flatMap]
 |c+1,n,p,q,r,hq,hr,hpq=>by
  unfold wT at hq⊢;rw[oQ,List.mem_flatMap]at hq⊢;obtain⟨s,hs,hq⟩:=hq;have hle:p.1+s.1≤q.1:=by
   have key: ∀(c n:Nat) (p q:Nat×Nat),q∈wT f c n p→p.1≤q.1:=by
    intro c;induction c with
    |zero=>simp_all[wT,List.mem_singleton,Nat.le_refl]
    |succ c ih=>
     grind[wT,oQ]
   exact key _ _ _ _ hq
  refine⟨s,hs,zW hq ?_ hle⟩;grind
structure Made (d n:Nat)(t:List Nd):Prop where
 skip:skip 1 t=some []
 node: ∀n∈t,bR n=true
 pos:(t.length,lv t)∈pos d n
theorem bY0 (h:Made 3 0 t):IsTree t:=by
 have hb: ∀p∈pos 3 0,1≤p.1∧p.1≤60∧p.2≤16:=by decide+kernel
 obtain⟨h1,h2,h3⟩:=hb _ h.pos;exact⟨h1,h2,h.skip,h.node,h3⟩
variable {d:Nat}
theorem zX {n:Nat}(h:dR q=true):Made d n [⟨1,0,0,q⟩]:=by
 refine⟨rfl,fun x hx=>?_,?_⟩
 · simp only[List.mem_singleton]at hx;subst hx;unfold bR;rw[if_pos rfl,h];rfl
 ·
  cases d with
  |zero=>simp[pos,lv]
  |succ d=>rw[pos,oQ];exact List.mem_cons_self
structure MadeK (d n k:Nat)(ts:List Nd):Prop where
 skip:skip k ts=some []
 node: ∀n∈ts,bR n=true
 pos:(1+ts.length,lv ts)∈wT (pos d) k (n+1) (1,0)
theorem MadeK.zero (d n:Nat):MadeK d n 0 []:=⟨rfl,by simp,by simp[wT,lv]⟩
variable {ts:List Nd}
theorem MadeK.next {n:Nat}(h:MadeK d n k ts)(ht:Made d (n+1+ts.length) t):MadeK d n (k+1) (ts++t):=by
 refine⟨?_,fun x hx=>?_,?_⟩
 · rw[fJ,kK ts t [] k h.skip];exact ht.skip
 ·
  rcases List.mem_append.1 hx with hx|hx
  · exact h.node x hx
  · exact ht.node x hx
 ·
  have:=zW (r:=(t.length,lv t)) h.pos (by
   rw[show n+1+(1+ts.length-1)=n+1+ts.length from by omega];exact ht.pos) (by simp)
  grind[sD,Nat.add_assoc]
theorem MadeK.fin {n:Nat}{x:Nd}{c:Nat}(h:MadeK d n c ts)(hn:n≤8)(hx:bR x=true)(hk:x.k≠1)(hc:x.c=c)(h1:1≤c)(h3:c≤3):Made (d+1) n (x::ts):=by
 refine⟨?_,fun y hy=>?_,?_⟩
 · show Pl.skip (0+x.c.toNat) ts=some [];rw[hc,Nat.zero_add];exact h.skip
 ·
  rcases List.mem_cons.1 hy with rfl|hy
  · grind
  · exact h.node y hy
 · rw[Pl.pos,oQ];refine List.mem_cons_of_mem _ ?_;rw[if_pos hn,List.mem_flatMap];refine⟨c-1,List.mem_range.2 (by omega),?_⟩;rw[show c-1+1=c from by omega];have:=h.pos;simp_all[lv,if_neg,List.length_cons,Nat.add_comm]
structure Ms where
 n:aH
 v:Int
 r:List Pr
 o:List Nat
 d:Bool
theorem bO9 : ∀(f:Nat),(∀ls t r,rdN f ls=(some t,r)→r.length<ls.length)∧(∀ls p r,rdK f ls=(some p,r)→r.length<ls.length)
 |0=>⟨fun ls t r h=>(by simp only[rdN]at h;cases h),fun ls p r h=>(by simp only[rdK]at h;cases h)⟩
 |f+1=>by
  obtain⟨ihN,ihK⟩:=bO9 f;refine⟨fun ls t r h=>?_,fun ls p r h=>?_⟩
  ·
   cases ls with
   |nil=>simp only[rdN]at h;cases h
   |cons w rest=>
    simp only[rdN]at h;split at h
    · cases h;simp
    ·
     split at h
     · cases h
     ·
      cases hk:rdK f rest with
      |mk o r'=>
       rw[hk]at h;cases o with
       |none=>cases h
       |some p=>
        cases h;have:=ihK _ _ _ hk;simp only[List.length_cons];omega
  ·
   simp only[rdK]at h;split at h
   ·
    rename_i he;cases h;cases ls with
    |nil=>simp[iN]at he
    |cons w rest=>simp
   ·
    cases h1:rdN f ls with
    |mk o r1=>
     rw[h1]at h;cases o with
     |none=>cases h
     |some t=>
      simp only at h;cases h2:rdK f r1 with
      |mk o2 r2=>
       rw[h2]at h;cases o2 with
       |none=>cases h
       |some q=>
        cases h;have a:=ihN _ _ _ h1;have b:=ihK _ _ _ h2;omega
theorem innR_c {n:Nd}(h:jS w=some n):n.c=0∧iN w=false:=by
 refine⟨?_,?_⟩
 ·
  unfold jS at h;split at h
  · cases h;rfl
  split at h
  · cases h;rfl
  split at h
  ·
   cases hv:bN (wd w 1)with
   |none=>rw[hv]at h;cases h
   |some m=>rw[hv]at h;cases h;rfl
  · cases h
 ·
  cases he:iN w with
  |false=>rfl
  |true=>rw[zV he]at h;cases h
theorem wU {w:aH}(h:dG w=true):1≤w.length∧w.length≤64:=by
 cases w with
 |nil=>cases h
 |cons c r=>
  simp_all[dG,Bool.and_eq_true,decide_eq_true_eq]
def bP0 (p:Po):Prop:=eU p=true∧p.r.length≤2∧ ∀r∈p.r,r.b.length≤80∧r.c.length≤80∧r.t.length≤40
def zY (ns im:aH)(r:Pr):Bool:=lU r.b ns&&lU r.c im
def bP1 (p:Po)(ns im:aH):Int:=if eU p then match p.r.findIdx? (zY ns im)with|some i=>(i:Int)|none=> -1 else-1
theorem bP2 {ns im:aH}(hp:eU p=false):bP1 p ns im= -1:=by
 unfold bP1;rw[if_neg (by rw[hp];simp)]
def aM5 (n:Int):Nd:=⟨1,0,0,⟨1,n,0,[]⟩⟩
def awT :List Nd:=[⟨4,2,3,rq0⟩,aM5 1,aM5 2,aM5 3]
def awP :Po:=⟨[112],1,[⟨[114],[112,114,111,100,47,42,42],[42],5,awT⟩]⟩
theorem cE7 :dK awT=true:=by decide
theorem cE8 :eU awP=true:=by decide+kernel
theorem bP3 :wM awT [true,false,true]=true:=by decide
theorem bP4 :wM awT [true]=false:=by decide
theorem lK :(jC awT).length=3:=by decide
theorem qX :(sO awT 0).length=3:=by decide
theorem cE9 :bP1 awP [112,114,111,100,47,101,117] [119,101,98]=0:=by decide+kernel
theorem bEq {c d:UInt8}(h:((c.toNat:Int)==(d.toNat:Int))=true):c=d:=by
 have h1:=eq_of_beq h;exact UInt8.toNat_inj.1 (by omega)
theorem bNe {c d:UInt8}(h:((c.toNat:Int)==(d.toNat:Int))=false):c≠d:=by
 intro e;subst e;simp at h
variable {c:UInt8}
theorem aM6 {l:List UInt8}(h: ¬dW l c<0):c∈l:=by
 unfold dW at h;cases e:l.findIdx? (· ==c)with
 |none=>rw[e]at h;simp at h
 |some i=>
  obtain⟨hi,h1,_⟩:=List.findIdx?_eq_some_iff_getElem.1 e;have:=eq_of_beq h1;rw[←this];exact List.getElem_mem hi
theorem tV {l:List UInt8}(h:dW l c<0):c∉l:=by
 unfold dW at h;cases e:l.findIdx? (· ==c)with
 |none=>
  intro hc;have:=List.findIdx?_eq_none_iff.1 e c hc;simp at this
 |some i=>rw[e]at h;simp only at h;omega
theorem qY {p:aH}(h:p.length<1∨200<p.length):eP p=none:=by unfold eP;rw[if_pos h]
theorem aE6 {p:aH}(h1:1≤p.length)(h2:p.length≤200):eP p=patP p:=by unfold eP;rw[if_neg (by omega)]
end Go.Pl
namespace Go.Proofs.YtlldglbooaefhaaGreatDoor
open Go Go.Hl Go.Pl
set_option maxRecDepth 10000
set_option maxHeartbeats 16000000
theorem aM7 (p:aH):gT Tryz.prog 83 [.str p] (fun u v=>u= .slc (((eP p).getD []).map Pt.cv)∧v= .bool (eP p).isSome):=by
 refine FW Tryz.func83 ?_;refine R0 ?_;refine aC fun K hK=>?_;refine aC fun K hK=>Rg ?_;iterate 4 refine S0 ?_
 refine aE 8 rfl (fun h1_8=>?_) (fun h1_8=>?_)
 ·
  have F:=h1_8;iterate 9 refine SF ?_
  refine T2 (hK _ _ _ ?_);clear hK K;refine CT rfl ?_;refine R0 ?_;refine aF (RT Tryz.results83 ?_);have hn:eP p=none:=qY (by simp at h1_8;omega);refine aX [] (.slc []) (.bool false) ?_ ⟨by rw[hn];rfl,by rw[hn];rfl⟩;simp[HV.close,HV.closeL,CV.denil,CV.denilL,HV.norm,HV.toC,HV.toCL]
 have F:=h1_8;iterate 5 refine SF ?_
 refine aE 12 rfl (fun h1_12=>?_) (fun h1_12=>?_)
 ·
  have F:=aI h1_8 h1_12;iterate 4 refine SF ?_
  refine T2 (hK _ _ _ ?_);clear hK K;refine CT rfl ?_;refine R0 ?_;refine aF (RT Tryz.results83 ?_);have hn:eP p=none:=qY (by simp at h1_12;omega);refine aX [] (.slc []) (.bool false) ?_ ⟨by rw[hn];rfl,by rw[hn];rfl⟩;simp[HV.close,HV.closeL,CV.denil,CV.denilL,HV.norm,HV.toC,HV.toCL]
 have F:=aI h1_8 h1_12;refine SF ?_;refine bE (g:=some (14,false)) rfl rfl fun K' hK'=>T6 ?_;refine C2 (qS p 0) ?_;rintro u rfl;refine AX (hK' _ _ ?_);clear hK' K';iterate 2 refine SF ?_
 refine aE 17 rfl (fun h1_17=>?_) (fun h1_17=>?_)
 ·
  simp only[h1_17];refine T2 (hK _ _ _ ?_);clear hK K;refine CT rfl ?_;refine R0 ?_;refine aF (RT Tryz.results83 ?_);have hn:eP p=none:=by
   rw[aE6 (by simp at h1_8;omega) (by simp at h1_12;omega)];exact jG p.length p (Nat.le_refl _) (aM6 (by simpa using h1_17))
  refine aX [] (.slc []) (.bool false) ?_ ⟨by rw[hn];rfl,by rw[hn];rfl⟩;simp[HV.close,HV.closeL,CV.denil,CV.denilL,HV.norm,HV.toC,HV.toCL]
 simp only[h1_17];refine T2 (hK _ _ _ ?_);clear hK K;refine CF rfl ?_;refine aK ?_;refine T0 (hK _ _ _ ?_);clear hK K;have hpv:=aE6 (p:=p) (by simp at h1_8;omega) (by simp at h1_12;omega);have hl:p.length≤200:=by simp at h1_12;omega
 have hz0:(0:UInt8)∉p:=tV (by simpa using h1_17);have hz: ∀(i:Nat) (h:i<p.length),p[i]≠0:=fun i h e=>hz0 (e▸List.getElem_mem h);clear h1_8 h1_12 h1_17;refine R0 ?_;refine aC fun K hK=>?_;refine R0 ?_;refine aM ?_;refine nC 4 0 140 2 rfl rfl rfl rfl ?_;refine bI (α:={y:Nat×List Pt//PatSt p y.1 y.2}) (fun y=>(fin [(0,.c (.str p)),(4,.own 68 y.1.2.length),(5,.c (.int .i64 y.1.1))],fob [(68,.row 140 2 (y.1.2.map Pt.cv))])) 100 (fun y=>p.length-y.1.1) ⟨(0,[]),PatSt.init p⟩ (fF) ?_;rintro⟨⟨i,out⟩,hst⟩;simp only at hst;have hi:=hst.1;have ho:=hst.2.2.1;refine aC fun K hK=>?_;refine aC fun K hK=>Rg ?_;iterate 4 refine S0 ?_
 refine T2 (hK _ _ _ ?_);clear hK K;refine aG (b:=decide ((i:Int)<p.length)) rfl (fun hb=>?_) (fun hb=>?_)
 ·
  have hlt:i<p.length:=by simpa using hb
  clear hb;have hgd:p.getD i 0=p[i]:=by simp[hlt]
  have hw1:IntKind.i64.wrap ((i:Int)+1)=((i+1:Nat):Int):=by rw[IntWalk.i64_in _ (by omega)];rfl
  have hw2:IntKind.i64.wrap (((i+1:Nat):Int)+1)=((i+2:Nat):Int):=by rw[IntWalk.i64_in _ (by omega)];rfl
  refine aK ?_;refine T0 (hK _ _ _ ?_);clear hK K;refine aC fun K hK=>?_;refine aM ?_;refine aM ?_;refine aC fun K hK=>Rg ?_;iterate 5 refine S0 ?_ (e:=fun _ h_=>by simp only[sH,↓sP,sA,tyS,simprocAttr,Int.natCast_nonneg,Int.ofNat_lt,hlt,hgd];exact AX h_)
  refine T2 (hK _ _ _ ?_);clear hK K;refine aG (b:=((p[i].toNat:Int)==92)) rfl (fun hb=>?_) (fun hb=>?_)
  ·
   have h92:p[i]=92:=bEq (d:=92) hb;clear hb;have F:=hw1;refine RF ?_;refine aC fun K hK=>?_;refine aC fun K hK=>Rg ?_;iterate 4 refine S0 ?_
   refine T2 (hK _ _ _ ?_);clear hK K;refine aG (b:=(((i+1:Nat):Int)==((p.length:Nat):Int))) rfl (fun hb=>?_) (fun hb=>?_)
   ·
    have hie:i+1=p.length:=by have:=eq_of_beq hb;omega
    refine R0 ?_;refine aF (RT Tryz.results83 ?_);have hn:eP p=none:=by rw[hpv];exact hst.bad (zD hlt h92 hie)
    refine aX [] (.slc []) (.bool false) ?_ ⟨by rw[hn];rfl,by rw[hn];rfl⟩;simp[HV.close,HV.closeL,CV.denil,CV.denilL,HV.norm,HV.toC,HV.toCL]
   have hi1:i+1<p.length:=by
    have: ¬i+1=p.length:=by rintro e;rw[e]at hb;simp at hb
    omega
   clear hb;have hg1:p.getD (i+1) 0=p[i+1]:=by simp[hi1]
   refine aK ?_;refine T0 (hK _ _ _ ?_);clear hK K;refine Rg ?_;have F:=aI @Int.natCast_nonneg (aI @Int.ofNat_lt (aI hi1 (aI hg1 (aI @List.length_append.{0} @List.length_map.{0,0}))));iterate 8 refine SF ?_
   refine T2 (hK _ _ _ ?_);clear hK K;refine aN (by kernel_rfl) ?_;refine TQ hw2 ?_;refine⟨⟨(i+2,out++[⟨0,p[i+1]⟩]),hst.step (k:=2) (by omega) (by omega) (by simp) (aK2 hi1 h92 (hz (i+1) hi1))⟩,aL (by omega) ?_ ?_,?_⟩
   · simp[aS,upd_at,fin_at,HV.men]
   · simp only[aT,List.map_append];exact⟨rfl,by omega,trivial,trivial⟩
   show p.length-(i+2)<p.length-i;omega
  have h92:p[i]≠92:=bNe (d:=92) hb;clear hb;refine aC fun K hK=>Rg ?_;iterate 5 refine S0 ?_ (e:=fun _ h_=>by simp only[sH,↓sP,sA,tyS,simprocAttr,Int.natCast_nonneg,Int.ofNat_lt,hlt,hgd];exact AX h_)
  refine T2 (hK _ _ _ ?_);clear hK K;refine aG (b:=((p[i].toNat:Int)==63)) rfl (fun hb=>?_) (fun hb=>?_)
  ·
   have h63:p[i]=63:=bEq (d:=63) hb;clear hb;refine Rg ?_;have F:=aI @List.length_append.{0} @List.length_map.{0,0};iterate 5 refine SF ?_
   refine T2 (hK _ _ _ ?_);clear hK K;refine aN (by kernel_rfl) ?_;refine TQ hw1 ?_;refine⟨⟨(i+1,out++[⟨1,0⟩]),hst.step (k:=1) (by omega) (by omega) (by simp) (bL1 hlt h63)⟩,aL (by omega) ?_ ?_,?_⟩
   · simp[aS,upd_at,fin_at,HV.men]
   · simp only[aT,List.map_append];exact⟨rfl,by omega,trivial,trivial⟩
   show p.length-(i+1)<p.length-i;omega
  have h63:p[i]≠63:=bNe (d:=63) hb;clear hb;by_cases h42:p[i]=42
  ·
   by_cases hi1:i+1<p.length
   ·
    by_cases h43:p[i+1]=42
    ·
     have hd42:((p[i].toNat:Int)==42)=true:=by rw[h42];rfl
     have hg1:p.getD (i+1) 0=p[i+1]:=by simp[hi1]
     have hd43:((p[i+1].toNat:Int)==42)=true:=by rw[h43];rfl
     refine aC fun K hK=>Rg ?_;iterate 19 refine S0 ?_ (e:=fun _ h_=>by simp only[sH,↓sP,sA,tyS,simprocAttr,Int.natCast_nonneg,Int.ofNat_lt,hlt,hgd,hw1,hi1,hg1,hd42,hd43,decide_true];exact AX h_)
     refine T2 (hK _ _ _ ?_);clear hK K;refine CT rfl ?_;have F:=hw1;refine RF ?_;refine Rg ?_;have F:=aI @List.length_append.{0} @List.length_map.{0,0};iterate 5 refine SF ?_
     refine T2 (hK _ _ _ ?_);clear hK K;refine aN (by kernel_rfl) ?_;refine TQ hw2 ?_;refine⟨⟨(i+2,out++[⟨3,0⟩]),hst.step (k:=2) (by omega) (by omega) (by simp) (aX5 hi1 h42 h43)⟩,aL (by omega) ?_ ?_,?_⟩
     · simp[aS,upd_at,fin_at,HV.men]
     · simp only[aT,List.map_append];exact⟨rfl,by omega,trivial,trivial⟩
     show p.length-(i+2)<p.length-i;omega
    have hd42:((p[i].toNat:Int)==42)=true:=by rw[h42];rfl
    have hg1:p.getD (i+1) 0=p[i+1]:=by simp[hi1]
    have hd43:((p[i+1].toNat:Int)==42)=false:=by rw[show(42:Int)=((42:UInt8).toNat:Int)from rfl,bE5];simpa using h43
    refine aC fun K hK=>Rg ?_;iterate 19 refine S0 ?_ (e:=fun _ h_=>by simp only[sH,↓sP,sA,tyS,simprocAttr,Int.natCast_nonneg,Int.ofNat_lt,hlt,hgd,hw1,hi1,hg1,hd42,hd43,decide_true];exact AX h_)
    refine T2 (hK _ _ _ ?_);clear hK K;refine CF rfl ?_;refine aC fun K hK=>Rg ?_;iterate 5 refine S0 ?_ (e:=fun _ h_=>by simp only[sH,↓sP,sA,tyS,simprocAttr,Int.natCast_nonneg,Int.ofNat_lt,hlt,hgd,hd42];exact AX h_)
    refine T2 (hK _ _ _ ?_);clear hK K;refine CT rfl ?_;refine Rg ?_;have F:=aI @List.length_append.{0} @List.length_map.{0,0};iterate 5 refine SF ?_
    refine T2 (hK _ _ _ ?_);clear hK K;refine aN (by kernel_rfl) ?_;refine TQ hw1 ?_;refine⟨⟨(i+1,out++[⟨2,0⟩]),hst.step (k:=1) (by omega) (by omega) (by simp) (aD5 hlt h42 fun _=>h43)⟩,aL (by omega) ?_ ?_,?_⟩
    · simp[aS,upd_at,fin_at,HV.men]
    · simp only[aT,List.map_append];exact⟨rfl,by omega,trivial,trivial⟩
    show p.length-(i+1)<p.length-i;omega
   have hd42:((p[i].toNat:Int)==42)=true:=by rw[h42];rfl
   have hdi:decide (((i+1:Nat):Int)<((p.length:Nat):Int))=false:=by simp;omega
   refine aC fun K hK=>Rg ?_;iterate 19 refine S0 ?_ (e:=fun _ h_=>by simp only[sH,↓sP,sA,tyS,simprocAttr,Int.natCast_nonneg,hdi,hlt,hgd,hw1,hd42];exact AX h_)
   refine T2 (hK _ _ _ ?_);clear hK K;refine CF rfl ?_;refine aC fun K hK=>Rg ?_;iterate 5 refine S0 ?_ (e:=fun _ h_=>by simp only[sH,↓sP,sA,tyS,simprocAttr,Int.natCast_nonneg,Int.ofNat_lt,hlt,hgd,hd42];exact AX h_)
   refine T2 (hK _ _ _ ?_);clear hK K;refine CT rfl ?_;refine Rg ?_;have F:=aI @List.length_append.{0} @List.length_map.{0,0};iterate 5 refine SF ?_
   refine T2 (hK _ _ _ ?_);clear hK K;refine aN (by kernel_rfl) ?_;refine TQ hw1 ?_;refine⟨⟨(i+1,out++[⟨2,0⟩]),hst.step (k:=1) (by omega) (by omega) (by simp) (aD5 hlt h42 fun h=>absurd h hi1)⟩,aL (by omega) ?_ ?_,?_⟩
   · simp[aS,upd_at,fin_at,HV.men]
   · simp only[aT,List.map_append];exact⟨rfl,by omega,trivial,trivial⟩
   show p.length-(i+1)<p.length-i;omega
  have hd42:((p[i].toNat:Int)==42)=false:=by rw[show(42:Int)=((42:UInt8).toNat:Int)from rfl,bE5];simpa using h42
  refine aC fun K hK=>Rg ?_;iterate 19 refine S0 ?_ (e:=fun _ h_=>by simp only[sH,↓sP,sA,tyS,simprocAttr,Int.natCast_nonneg,Int.ofNat_lt,hlt,hgd,hw1,hd42];exact AX h_)
  refine T2 (hK _ _ _ ?_);clear hK K;refine CF rfl ?_;refine aC fun K hK=>Rg ?_;iterate 5 refine S0 ?_ (e:=fun _ h_=>by simp only[sH,↓sP,sA,tyS,simprocAttr,Int.natCast_nonneg,Int.ofNat_lt,hlt,hgd,hd42];exact AX h_)
  refine T2 (hK _ _ _ ?_);clear hK K;refine CF rfl ?_;refine Rg ?_;iterate 8 refine S0 ?_ (e:=fun _ h_=>by simp only[sH,↓sP,sA,tyS,simprocAttr,Int.natCast_nonneg,Int.ofNat_lt,hlt,hgd,List.length_append,List.length_map];exact AX h_)
  refine T2 (hK _ _ _ ?_);clear hK K;refine aN (by kernel_rfl) ?_;refine TQ hw1 ?_;refine⟨⟨(i+1,out++[⟨0,p[i]⟩]),hst.step (k:=1) (by omega) (by omega) (by simp) (bL2 hlt (hz i hlt) h92 h63 h42)⟩,aL (by omega) ?_ ?_,?_⟩
  · simp[aS,upd_at,fin_at,HV.men]
  · simp only[aT,List.map_append];exact⟨rfl,by omega,trivial,trivial⟩
  show p.length-(i+1)<p.length-i;omega
 refine bD (T3 ?_);clear hK K;refine AX (hK _ _ _ ?_);clear hK K;have hei:i=p.length:=by simp at hb;omega
 have hfin:eP p=some out:=by rw[hpv];exact hst.fin hei
 refine R0 ?_;refine aF (RT Tryz.results83 ?_);refine aX [68] (.slc (out.map Pt.cv)) (.bool true) ?_ ⟨by rw[hfin];rfl,by rw[hfin];rfl⟩;simp[HV.close,fob_at,upd_at,HV.norm,HV.toC,HV.closeL,HV.toCL,CV.denil,denilL_Pt]
theorem bY1 (p:aH):gT Tryz.prog 84 [.str p] (fun u v=>u= .slc (((eP p).getD []).map Pt.cv)∧v= .bool (eP p).isSome):=by
 refine FW Tryz.func84 ?_;refine R0 ?_;refine aC fun K hK=>?_;refine aC fun K hK=>Rg ?_;iterate 3 refine S0 ?_
 refine aE 8 rfl (fun h1_8=>?_) (fun h1_8=>?_)
 ·
  have F:=h1_8;iterate 4 refine SF ?_
  refine T2 (hK _ _ _ ?_);clear hK K;refine CT rfl ?_;refine R0 ?_;refine aF (RT Tryz.results84 ?_);have hn:eP p=none:=by
   have:p=[]:=by simpa using h1_8
   exact qY (.inl (by rw[this];simp))
  refine aX [] (.slc []) (.bool false) ?_ ⟨by rw[hn];rfl,by rw[hn];rfl⟩;simp[HV.close,HV.closeL,CV.denil,CV.denilL,HV.norm,HV.toC,HV.toCL]
 have F:=h1_8;iterate 4 refine SF ?_
 refine aE 12 rfl (fun h1_12=>?_) (fun h1_12=>?_)
 ·
  simp only[h1_12];refine T2 (hK _ _ _ ?_);clear hK K;refine CT rfl ?_;refine R0 ?_;refine aF (RT Tryz.results84 ?_);have hn:eP p=none:=by exact qY (by simp at h1_12;omega)
  refine aX [] (.slc []) (.bool false) ?_ ⟨by rw[hn];rfl,by rw[hn];rfl⟩;simp[HV.close,HV.closeL,CV.denil,CV.denilL,HV.norm,HV.toC,HV.toCL]
 simp only[h1_12];refine T2 (hK _ _ _ ?_);clear hK K;refine CF rfl ?_;refine aK ?_;refine T0 (hK _ _ _ ?_);clear hK K;have hpl:1≤p.length:=List.length_pos_iff.2 (by simpa using h1_8);have hl:p.length≤200:=by simp at h1_12;omega
 have hpv:=aE6 hpl hl;clear h1_8 h1_12;refine R0 ?_;refine aC fun K hK=>?_;refine R0 ?_;refine aM ?_;refine nC 4 0 143 2 rfl rfl rfl rfl ?_;refine bI (α:={y:Nat×List Pt//PatSt p y.1 y.2}) (fun y=>(fin [(0,.c (.str p)),(4,.own 44 y.1.2.length),(5,.c (.int .i64 y.1.1))],fob [(44,.row 143 2 (y.1.2.map Pt.cv))])) 100 (fun y=>p.length-y.1.1) ⟨(0,[]),PatSt.init p⟩ (fF) ?_;rintro⟨⟨i,out⟩,hst⟩;simp only at hst;have hi:=hst.1;have ho:=hst.2.2.1;refine aC fun K hK=>?_;refine aC fun K hK=>Rg ?_;iterate 4 refine S0 ?_
 refine T2 (hK _ _ _ ?_);clear hK K;refine aG (b:=decide ((i:Int)<p.length)) rfl (fun hb=>?_) (fun hb=>?_)
 ·
  have hlt:i<p.length:=by simpa using hb
  clear hb;have hgd:p.getD i 0=p[i]:=by simp[hlt]
  have hw1:IntKind.i64.wrap ((i:Int)+1)=((i+1:Nat):Int):=by rw[IntWalk.i64_in _ (by omega)];rfl
  have hw2:IntKind.i64.wrap (((i+1:Nat):Int)+1)=((i+2:Nat):Int):=by rw[IntWalk.i64_in _ (by omega)];rfl
  refine aK ?_;refine T0 (hK _ _ _ ?_);clear hK K;refine aC fun K hK=>?_;refine aM ?_;refine aC fun K hK=>Rg ?_;iterate 4 refine S0 ?_ (e:=fun _ h_=>by simp only[sH,↓sP,sA,tyS,simprocAttr,Int.natCast_nonneg,Int.ofNat_lt,hlt,hgd];exact AX h_)
  refine T2 (hK _ _ _ ?_);clear hK K;refine aC fun K hK=>?_;refine R0 ?_;refine aG (b:=((p[i].toNat:Int)==0)) rfl (fun hb=>?_) (fun hb=>?_)
  ·
   have h0:p[i]=0:=bEq (d:=0) hb;refine R0 ?_;refine aF (RT Tryz.results84 ?_);have hn:eP p=none:=by rw[hpv];exact hst.bad (aK3 hlt h0)
   refine aX [] (.slc []) (.bool false) ?_ ⟨by rw[hn];rfl,by rw[hn];rfl⟩;simp[HV.close,HV.closeL,CV.denil,CV.denilL,HV.norm,HV.toC,HV.toCL]
  have h0:p[i]≠0:=bNe (d:=0) hb;clear hb;refine aK ?_;refine T0 (hK _ _ _ ?_);clear hK K;refine R0 ?_;refine aM ?_;refine R0 ?_;refine aG (b:=((p[i].toNat:Int)==92)) rfl (fun hb=>?_) (fun hb=>?_)
  ·
   have h92:p[i]=92:=bEq (d:=92) hb;clear hb;refine aC fun K hK=>?_;by_cases hi1:i+1<p.length
   ·
    by_cases h10:p[i+1]=0
    ·
     have hne:((((i+1:Nat):Int))==((p.length:Nat):Int))=false:=by rw[beq_eq_false_iff_ne];omega
     have hg1:p.getD (i+1) 0=p[i+1]:=by simp[hi1]
     have hd0:((p[i+1].toNat:Int)==0)=true:=by rw[h10];rfl
     refine aC fun K hK=>Rg ?_;iterate 12 refine S0 ?_ (e:=fun _ h_=>by simp only[sH,↓sP,sA,tyS,simprocAttr,Int.natCast_nonneg,Int.ofNat_lt,hlt,hgd,hw1,hne,hi1,hg1,hd0];exact AX h_)
     refine T2 (hK _ _ _ ?_);clear hK K;refine CT rfl ?_;refine R0 ?_;refine aF (RT Tryz.results84 ?_);have hn:eP p=none:=by rw[hpv];exact hst.bad (bD2 hi1 h92 h10)
     refine aX [] (.slc []) (.bool false) ?_ ⟨by rw[hn];rfl,by rw[hn];rfl⟩;simp[HV.close,HV.closeL,CV.denil,CV.denilL,HV.norm,HV.toC,HV.toCL]
    have hne:((((i+1:Nat):Int))==((p.length:Nat):Int))=false:=by rw[beq_eq_false_iff_ne];omega
    have hg1:p.getD (i+1) 0=p[i+1]:=by simp[hi1]
    have hd0:((p[i+1].toNat:Int)==0)=false:=by rw[show(0:Int)=((0:UInt8).toNat:Int)from rfl,bE5];simpa using h10
    refine aC fun K hK=>Rg ?_;iterate 12 refine S0 ?_ (e:=fun _ h_=>by simp only[sH,↓sP,sA,tyS,simprocAttr,Int.natCast_nonneg,Int.ofNat_lt,hlt,hgd,hw1,hne,hi1,hg1,hd0];exact AX h_)
    refine T2 (hK _ _ _ ?_);clear hK K;refine CF rfl ?_;refine aK ?_;refine T0 (hK _ _ _ ?_);clear hK K;have F:=hw1;refine RF ?_;refine Rg ?_;iterate 8 refine S0 ?_ (e:=fun _ h_=>by simp only[sH,↓sP,sA,tyS,simprocAttr,Int.natCast_nonneg,Int.ofNat_lt,hlt,hgd,hi1,hg1,List.length_append,List.length_map];exact AX h_)
    refine T2 (hK _ _ _ ?_);clear hK K;refine aN (by kernel_rfl) ?_;refine TQ hw2 ?_;refine⟨⟨(i+2,out++[⟨0,p[i+1]⟩]),hst.step (k:=2) (by omega) (by omega) (by simp) (aK2 hi1 h92 h10)⟩,aL (by omega) ?_ ?_,?_⟩
    · simp[aS,upd_at,fin_at,HV.men]
    · simp only[aT,List.map_append];exact⟨rfl,by omega,trivial,trivial⟩
    show p.length-(i+2)<p.length-i;omega
   have hie:i+1=p.length:=by omega
   have hne:((((i+1:Nat):Int))==((p.length:Nat):Int))=true:=by rw[hie];simp
   refine aC fun K hK=>Rg ?_;iterate 12 refine S0 ?_ (e:=fun _ h_=>by simp only[sH,↓sP,sA,tyS,simprocAttr,Int.natCast_nonneg,Int.ofNat_lt,hlt,hgd,hw1,hne];exact AX h_)
   refine T2 (hK _ _ _ ?_);clear hK K;refine CT rfl ?_;refine R0 ?_;refine aF (RT Tryz.results84 ?_);have hn:eP p=none:=by rw[hpv];exact hst.bad (zD hlt h92 hie)
   refine aX [] (.slc []) (.bool false) ?_ ⟨by rw[hn];rfl,by rw[hn];rfl⟩;simp[HV.close,HV.closeL,CV.denil,CV.denilL,HV.norm,HV.toC,HV.toCL]
  have h92:p[i]≠92:=bNe (d:=92) hb;clear hb;refine R0 ?_;refine aG (b:=((p[i].toNat:Int)==42)) rfl (fun hb=>?_) (fun hb=>?_)
  ·
   have h42:p[i]=42:=bEq (d:=42) hb;clear hb;by_cases hi1:i+1<p.length
   ·
    by_cases h43:p[i+1]=42
    ·
     have hg1:p.getD (i+1) 0=p[i+1]:=by simp[hi1]
     have hd43:((p[i+1].toNat:Int)==42)=true:=by rw[h43];rfl
     refine aC fun K hK=>Rg ?_;iterate 12 refine S0 ?_ (e:=fun _ h_=>by simp only[sH,↓sP,sA,tyS,simprocAttr,Int.natCast_nonneg,Int.ofNat_lt,hlt,hgd,hw1,hi1,hg1,hd43,decide_true];exact AX h_)
     refine T2 (hK _ _ _ ?_);clear hK K;refine CT rfl ?_;have F:=hw1;refine RF ?_;refine Rg ?_;have F:=aI @List.length_append.{0} @List.length_map.{0,0};iterate 5 refine SF ?_
     refine T2 (hK _ _ _ ?_);clear hK K;refine aN (by kernel_rfl) ?_;refine TQ hw2 ?_;refine⟨⟨(i+2,out++[⟨3,0⟩]),hst.step (k:=2) (by omega) (by omega) (by simp) (aX5 hi1 h42 h43)⟩,aL (by omega) ?_ ?_,?_⟩
     · simp[aS,upd_at,fin_at,HV.men]
     · simp only[aT,List.map_append];exact⟨rfl,by omega,trivial,trivial⟩
     show p.length-(i+2)<p.length-i;omega
    have hg1:p.getD (i+1) 0=p[i+1]:=by simp[hi1]
    have hd43:((p[i+1].toNat:Int)==42)=false:=by rw[show(42:Int)=((42:UInt8).toNat:Int)from rfl,bE5];simpa using h43
    refine aC fun K hK=>Rg ?_;iterate 12 refine S0 ?_ (e:=fun _ h_=>by simp only[sH,↓sP,sA,tyS,simprocAttr,Int.natCast_nonneg,Int.ofNat_lt,hlt,hgd,hw1,hi1,hg1,hd43,decide_true];exact AX h_)
    refine T2 (hK _ _ _ ?_);clear hK K;refine CF rfl ?_;refine Rg ?_;have F:=aI @List.length_append.{0} @List.length_map.{0,0};iterate 5 refine SF ?_
    refine T2 (hK _ _ _ ?_);clear hK K;refine aN (by kernel_rfl) ?_;refine TQ hw1 ?_;refine⟨⟨(i+1,out++[⟨2,0⟩]),hst.step (k:=1) (by omega) (by omega) (by simp) (aD5 hlt h42 fun _=>h43)⟩,aL (by omega) ?_ ?_,?_⟩
    · simp[aS,upd_at,fin_at,HV.men]
    · simp only[aT,List.map_append];exact⟨rfl,by omega,trivial,trivial⟩
    show p.length-(i+1)<p.length-i;omega
   have hdi:decide (((i+1:Nat):Int)<((p.length:Nat):Int))=false:=by simp;omega
   refine aC fun K hK=>Rg ?_;have F:=aI hw1 hdi;iterate 12 refine SF ?_
   refine T2 (hK _ _ _ ?_);clear hK K;refine CF rfl ?_;refine Rg ?_;have F:=aI @List.length_append.{0} @List.length_map.{0,0};iterate 5 refine SF ?_
   refine T2 (hK _ _ _ ?_);clear hK K;refine aN (by kernel_rfl) ?_;refine TQ hw1 ?_;refine⟨⟨(i+1,out++[⟨2,0⟩]),hst.step (k:=1) (by omega) (by omega) (by simp) (aD5 hlt h42 fun h=>absurd h hi1)⟩,aL (by omega) ?_ ?_,?_⟩
   · simp[aS,upd_at,fin_at,HV.men]
   · simp only[aT,List.map_append];exact⟨rfl,by omega,trivial,trivial⟩
   show p.length-(i+1)<p.length-i;omega
  have h42:p[i]≠42:=bNe (d:=42) hb;clear hb;refine R0 ?_;refine aG (b:=((p[i].toNat:Int)==63)) rfl (fun hb=>?_) (fun hb=>?_)
  ·
   have h63:p[i]=63:=bEq (d:=63) hb;clear hb;refine Rg ?_;have F:=aI @List.length_append.{0} @List.length_map.{0,0};iterate 5 refine SF ?_
   refine T2 (hK _ _ _ ?_);clear hK K;refine aN (by kernel_rfl) ?_;refine TQ hw1 ?_;refine⟨⟨(i+1,out++[⟨1,0⟩]),hst.step (k:=1) (by omega) (by omega) (by simp) (bL1 hlt h63)⟩,aL (by omega) ?_ ?_,?_⟩
   · simp[aS,upd_at,fin_at,HV.men]
   · simp only[aT,List.map_append];exact⟨rfl,by omega,trivial,trivial⟩
   show p.length-(i+1)<p.length-i;omega
  have h63:p[i]≠63:=bNe (d:=63) hb;clear hb;refine Rg ?_;iterate 6 refine S0 ?_ (e:=fun _ h_=>by simp only[sH,↓sP,sA,tyS,simprocAttr,Int.natCast_nonneg,Int.ofNat_lt,hlt,hgd,List.length_append,List.length_map];exact AX h_)
  refine T2 (hK _ _ _ ?_);clear hK K;refine aN (by kernel_rfl) ?_;refine TQ hw1 ?_;refine⟨⟨(i+1,out++[⟨0,p[i]⟩]),hst.step (k:=1) (by omega) (by omega) (by simp) (bL2 hlt h0 h92 h63 h42)⟩,aL (by omega) ?_ ?_,?_⟩
  · simp[aS,upd_at,fin_at,HV.men]
  · simp only[aT,List.map_append];exact⟨rfl,by omega,trivial,trivial⟩
  show p.length-(i+1)<p.length-i;omega
 refine bD (T3 ?_);clear hK K;refine AX (hK _ _ _ ?_);clear hK K;have hei:i=p.length:=by simp at hb;omega
 have hfin:eP p=some out:=by rw[hpv];exact hst.fin hei
 refine R0 ?_;refine aF (RT Tryz.results84 ?_);refine aX [44] (.slc (out.map Pt.cv)) (.bool true) ?_ ⟨by rw[hfin];rfl,by rw[hfin];rfl⟩;simp[HV.close,fob_at,upd_at,HV.norm,HV.toC,HV.closeL,HV.toCL,CV.denil,denilL_Pt]
end Go.Proofs.YtlldglbooaefhaaGreatDoor
namespace Go.Pl
open Go Go.Hl
def qZ (c:UInt8)(l:aH):aH:=match l.findIdx? (· ==c)with|some i=>l.take i|none=>l
def wV (c:UInt8)(l:aH):aH:=match l.findIdx? (· ==c)with|some i=>l.drop (i+1)|none=>[]
def uG (c:UInt8)(l:aH):Bool:=(l.findIdx? (· ==c)).isSome
variable {l:aH}{c:UInt8}
theorem rA {i:Nat}(h:dW l c=(i:Int)):i<l.length∧qZ c l=l.take i∧wV c l=l.drop (i+1)∧uG c l=true:=by
 unfold dW at h;cases e:l.findIdx? (· ==c)with
 |none=>grind
 |some j=>
  grind[List.findIdx?_eq_some_iff_getElem,qZ,wV,uG]
theorem rB (h:dW l c<0):qZ c l=l∧wV c l=[]∧uG c l=false:=by grind[dW,qZ,wV,uG]
theorem zZ (c:UInt8)(l:aH):aR c l=if uG c l then qZ c l::aR c (wV c l)else [qZ c l]:=by
 by_cases h:dW l c<0;all_goals grind[rB,nI,eL,rA]
theorem aM8 (h:uG c l=true):(wV c l).length<l.length:=by
 by_cases h0:dW l c<0
 · simp_all[rB]
 · obtain⟨i,hi,hil,_⟩:=eL h0;rw[(rA hi).2.2.1];grind
def PathSt (p:aH)(m:Bool)(s:aH):Prop:=s.length≤200∧(aR 47 p).all kH=if m then(aR 47 s).all kH else true
variable {p:aH}
theorem PathSt.step {s:aH}(h:PathSt p true s)(hg:kH (qZ 47 s)=true):PathSt p (uG 47 s) (wV 47 s):=by
 refine⟨?_,?_⟩
 ·
  cases hf:uG 47 s with
  |true=>have:=aM8 hf;have:=h.1;omega
  |false=>
   by_cases h0:dW s 47<0;all_goals grind[rB,eL,rA]
 · rw[h.2,if_pos rfl,zZ 47 s];grind
theorem PathSt.bad {s:aH}(h:PathSt p true s)(hg:kH (qZ 47 s)=false):(aR 47 p).all kH=false:=by
 rw[h.2,if_pos rfl,zZ 47 s];grind
theorem bP5 (h1:1≤p.length)(h2:p.length≤200)(h0:(0:UInt8)∉p):kI p=(aR 47 p).all kH:=by grind[kI]
theorem aA0 (h:p.length<1∨200<p.length):kI p=false:=by grind[kI,decide_eq_false]
theorem aT8 (h:(0:UInt8)∈p):kI p=false:=by
 unfold kI;grind
variable {w:aH}
theorem wW (h:w=[]∨w=[46]∨w=[46,46]):kH w=false:=by
 rcases h with h|h|h<;>subst h<;>rfl
theorem bF6 (h1:w≠[])(h2:w≠[46])(h3:w≠[46,46]):kH w=true:=by grind[kH]
end Go.Pl
