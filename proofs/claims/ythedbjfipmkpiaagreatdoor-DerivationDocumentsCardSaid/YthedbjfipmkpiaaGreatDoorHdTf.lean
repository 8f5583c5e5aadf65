/- Part of a proof: walks of functions of the program, by contracts, and the rules they use. By an AI agent. -/
import Derived.Test.YthedbjfipmkpiaaGreatDoorPl28g
import Derived.Test.YthedbjfipmkpiaaGreatDoorPl31g
import Derived.Test.YthedbjfipmkpiaaGreatDoorHdU5
import Derived.Test.YthedbjfipmkpiaaGreatDoorHdW9
import Derived.Test.YthedbjfipmkpiaaGreatDoorHdSb
import Derived.Test.YthedbjfipmkpiaaGreatDoorHdV9
import Derived.Test.YthedbjfipmkpiaaGreatDoorPl31
import Derived.Test.YthedbjfipmkpiaaGreatDoorHdSq
import Derived.Test.YthedbjfipmkpiaaGreatDoorHdV1
set_option linter.unusedSimpArgs false
set_option linter.unusedVariables false
set_option linter.defProp false
namespace Go.Pl
open Go Go.Hl
def uni (l:List (Nat×Nat)):List (Nat×Nat):=l.eraseDups
def xL (f:Nat→List (Nat×Nat)):Nat→Nat→Nat×Nat→List (Nat×Nat)
 |0,_,p=>[p]
 |c+1,n,p=>uni ((f n).flatMap fun q=>xL f c (n+q.1) (p.1+q.1,p.2+q.2))
def pos :Nat→Nat→List (Nat×Nat)
 |0,_=>[(1,1)]
 |d+1,n=>uni ((1,1)::if n≤8 then(List.range 3).flatMap fun c=>xL (pos d) (c+1) (n+1) (1,0)else [])
theorem oB {l:List (Nat×Nat)}{p:Nat×Nat}:p∈uni l↔p∈l:=by unfold uni;simp_all
theorem aB5 {f:Nat→List (Nat×Nat)}: ∀{c n:Nat} {p q r:Nat×Nat},q∈xL f c n p→r∈f (n+(q.1-p.1))→p.1≤q.1→(q.1+r.1,q.2+r.2)∈xL f (c+1) n p
 |0,n,p,q,r,hq,hr,_=>by simp_all[xL,List.mem_singleton,Nat.sub_self,Nat.add_zero,oB,List.mem_flatMap]
 |c+1,n,p,q,r,hq,hr,hpq=>by
  unfold xL at hq⊢;rw[oB,List.mem_flatMap]at hq⊢;obtain⟨s,hs,hq⟩:=hq;have hle:p.1+s.1≤q.1:=by
   have key: ∀(c n:Nat) (p q:Nat×Nat),q∈xL f c n p→p.1≤q.1:=by
    intro c;induction c with
    |zero=>simp_all[xL,List.mem_singleton,Nat.le_refl]
    |succ c ih=>
     grind[xL,oB]
   exact key _ _ _ _ hq
  refine⟨s,hs,aB5 hq ?_ hle⟩;grind
structure Made (d n:Nat)(t:List Nd):Prop where
 skip:skip 1 t=some []
 node: ∀n∈t,dE n=true
 pos:(t.length,lv t)∈pos d n
variable {t:List Nd}
theorem cC5 (h:Made 3 0 t):IsTree t:=by
 have hb: ∀p∈pos 3 0,1≤p.1∧p.1≤60∧p.2≤16:=by decide+kernel
 obtain⟨h1,h2,h3⟩:=hb _ h.pos;exact⟨h1,h2,h.skip,h.node,h3⟩
variable {q:Rq}{n:Nat}
theorem aB6 {d:Nat}(h:gP q=true):Made d n [⟨1,0,0,q⟩]:=by
 refine⟨rfl,fun x hx=>?_,?_⟩
 · simp only[List.mem_singleton]at hx;subst hx;unfold dE;rw[if_pos rfl,h];rfl
 ·
  cases d with
  |zero=>simp[pos,lv]
  |succ d=>rw[pos,oB];exact List.mem_cons_self
structure MadeK (d n k:Nat)(ts:List Nd):Prop where
 skip:skip k ts=some []
 node: ∀n∈ts,dE n=true
 pos:(1+ts.length,lv ts)∈xL (pos d) k (n+1) (1,0)
theorem MadeK.zero (d n:Nat):MadeK d n 0 []:=⟨rfl,by simp,by simp[xL,lv]⟩
variable {ts:List Nd}
theorem MadeK.next {d k:Nat}(h:MadeK d n k ts)(ht:Made d (n+1+ts.length) t):MadeK d n (k+1) (ts++t):=by
 refine⟨?_,fun x hx=>?_,?_⟩
 · rw[mX,tW ts t [] k h.skip];exact ht.skip
 ·
  rcases List.mem_append.1 hx with hx|hx
  · exact h.node x hx
  · exact ht.node x hx
 ·
  have:=aB5 (r:=(t.length,lv t)) h.pos (by
   rw[show n+1+(1+ts.length-1)=n+1+ts.length from by omega];exact ht.pos) (by simp)
  grind[sF,Nat.add_assoc]
variable {c:Nat}
theorem MadeK.fin {d:Nat}{x:Nd}(h:MadeK d n c ts)(hn:n≤8)(hx:dE x=true)(hk:x.k≠1)(hc:x.c=c)(h1:1≤c)(h3:c≤3):Made (d+1) n (x::ts):=by
 refine⟨?_,fun y hy=>?_,?_⟩
 · show Pl.skip (0+x.c.toNat) ts=some [];rw[hc,Nat.zero_add];exact h.skip
 ·
  rcases List.mem_cons.1 hy with rfl|hy
  · grind
  · exact h.node y hy
 · rw[Pl.pos,oB];refine List.mem_cons_of_mem _ ?_;rw[if_pos hn,List.mem_flatMap];refine⟨c-1,List.mem_range.2 (by omega),?_⟩;rw[show c-1+1=c from by omega];have:=h.pos;simp_all[lv,if_neg,List.length_cons,Nat.add_comm]
structure Ms where
 n:aH
 v:Int
 r:List Pr
 o:List Nat
 d:Bool
theorem xM {w:aH}(h:fV w=true):1≤w.length∧w.length≤64:=by
 cases w with
 |nil=>cases h
 |cons c r=>
  simp_all[fV,Bool.and_eq_true,decide_eq_true_eq]
def bU5 (p:Po):Prop:=bR3 p=true∧p.r.length≤2∧ ∀r∈p.r,r.b.length≤80∧r.c.length≤80∧r.t.length≤40
def isV (ls:List (List aH))(a:Nat)(w:aH)(k:Nat):Bool:=decide (a<ls.length)&&((ls.getD a []).length==k&&wd (ls.getD a []) 0==w)
variable {a:Nat}{ls:List (List aH)}
theorem cC6 (h: ¬a<ls.length)(w:aH)(k:Nat):isV ls a w k=false:=by simp[isV,h]
theorem cJ6 (h:a<ls.length)(w:aH)(k:Nat):isV ls a w k=(ls[a].length==k&&wd ls[a] 0==w):=by simp[isV,h]
abbrev Kds :=Option (List Nd×Int)×List (List aH)
def cC7 (ts:List Nd)(k:Int)(x:Kds):Kds:=(x.1.map fun p=>(ts++p.1,k+p.2),x.2)
def cJ7 (n:Nd)(x:Kds):Option (List Nd)×List (List aH):=(x.1.map fun p=>{n with c:=p.2}::p.1,x.2)
theorem bU6 (x:Kds):cC7 [] 0 x=x:=by simp_all[cC7]
variable {r:List (List aH)}{f:Nat}
theorem bJ4 {w:List aH}{n:Nd}(h:cI3 w=none)(h2:cI4 w=some n):rdN (f+1) (w::r)=cJ7 n (rdK f r):=by
 simp only[rdN,h,h2]
 match rdK f r with
 |(none,r')=>rfl
 |(some (ts,c),r')=>rfl
theorem cJ8 {l:List (List aH)}(h:bR8 (l.headD [])=false)(h2:rdN f l=(none,r)):rdK (f+1) l=(none,r):=by simp_all[rdK,Bool.false_eq_true,if_false]
theorem bJ5 (ha:a≤ls.length):bR8 ((ls.drop a).headD [])=isV ls a cI2 1:=by
 rcases Nat.lt_or_ge a ls.length with h|h
 · rw[cJ6 h,List.drop_eq_getElem_cons h];rfl
 · rw[cC6 (by omega),List.drop_eq_nil_of_le h];rfl
structure KdSt (f:Nat)(ls:List (List aH))(a:Nat)(nd:Nd)(g:Nat)(ts:List Nd)(k p:Nat):Prop where
 eq:rdN f (ls.drop a)=cJ7 nd (cC7 ts k (rdK g (ls.drop p)))
 le:p≤ls.length
 fuel:2*(ls.length-p)+2≤g
 lt:g<f
 len:ts.length+(ls.length-p)+1≤ls.length-a
 cO7:k≤ts.length
variable {nd:Nd}
theorem KdSt.init (ha:a<ls.length)(hf:2*(ls.length-a)+1≤f)(h1:cI3 ls[a]=none)(h2:cI4 ls[a]=some nd):KdSt f ls a nd (f-1) [] 0 (a+1):=by
 obtain⟨g,rfl⟩: ∃g,f=g+1:=⟨f-1,by omega⟩;refine⟨?_,by omega,?_,by omega,by grind,by simp⟩;all_goals grind[List.drop_eq_getElem_cons,bJ4,cJ7,cC7,bU6,Nat.add_sub_cancel]
variable {p:Nat}
theorem KdSt.no {g:Nat}{k:Nat}(h:KdSt f ls a nd g ts k p)(he:isV ls p cI2 1=false)(hn:(rdN (g-1) (ls.drop p)).1=none):rdN f (ls.drop a)=(none,(rdN (g-1) (ls.drop p)).2):=by
 obtain⟨q,rfl⟩: ∃q,g=q+1:=⟨g-1,by have:=h.fuel;omega⟩;simp only[Nat.add_sub_cancel]at hn⊢;rw[h.eq,cJ8 (by rw[bJ5 h.le,he]) (r:=(rdN q (ls.drop p)).2) (Prod.ext hn rfl)];rfl
abbrev Rls :=Option (List Pr)×List (List aH)
structure RsSt (ls:List (List aH))(X:Rls)(acc:List Pr)(p:Nat):Prop where
 eq:X=cA2 (ls.length-p+1) (ls.drop p) acc
 le:p≤ls.length
 len:acc.length≤p
variable {acc:List Pr}{X:Rls}
theorem RsSt.done (h:RsSt ls X acc p)(hp: ¬p<ls.length):p=ls.length∧X=(some acc,[]):=by
 have h1:=h.le;refine⟨by omega,?_⟩;rw[h.eq,List.drop_eq_nil_of_le (by omega),cA2,if_pos rfl]
theorem RsSt.no (h:RsSt ls X acc p)(hp:p<ls.length)(hn:(rdR (ls.drop p)).1=none):X=(none,(rdR (ls.drop p)).2):=by
 rw[h.eq,cA2,if_neg (by simp_all)];grind
def cJ9 (l:List Pr)(r:Pr):Bool:=(l.map Pr.a).contains r.a||(!fV r.a||(!(aT7 r.b).isSome||(!(aT7 r.c).isSome||(!inB r.g 0 aK3||!dZ r.t))))
structure RlSt (l:List Pr)(i:Nat):Prop where
 le:i≤l.length
 all:(l.take i).all qX=true
 apart:lU (l.take i)=true
theorem RlSt.zero (l:List Pr):RlSt l 0:=⟨by omega,by simp,by simp[lU]⟩
theorem cC8 (l:List Pr)(r:Pr):cJ9 l r=!(!(l.map Pr.a).contains r.a&&qX r):=by simp_all[cJ9,qX,Pr.a,fV,aT7,inB,aK3,dZ]
theorem RlSt.succ {l:List Pr}{i:Nat}(h:RlSt l i)(hi:i<l.length)(hb:cJ9 (l.take i) l[i]=false):RlSt l (i+1):=by
 rw[cC8]at hb;simp only[Bool.not_eq_false',Bool.and_eq_true]at hb;refine⟨hi,?_,?_⟩
 · rw[List.take_succ_eq_append_getElem hi,List.all_append,h.all,List.all_cons,hb.2];rfl
 · rw[List.take_succ_eq_append_getElem hi,tV,h.apart,hb.1];rfl
structure PoSz (p:Po):Prop where
 n:p.n.length<2^63
 r:p.r.length<2^40
 a: ∀r∈p.r,r.a.length<2^63
 t: ∀r∈p.r,∀n∈r.t,n.q.t.length<2^63
theorem cC9 (h:Made 3 0 t):t.length≤40:=by
 have key: ∀p∈pos 3 0,p.1≤40:=by decide+kernel
 exact key _ h.pos
def rN (n:Nat):aH:=[114,UInt8.ofNat (48+n)]
structure MadeR (r:Pr):Prop where
 ok:qX r=true
 b:r.b.length≤80
 c:r.c.length≤80
 t:r.t.length≤40
structure MadeRs (n:Nat)(rs:List Pr):Prop where
 two:n+rs.length≤2
 one:1≤n+rs.length
 ok: ∀r∈rs,MadeR r
 nm: ∀r∈rs,∃j,n<j∧j≤2∧r.a=rN j
 ap:lU rs=true
theorem MadeRs.zero (h1:1≤n)(h2:n≤2):MadeRs n []:=⟨by grind,by grind,by simp,by simp,rfl⟩
variable {rs:List Pr}
theorem MadeRs.next (h:MadeRs (n+1) rs){r:Pr}(hr:MadeR r)(ha:r.a=rN (n+1)):MadeRs n (rs++[r]):=by
 have h1:=h.two;refine⟨by grind,by grind,fun x hx=>?_,fun x hx=>?_,?_⟩
 ·
  rcases List.mem_append.1 hx with hx|hx
  · exact h.ok x hx
  grind
 ·
  rcases List.mem_append.1 hx with hx|hx
  · obtain⟨j,h2,h3,h4⟩:=h.nm x hx;grind
  grind
 ·
  rw[tV,h.ap,Bool.true_and,Bool.not_eq_true',←Bool.not_eq_true,List.contains_iff_mem];intro hm;obtain⟨x,hx,he⟩:=List.mem_map.1 hm;obtain⟨j,h2,h3,h4⟩:=h.nm x hx;rw[h4,ha]at he;have hj:j=2:=by omega
  have hn:n=0:=by omega
  subst hj hn
  revert he
  decide
theorem MadeRs.fin (h:MadeRs 0 rs){v:Int}(h1:1≤v)(h2:v≤1099511627776):bU5 ⟨[112],v,rs⟩:=by
 have h3:=h.two;have k:fV [112]=true:=by decide
 refine⟨?_,by grind,fun r hr=>⟨(h.ok r hr).b,(h.ok r hr).c,(h.ok r hr).t⟩⟩;have k1:inB v 1 aK3=true:=by rw[qV,aG2];exact⟨h1,h2⟩
 have k2:decide (rs.length≤16)=true:=by simp;omega
 have k3:rs.all qX=true:=List.all_eq_true.2 fun r hr=>(h.ok r hr).ok;simp only[bR3,k,k1,k2,k3,h.ap,Bool.and_self]
theorem bU7 (h:gP q=true):q.t.length≤64:=by
 have hn:fV q.t=true→q.t.length≤64:=fun h=>(xM h).2;have h0:q.t=[]→q.t.length≤64:=fun h=>by grind
 unfold gP at h;grind
theorem bJ6 {n:Nd}(h:dE n=true):n.q.t.length≤64:=by
 have h0:n.q=rq0→n.q.t.length≤64:=fun h=>by rw[h];decide
 have h1:gP n.q=true→n.q.t.length≤64:=bU7;unfold dE at h
 repeat' split at h
 all_goals simp_all[Bool.and_eq_true,bN2,beq_iff_eq]
theorem aB7 (h:IsTree t): ∀n∈t,n.q.t.length<2^63:=fun n hn=>by have:=bJ6 (h.node n hn);omega
theorem cD0 {p:Po}(h:bR3 p=true):PoSz p:=by
 obtain⟨_,h2,h3,h4⟩:=cC4 h;refine⟨by grind[xM],by omega,fun r hr=>?_,fun r hr=>aB7 (aO3 (h4 r hr)).2.1⟩;have:=(xM (aO3 (h4 r hr)).2.2.1).2;omega
theorem MadeRs.sz (h:MadeRs 0 rs)(v:Int):PoSz ⟨[112],v,rs⟩:=by
 have:=cD0 (h.fin (v:=1) (by omega) (by omega)).1;exact⟨this.n,this.r,this.a,this.t⟩
theorem bA8 {l:List Nd}(ht:IsTree l)(S:List Sp){P:Ln→Prop}(h1: ∀i,i<l.length→P (kG l S i))(h2: ∀(i:Nat) f,i<l.length→P ⟨fW (l.getD i nd0),i,[],f⟩): ∀(f i:Nat) (out:List Ln),i<l.length→l.length-i≤f→(∀x∈out,P x)→ ∀x∈prv l S f i out,P x
 |0,i,out,hi,hf,_=>by omega
 |f+1,i,out,hi,hf,ho=>by
  intro x hx;rcases Decidable.em ((l.getD i nd0).k=1)with h|h
  ·
   rw[qK h]at hx;rcases List.mem_append.1 hx with hx|hx
   · exact ho x hx
   · rw[List.mem_singleton.1 hx];exact h1 i hi
  ·
   have key: ∀j,j≤l[i].c.toNat→ ∀x∈(iW l S f i j out).1,P x:=by
    intro j;induction j with
    |zero=>intro _;exact ho
    |succ j ih=>
     intro hj;have h3:=jL ht hi (k:=j) (by omega);have h6:=(gZ ht hi j (by omega)).2.2;rw[fQ,pF];split
     · exact bA8 ht S h1 h2 f _ _ h3 (by omega) (ih (by omega))
     · exact ih (by omega)
   rw[nS h]at hx;rcases List.mem_append.1 hx with hx|hx
   · rw[qL hi]at hx;exact key _ (Nat.le_refl _) x hx
   · rw[List.mem_singleton.1 hx];exact h2 i _ hi
theorem bU8 (n:Nd):2≤fW n∧fW n≤4:=by unfold fW;grind
variable {S:List Sp}{l:List Nd}
theorem bA9 (h:evalV l (truL S)=true):IsTree l:=gC (by unfold evalV at h;simp only[Bool.and_eq_true]at h;exact h.1)
theorem tB (h:evalV l (truL S)=false):proveV l S=[]:=by unfold proveV;rw[if_neg (by simp[h])]
theorem aV0 :(proveV l S).length≤l.length+1:=by
 cases h:evalV l (truL S)with
 |false=>rw[tB h];simp
 |true=>
  have ht:=bA9 h;have h1:=(aY0 ht S l.length 0 [] ht.ne).2;have h2:=(gQ ht ht.ne).2.1;unfold proveV;rw[if_pos h];unfold zG;simp only[List.length_append,List.length_cons,List.length_nil]at h1⊢;omega
theorem xN (hc: ∀x∈S,x.d.length≤c): ∀x∈proveV l S,0≤x.n∧x.n≤l.length∧x.d.length≤c∧1≤x.k∧x.k≤5∧(x.k=1∧x.f=[]∨x.k≠1∧x.d=[]):=by
 cases h:evalV l (truL S)with
 |false=>rw[tB h];simp
 |true=>
  have ht:=bA9 h;intro x hx;unfold proveV at hx;rw[if_pos h]at hx;rcases List.mem_append.1 hx with hx|hx
  ·
   refine bA8 ht S (P:=fun x=>0≤x.n∧x.n≤l.length∧x.d.length≤c∧1≤x.k∧x.k≤5∧(x.k=1∧x.f=[]∨x.k≠1∧x.d=[])) (fun i hi=>?_) (fun i f hi=>?_) l.length 0 [] ht.ne (by omega) (by simp) x hx
   ·
    refine⟨by simp[kG],by simp[kG];omega,?_,by simp[kG],by simp[kG],.inl ⟨rfl,rfl⟩⟩;show(S.getD _ sp0).d.length≤c;rcases Nat.lt_or_ge (lv (l.take i)) S.length with hlt|hge
    · rw[List.getD_eq_getElem?_getD,List.getElem?_eq_getElem hlt];exact hc _ (List.getElem_mem hlt)
    · rw[List.getD_eq_getElem?_getD,List.getElem?_eq_none hge];exact Nat.zero_le _
   · have hk:=bU8 (l.getD i nd0);refine⟨by simp,by simp;omega,by simp,by simp only;omega,by simp only;omega,.inr ⟨by simp only;omega,rfl⟩⟩
  · rw[List.mem_singleton.1 hx];exact⟨by simp,by simp,by simp,by simp,by simp,.inr ⟨by simp,rfl⟩⟩
theorem xO : ∀S:List Sp,∃c,∀x∈S,x.d.length≤c
 |[]=>⟨0,by simp⟩
 |y::S=>by
  obtain⟨c,hc⟩:=xO S;exact⟨y.d.length+c,fun x hx=>by
   rcases List.mem_cons.1 hx with rfl|hx
   · omega
   · have:=hc x hx;omega⟩
theorem docsL_le {c:Nat}: ∀{X:List Ln},(∀x∈X,x.d.length≤c)→(dD X).length≤c*X.length
 |[],_=>by simp[dD]
 |x::X,h=>by
  have h1:=docsL_le (c:=c) (X:=X) fun y hy=>h y (List.mem_cons_of_mem _ hy);have h2:=h x List.mem_cons_self;have e:dD (x::X)=x.d++dD X:=by simp[dD]
  rw[e,List.length_append,List.length_cons,Nat.mul_add];omega
abbrev R40 (n:Int):Prop:=0≤n∧n≤1099511627776
structure LnR (x:Ln):Prop where
 k:1≤x.k∧x.k≤5
 n:R40 x.n
 f: ∀n∈x.f,R40 n
 fl:x.f.length≤120
theorem bB0 : ∀{l:List aH} {ns:List Int},eQ l=some ns→ns.length=l.length∧ ∀n∈ns,R40 n
 |[],ns,h=>by
  obtain rfl:=Option.some.inj (show some ([]:List Int)=some ns from h);simp
 |w::l,ns,h=>by
  unfold eQ at h;rw[List.mapM_cons]at h;cases hw:dK w with
  |none=>rw[hw]at h;cases h
  |some n=>
   cases hl:l.mapM dK with
   |none=>rw[hw,hl]at h;cases h
   |some m=>
    rw[hw,hl]at h;obtain rfl:=Option.some.inj (show some (n::m)=some ns from h);have ih:=bB0 (l:=l) (ns:=m) hl;refine⟨by simp[ih.1],fun x hx=>?_⟩;rcases List.mem_cons.1 hx with rfl|hx
    · exact⟨(iD hw).1,by have:=(iD hw).2;omega⟩
    · exact ih.2 x hx
variable {w:List aH}
theorem cD1 {x:Ln}(hw:w.length≤120)(h:eY w=some x):LnR x:=by
 unfold eY at h;split at h
 ·
  rename_i n f hs;have hr:=bB0 hs;cases hk:lC (wd w 0)with
  |none=>rw[hk]at h;cases h
  |some k=>
   rw[hk]at h;simp only[Option.bind_some]at h;split at h
   · cases h
   · obtain rfl:=Option.some.inj h;have hk2:=wU.1 hk;refine⟨⟨hk2.1,hk2.2.1⟩,hr.2 n (by simp),fun m hm=>hr.2 m (by simp[hm]),?_⟩;have h1:=hr.1;simp only[List.length_cons,List.length_drop]at h1⊢;omega
 · cases h
theorem cD2 {ls l:List Ln}(hw:w.length≤120)(h:eD ls w=some l)(hl: ∀x∈ls,LnR x): ∀x∈l,LnR x:=by
 unfold eD at h;split at h
 ·
  unfold bH6 at h;cases hx:ls.getLast? with
  |none=>rw[hx]at h;cases h
  |some x=>
   rw[hx]at h;have hm:=List.mem_of_getLast? hx;dsimp only at h;split at h
   ·
    cases hd:fZ (wd w 1)with
    |none=>rw[hd]at h;cases h
    |some d=>
     rw[hd]at h;obtain rfl:=Option.some.inj h;intro y hy;rcases List.mem_append.1 hy with hy|hy
     · exact hl y (List.dropLast_subset _ hy)
     · rw[List.mem_singleton.1 hy];have:=hl x hm;exact⟨this.k,this.n,this.f,this.fl⟩
   · cases h
 ·
  cases hx:eY w with
  |none=>rw[hx]at h;cases h
  |some x=>
   rw[hx]at h;obtain rfl:=Option.some.inj h;intro y hy;rcases List.mem_append.1 hy with hy|hy
   · exact hl y hy
   · rw[List.mem_singleton.1 hy];exact cD1 hw hx
theorem bB1 {ws:List (List aH)}(hw: ∀w∈ws,w.length≤120): ∀{i:Nat} {l:List Ln},i≤ws.length→gV (ws.take i)=some l→ ∀x∈l,LnR x
 |0,l,_,h=>by
  rw[List.take_zero,aA9]at h;obtain rfl:=Option.some.inj h;simp
 |i+1,l,hi,h=>by
  cases hp:gV (ws.take i)with
  |none=>
   have e:ws.take (i+1)=ws.take i++[ws[i]]:=List.take_succ_eq_append_getElem (by omega);rw[e,nZ,hp]at h;cases h
  |some m=>
   have hm:=bB1 hw (i:=i) (by omega) hp;rw[jS (by omega) hp]at h;exact cD2 (hw _ (List.getElem_mem _)) h hm
structure DvR (d:Dv):Prop where
 t:R40 d.t
 r:R40 d.r
 l: ∀x∈d.l,LnR x∧x.d.length≤1000
 ll:d.l.length≤1000
variable {d:Dv}
theorem cD3 (hw: ∀l∈ls,wOk l)(hn:ls.length≤1000)(h:gE ls=some d):DvR d:=by
 rw[pO]at h;cases hh:gN ls with
 |none=>rw[hh]at h;cases h
 |some e=>
  rw[hh]at h;simp only[Option.bind_some]at h;cases hf:gV (ls.drop 2)with
  |none=>rw[hf]at h;cases h
  |some l=>
   rw[hf]at h;obtain rfl:=Option.some.inj h;have hl:(ls.drop 2).length≤1000:=by rw[List.length_drop];omega
   have hf':gV ((ls.drop 2).take (ls.drop 2).length)=some l:=by rw[List.take_length];exact hf
   have h1:=tA (Nat.le_refl _) hf';have h2:=bB1 (fun w h=>(hw w (List.drop_subset _ _ h)).2.1) (Nat.le_refl _) hf';unfold gN at hh;split at hh
   · cases hh
   ·
    split at hh
    · rename_i a p v t r _ _ _ ht hr;obtain rfl:=Option.some.inj hh;exact⟨⟨(iD ht).1,by have:=(iD ht).2;omega⟩,⟨(iD hr).1,by have:=(iD hr).2;omega⟩,fun x hx=>⟨h2 x hx,by have:=h1.2 x hx;omega⟩,by show l.length≤1000;omega⟩
    · cases hh
theorem DvR.len (h:DvR d):(iO d).length≤2000000:=by
 have h1:=docsL_le (X:=d.l) (c:=1000) fun x hx=>(h.l x hx).2;have h2:=h.ll;have h3:=bJ3 d.l;rw[iO,List.length_append,h3];have:(mB d).length=2:=rfl;omega
end Go.Pl
namespace Go.Proofs.YthedbjfipmkpiaaGreatDoor
open Go Go.Hl Go.Pl
set_option maxRecDepth 10000
set_option maxHeartbeats 4000000
theorem cO2 {d:Dv}(h:DvR d):DvW d:=by
 refine⟨⟨by have:=h.t.1;omega,by have:=h.t.2;omega⟩,⟨by have:=h.r.1;omega,by have:=h.r.2;omega⟩,fun x hx=>?_,by have:=h.len;omega,by have:=h.ll;omega⟩;obtain⟨h1,h2⟩:=h.l x hx;exact⟨⟨by have:=h1.k.1;omega,by have:=h1.k.2;omega⟩,⟨by have:=h1.n.1;omega,by have:=h1.n.2;omega⟩,fun n hn=>⟨by have:=(h1.f n hn).1;omega,by have:=(h1.f n hn).2;omega⟩,by have:=h1.fl;omega,by omega⟩
theorem rJ {ob:Ob}{r:HV}{T:mY}{n:Int}{R:CV→CV→Prop}(hr:r= .tup [.c (.agg [.agg [.str [],.str [],zd],.int .i64 0,zd,.int .i64 0,.agg [zd,.str [],.str []],.nils]),.c (.int .i64 n)])(hb:ob 0=some (.tab T))(hR:R dv0.cv (.int .i64 n)):
  iH 1 r ob (fun r ob'=> ∃u v,r= .tup [.c u,.c v]∧ob'=fL T∧R u v):=by
 subst hr;refine eP [] dv0.cv (.int .i64 n) ?_ hb (by simp) hR;simp[HV.close,HV.closeL,CV.denil,CV.denilL,HV.norm,HV.toC,HV.toCL,mV];rfl
theorem cD4 (b:aH)(hl:b.length<2^40):qP Tryz.prog 27 tabs [.slc (b.map u8)] (fun u v=>u=(ddO b).cv∧v= .int .i64 (ddE b)):=by
 refine bD (args:=[.c (.slc (b.map u8))]) Tryz.func27 rfl (by kernel_rfl) (fR tabs [.slc (b.map u8)]) (Nat.le_of_ble_eq_true rfl) ?_;unfold fL;have hlen:=bR1 (b:=b);have hwo:=bZ9 (b:=b);have hdl:CV.denilL ((lT b).map lsC)=(lT b).map lsC:=bU bT9 _;refine aE fun K hK=>aD (by kernel_rfl) ?_;simp (maxSteps:=4000000) only[↓sP,sA,tyS,simprocAttr];repeat refine AI ?_
 refine hK _ _ _ ?_;clear hK K;refine aE fun K hK=>aD (by kernel_rfl) ?_;simp only[sR,simprocAttr];refine aC (g:=none) rfl rfl fun K' hK'=>?_;simp (maxSteps:=4000000) only[sH,↓sP,sA,tyS,simprocAttr,denilL_u8];repeat refine AI ?_
 refine hK' _ _ ?_;clear hK' K';refine aC (g:=none) rfl rfl fun K' hK'=>?_;simp (maxSteps:=4000000) only[sH,↓sP,sA,tyS,simprocAttr,denilL_u8];refine cS (args:=[_]) (cJ1 b hl) ⟨rfl,rfl,rfl,rfl⟩ ?_;rintro u v ⟨rfl,rfl⟩;repeat refine AI ?_
 refine hK' _ _ ?_;clear hK' K';iterate 5
  (refine aC (g:=none) rfl rfl fun K' hK'=>?_;simp only[sH,↓sP,sA,tyS,simprocAttr,denilL_u8];(repeat refine AI ?_);refine hK' _ _ ?_;clear hK' K')
 simp only[sE,↓reduceIte,simprocAttr];repeat refine AI ?_
 refine hK _ _ _ ?_;clear hK K;refine aE fun K hK=>?_;refine aE fun K hK=>aD (by kernel_rfl) ?_;simp (maxSteps:=4000000) only[↓sP,sA,tyS,simprocAttr];repeat refine AI ?_
 refine hK _ _ _ ?_;clear hK K;refine aG (b:=!(jY b==0)) rfl (fun hb=>?_) (fun hb=>?_)
 ·
  have he:jY b≠0:=by simpa using hb
  have e1:ddE b=jY b:=by rw[ddE,if_pos he]
  have e2:ddO b=dv0:=by rw[ddO,sV,if_neg he];rfl
  clear hb;refine aE fun K hK=>aD (by kernel_rfl) ?_;simp only[sR,simprocAttr];iterate 4
   (refine aC (g:=none) rfl rfl fun K' hK'=>?_;simp only[sH,↓sP,sA,tyS,simprocAttr,cT,cU];(repeat refine AI ?_);refine hK' _ _ ?_;clear hK' K')
  simp only[sE,↓reduceIte,simprocAttr];repeat refine AI ?_
  refine hK _ _ _ ?_;clear hK K;refine aJ ?_;simp (maxSteps:=4000000) only[aT,Tryz.results27,aR,aS,aQ,↓sP,sA,tyS,simprocAttr];refine rJ (n:=jY b) rfl rfl ⟨by rw[e2],by rw[e1]⟩
 refine aK ?_;simp (maxSteps:=4000000) only[↓sP,sA,tyS,simprocAttr];repeat refine AI ?_
 refine hK _ _ _ ?_;clear hK K;have he:jY b=0:=by simpa using hb
 clear hb;have e1:ddE b=if(sV b).isSome then 0 else 2:=by rw[ddE,if_neg (by simpa using he)]
 have e0:sV b=(gE (lT b)).bind fun d=>if dvE d=0∧dvO d=b then some d else none:=by rw[sV,if_pos he]
 refine aE fun K hK=>aD (by kernel_rfl) ?_;simp only[sR,simprocAttr];refine aC (g:=none) rfl rfl fun K' hK'=>?_;simp (maxSteps:=4000000) only[sH,↓sP,sA,tyS,simprocAttr,hdl];repeat refine AI ?_
 refine hK' _ _ ?_;clear hK' K';refine aC (g:=none) rfl rfl fun K' hK'=>?_;simp (maxSteps:=4000000) only[sH,↓sP,sA,tyS,simprocAttr,hdl];refine cS (args:=[_]) (cB8 (lT b) (by omega) (fun l h=>⟨List.length_pos_iff.2 (hwo l h).1,by have:=(hwo l h).2.1;omega⟩) (fun l h w hw=>by have:=(hwo l h).2.2 w hw;omega)) ⟨rfl,rfl,rfl,rfl⟩ ?_;rintro u v ⟨rfl,x,rfl,hx⟩;repeat refine AI ?_
 refine hK' _ _ ?_;clear hK' K';iterate 6
  (refine aC (g:=none) rfl rfl fun K' hK'=>?_;simp only[sH,↓sP,sA,tyS,simprocAttr,hdl];(repeat refine AI ?_);refine hK' _ _ ?_;clear hK' K')
 simp only[sE,↓reduceIte,simprocAttr];repeat refine AI ?_
 refine hK _ _ _ ?_;clear hK K;refine aE fun K hK=>?_;refine aE fun K hK=>aD (by kernel_rfl) ?_;simp (maxSteps:=4000000) only[↓sP,sA,tyS,simprocAttr];repeat refine AI ?_
 refine hK _ _ _ ?_;clear hK K;refine aG (b:=!(gE (lT b)).isSome) rfl (fun hb=>?_) (fun hb=>?_)
 ·
  have hno:gE (lT b)=none:=by simpa using hb
  have e3:sV b=none:=by rw[e0,hno];rfl
  have e1:ddE b=2:=by rw[e1,e3];rfl
  have e2:ddO b=dv0:=by rw[ddO,e3];rfl
  clear hb;refine aE fun K hK=>aD (by kernel_rfl) ?_;simp (maxSteps:=4000000) only[↓sP,sA,tyS,simprocAttr,cT,cU];repeat refine AI ?_
  refine hK _ _ _ ?_;clear hK K;refine aJ ?_;simp (maxSteps:=4000000) only[aT,Tryz.results27,aR,aS,aQ,↓sP,sA,tyS,simprocAttr];refine rJ (n:=2) rfl rfl ⟨by rw[e2],by rw[e1]⟩
 obtain⟨d,hd⟩:=Option.isSome_iff_exists.1 (show(gE (lT b)).isSome=true by simpa using hb);obtain rfl:=hx d hd;clear hb hx;rw[hd,Option.bind_some]at e0;have hw:=cO2 (cD3 hwo hlen hd);refine aK ?_;simp (maxSteps:=4000000) only[↓sP,sA,tyS,simprocAttr];repeat refine AI ?_
 refine hK _ _ _ ?_;clear hK K;refine aE fun K hK=>?_;refine aE fun K hK=>aD (by kernel_rfl) ?_;simp only[sR,simprocAttr];refine aC (g:=none) rfl rfl fun K' hK'=>?_;simp (maxSteps:=4000000) only[sH,↓sP,sA,tyS,simprocAttr];repeat refine AI ?_
 refine hK' _ _ ?_;clear hK' K';refine aC (g:=none) rfl rfl fun K' hK'=>?_;simp (maxSteps:=4000000) only[sH,↓sP,sA,tyS,simprocAttr];refine fM (args:=[_]) 0 (aO0 x hw) rfl (by simp) ⟨rfl,rfl,rfl,rfl⟩ ?_;rintro u v ⟨rfl,rfl⟩;repeat refine AI ?_
 refine hK' _ _ ?_;clear hK' K';iterate 5
  (refine aC (g:=none) rfl rfl fun K' hK'=>?_;simp only[sH,↓sP,sA,tyS,simprocAttr];(repeat refine AI ?_);refine hK' _ _ ?_;clear hK' K')
 simp only[sE,↓reduceIte,simprocAttr];repeat refine AI ?_
 refine hK _ _ _ ?_;clear hK K;refine aE fun K hK=>aD (by kernel_rfl) ?_;simp only[sR,simprocAttr];iterate 3
  (refine aC (g:=none) rfl rfl fun K' hK'=>?_;simp only[sH,↓sP,sA,tyS,simprocAttr,cM,denilL_u8];(repeat refine AI ?_);refine hK' _ _ ?_;clear hK' K')
 refine aL 33 rfl (fun h8_33=>?_) (fun h8_33=>?_)
 ·
  iterate 4
   (refine aC (g:=some (34,false)) rfl rfl fun K' hK'=>?_;simp only[sH,↓sP,sA,tyS,simprocAttr,cM,denilL_u8,h8_33];(repeat refine AI ?_);refine hK' _ _ ?_;clear hK' K')
  refine aC (g:=none) rfl rfl fun K' hK'=>?_;simp (maxSteps:=4000000) only[sH,↓sP,sA,tyS,simprocAttr,cM,denilL_u8,h8_33];repeat refine AI ?_
  refine hK' _ _ ?_;clear hK' K';simp only[sE,↓reduceIte,simprocAttr];repeat refine AI ?_
  refine hK _ _ _ ?_;clear hK K;refine aG (b:=true) rfl (fun hb=>?_) (fun hb=>?_)
  ·
   refine aE fun K hK=>aD (by kernel_rfl) ?_;simp (maxSteps:=4000000) only[↓sP,sA,tyS,simprocAttr,cT,cU];repeat refine AI ?_
   refine hK _ _ _ ?_;clear hK K;refine aJ ?_;simp (maxSteps:=4000000) only[aT,Tryz.results27,aR,aS,aQ,↓sP,sA,tyS,simprocAttr];have e3:sV b=none:=by
    rw[e0,if_neg];rintro⟨h1,h2⟩;first|(rw[h1]at h8_33;exact absurd h8_33 (by decide))|(rw[h2]at h8_37;simp at h8_37)
   have e1:ddE b=2:=by rw[e1,e3];rfl
   have e2:ddO b=dv0:=by rw[ddO,e3];rfl
   refine rJ (n:=2) rfl rfl ⟨by rw[e2],by rw[e1]⟩
  cases hb
 iterate 2
  (refine aC (g:=some (34,false)) rfl rfl fun K' hK'=>?_;simp only[sH,↓sP,sA,tyS,simprocAttr,cM,denilL_u8,h8_33];(repeat refine AI ?_);refine hK' _ _ ?_;clear hK' K')
 refine aC (g:=some (34,false)) rfl rfl fun K' hK'=>?_;simp (maxSteps:=4000000) only[sH,↓sP,sA,tyS,simprocAttr,cM,denilL_u8,h8_33];refine aX (args:=[_,_]) (bI8 (dvO x) b) ⟨rfl,rfl,rfl,rfl⟩ ?_;rintro u rfl;repeat refine AI ?_
 refine hK' _ _ ?_;clear hK' K';refine aC (g:=some (34,false)) rfl rfl fun K' hK'=>?_;simp (maxSteps:=4000000) only[sH,↓sP,sA,tyS,simprocAttr,cM,denilL_u8,h8_33];repeat refine AI ?_
 refine hK' _ _ ?_;clear hK' K';refine aC (g:=none) rfl rfl fun K' hK'=>?_;simp (maxSteps:=4000000) only[sH,↓sP,sA,tyS,simprocAttr,cM,denilL_u8,h8_33];repeat refine AI ?_
 refine hK' _ _ ?_;clear hK' K';refine aL 37 rfl (fun h8_37=>?_) (fun h8_37=>?_)
 ·
  simp only[h8_37];simp only[sE,↓reduceIte,simprocAttr];repeat refine AI ?_
  refine hK _ _ _ ?_;clear hK K;refine aG (b:=false) rfl (fun hb=>?_) (fun hb=>?_)
  · cases hb
  refine aK ?_;simp (maxSteps:=4000000) only[↓sP,sA,tyS,simprocAttr];repeat refine AI ?_
  refine hK _ _ _ ?_;clear hK K;refine aE fun K hK=>aD (by kernel_rfl) ?_;simp (maxSteps:=4000000) only[↓sP,sA,tyS,simprocAttr];repeat refine AI ?_
  refine hK _ _ _ ?_;clear hK K;refine aJ ?_;simp (maxSteps:=4000000) only[aT,Tryz.results27,aR,aS,aQ,↓sP,sA,tyS,simprocAttr];have e3:sV b=some x:=by rw[e0,if_pos ⟨by simpa using h8_33,by simpa using h8_37⟩]
  have e1:ddE b=0:=by rw[e1,e3];rfl
  have e2:ddO b=x:=by rw[ddO,e3];rfl
  exact eP [] x.cv (.int .i64 0) (by simp[HV.close,HV.closeL,Dv.denil,CV.denil,HV.norm,HV.toC,HV.toCL]) rfl (by simp) ⟨by rw[e2],by rw[e1]⟩
 simp only[h8_37];simp only[sE,↓reduceIte,simprocAttr];repeat refine AI ?_
 refine hK _ _ _ ?_;clear hK K;refine aG (b:=true) rfl (fun hb=>?_) (fun hb=>?_)
 ·
  refine aE fun K hK=>aD (by kernel_rfl) ?_;simp (maxSteps:=4000000) only[↓sP,sA,tyS,simprocAttr,cT,cU];repeat refine AI ?_
  refine hK _ _ _ ?_;clear hK K;refine aJ ?_;simp (maxSteps:=4000000) only[aT,Tryz.results27,aR,aS,aQ,↓sP,sA,tyS,simprocAttr];have e3:sV b=none:=by
   rw[e0,if_neg];rintro⟨h1,h2⟩;first|(rw[h1]at h8_33;exact absurd h8_33 (by decide))|(rw[h2]at h8_37;simp at h8_37)
  have e1:ddE b=2:=by rw[e1,e3];rfl
  have e2:ddO b=dv0:=by rw[ddO,e3];rfl
  refine rJ (n:=2) rfl rfl ⟨by rw[e2],by rw[e1]⟩
 cases hb
end Go.Proofs.YthedbjfipmkpiaaGreatDoor
namespace Go.Pl
open Go Go.Hl
variable {q:Rq}
theorem bU9 (h:(q.k==1||(q.k==3||q.k==5))=true):gP q=(inB q.n 1 32&&gU q ⟨q.k,q.n,0,[]⟩):=by grind[gP,gU]
theorem aO4 (h:q.k=4):gP q=((inB q.n 1 32&&inB q.m 0 32)&&gU q ⟨q.k,q.n,q.m,[]⟩):=by simp[gP,h,gU,Bool.and_assoc]
theorem bV0 (h:q.k=2):gP q=(fV q.t&&gU q ⟨q.k,0,0,q.t⟩):=by simp[gP,h,gU]
theorem bV1 (h:q.k=6):gP q=(inB q.n 1 10&&gU q ⟨q.k,q.n,0,[]⟩):=by simp[gP,h,gU]
theorem bV2 (h:q.k=7):gP q=(inB q.n 0 aK3&&gU q ⟨q.k,q.n,0,[]⟩):=by simp[gP,h,gU]
theorem bV3 (h:q.k=8):gP q=(true&&gU q ⟨q.k,0,0,[]⟩):=by simp[gP,h,gU]
theorem cD5 (h:(q.k==1||(q.k==3||q.k==5))=false)(h4:q.k≠4)(h2:q.k≠2)(h6:q.k≠6)(h7:q.k≠7)(h8:q.k≠8):gP q=false:=by simp_all[gP,if_neg]
variable {n:Nd}
theorem pR (h:n.k=1):dE n=(n.c==0&&(n.n==0&&gP n.q)):=by simp only[dE,if_pos h]
theorem aB8 (h:(n.k==2||n.k==3)=true):dE n=((inB n.c 1 60&&gU n.q rq0)&&n.n==0):=by
 have h':n.k=2∨n.k=3:=by simpa using h
 have h1:n.k≠1:=by omega
 simp_all[dE,if_neg,if_pos,Bool.and_assoc]
theorem pS (h:n.k=4):dE n=((inB n.c 1 60&&gU n.q rq0)&&inB n.n 1 n.c):=by simp_all[dE,if_neg,if_pos,Bool.and_assoc]
theorem bV4 (h1:n.k≠1)(h:(n.k==2||n.k==3)=false)(h4:n.k≠4):dE n=false:=by simp_all[dE,if_neg]
structure ScSt (l:List Nd)(i:Nat)(m v:Int):Prop where
 le:i≤l.length
 eq:qI l 1 0=qI (l.drop i) m v
 m0:0≤m
 m1:m≤1+60*i
 v0:0≤v
 v1:v≤i
theorem ScSt.init (l:List Nd):ScSt l 0 1 0:=⟨by omega,rfl,by omega,by omega,by omega,by omega⟩
variable {m v:Int}{i:Nat}{l:List Nd}
theorem ScSt.stop (h:ScSt l i m v)(hi:i<l.length)(hb:m=0∨dE l[i]=false):dZ l=false:=by
 have:qI l 1 0=none:=by
  rw[h.eq,List.drop_eq_getElem_cons hi,qI];rcases hb with hb|hb
  · rw[if_pos hb]
  · grind
 simp[dZ,this]
theorem ScSt.next (h:ScSt l i m v)(hi:i<l.length)(hm:m≠0)(hb:dE l[i]=true):ScSt l (i+1) (m+(l[i].c-1)) (if l[i].k=1 then v+1 else v):=by
 obtain⟨c1,c2,_,_⟩:=gF hb;have h0:=h.m0;have h1:=h.m1;have h2:=h.v0;have h3:=h.v1;refine⟨hi,?_,by omega,by omega,?_,?_⟩
 · rw[h.eq,List.drop_eq_getElem_cons hi,qI,if_neg hm,if_pos hb]
 all_goals grind
theorem ScSt.fin (h:ScSt l l.length m v)(h1:1≤l.length)(h2:l.length≤60):dZ l=(m==0&&decide (v≤16)):=by
 have:qI l 1 0=some (m,v):=by rw[h.eq,List.drop_length];rfl
 grind[dZ]
theorem tZ (h:l.length<1∨60<l.length):dZ l=false:=by grind[dZ]
theorem pT {l:List Nd}{i:Int}(h:dZ l=false∨i<0∨(l.length:Int)≤i):sI l i=[]:=by
 unfold sI;grind
theorem aB9 (h:dZ l=true)(hi:i<l.length):sI l i=eH l l[i].c.toNat (i+1):=by simp_all[sI,if_pos,aE5]
theorem uA (h:dZ l=false):dA l=[]:=by simp[dA,h]
theorem iF (h:dZ l=true):dA l=dC 0 l:=by simp[dA,h]
theorem oV : ∀{l:List Bool} {k:Nat},k<l.length→cnt (l.take (k+1))=cnt (l.take k)+(if l.getD k false=true then 1 else 0)
 |x::l,0,_=>by cases x<;>simp[cnt]
 |x::l,k+1,h=>by
  have h':k<l.length:=by simpa using h
  have e: ∀m,cnt ((x::l).take (m+1))=(if x=true then 1 else 0)+cnt (l.take m):=fun m=>by grind[cnt]
  rw[e,e,oV h'];grind
theorem bB2 (h:i<l.length):lv (l.take (i+1))=lv (l.take i)+(if l[i].k=1 then 1 else 0):=by grind[List.take_succ_eq_append_getElem,sF,lv]
theorem aV1 (l:List Nd)(i:Nat):lv (l.take i)≤i:=by grind[bN3]
def bwL (l:List Nd):List (List CV):=(List.range l.length).map fun j=>[.int .i64 (l.length-1-j:Nat),(l.getD (l.length-1-j) nd0).cv]
theorem rK (l:List Nd):(bwL l).length=l.length:=by simp[bwL]
theorem bV5 {l:List Nd}{j:Nat}(h:j<(bwL l).length)(h2:l.length-1-j<l.length):(bwL l)[j]=[.int .i64 (l.length-1-j:Nat),(l[l.length-1-j]).cv]:=by simp[bwL,h2]
end Go.Pl
namespace Go.Proofs.YthedbjfipmkpiaaGreatDoor
open Go Go.Hl Go.Pl
set_option maxRecDepth 10000
set_option maxHeartbeats 2000000
theorem co3 :Tryz.prog.cellsOf 3=1:=by kernel_rfl
theorem co2 :Tryz.prog.cellsOf 2=1:=by kernel_rfl
theorem co9 :Tryz.prog.cellsOf 9=1:=by kernel_rfl
theorem cF7 (n:Nat)(x:Rq):CV.ofTy Tryz.prog (n+2) 87 x.cv=true:=by
 simp only[Rq.cv,CV.ofTyF,CV.ofTy,tyS,co2,co3,co9,CV.cells,beq_self_eq_true,Bool.and_true]
theorem aO5 (x y:Rq)(K:CV→Prop):iU Tryz.prog .eql 87 (.c x.cv) (.c y.cv) K=K (.bool (gU x y)):=by
 have ha:aW6 Tryz.prog 87=true:=by kernel_rfl
 have h1:=cF7 6 x;have h2:=cF7 6 y;have e:CV.eqv (.agg [.int .i64 x.k,.int .i64 x.n,.int .i64 x.m,.str x.t]) (.agg [.int .i64 y.k,.int .i64 y.n,.int .i64 y.m,.str y.t])=gU x y:=by simp only[CV.eqv,CV.eqvL,gU,Bool.and_true]
 simp only[Rq.cv]at h1 h2⊢;simp only[iU,ha,h1,h2,e,true_and]
theorem bV6 :CV.agg [.int .i64 0,.int .i64 0,.int .i64 0,.str []]=rq0.cv:=rfl
theorem lE (n a b:Int):dB Tryz.prog 153 [.int .i64 n,.int .i64 a,.int .i64 b] (fun v=>v= .bool (inB n a b)):=by
 refine bD Tryz.func153 rfl (by kernel_rfl) (bH _) (Nat.le_of_ble_eq_true rfl) ?_;refine R0 ?_;refine aE fun K hK=>Rg ?_;iterate 4 refine S0 ?_
 refine aL 9 rfl (fun h1_9=>?_) (fun h1_9=>?_)
 ·
  iterate 5 refine S0 ?_ (e:=fun _ h_=>by simp only[sH,↓sP,sA,tyS,simprocAttr,h1_9];exact AX h_)
  refine T2 (hK _ _ _ ?_);clear hK K;refine aJ ?_;simp only[aT,Tryz.results153,aR,aS,aQ,↓sP,sA,tyS,simprocAttr];exact aW [] (.bool _) rfl (by simp only[inB,h1_9,Bool.true_and,Bool.false_and])
 iterate 5 refine S0 ?_ (e:=fun _ h_=>by simp only[sH,↓sP,sA,tyS,simprocAttr,h1_9];exact AX h_)
 refine T2 (hK _ _ _ ?_);clear hK K;refine aJ ?_;simp only[aT,Tryz.results153,aR,aS,aQ,↓sP,sA,tyS,simprocAttr];exact aW [] (.bool _) rfl (by simp only[inB,h1_9,Bool.true_and,Bool.false_and])
theorem aO6 (q:Rq)(hn:q.t.length<2^63):dB Tryz.prog 128 [q.cv] (fun v=>v= .bool (gP q)):=by
 refine bD Tryz.func128 rfl (by kernel_rfl) (bH _) (Nat.le_of_ble_eq_true rfl) ?_;refine R0 ?_;refine aE fun K hK=>Rg ?_;iterate 5 refine S0 ?_
 refine T2 (hK _ _ _ ?_);clear hK K;refine R0 ?_;refine aE fun K hK=>?_;have key0: ∀(s:Bool) (u:Rq) fr ob nx,gP q=(s&&gU q u)→Fits 0 fr ob (fin [(1,.ptr 0 0),(3,.ptr 20 0),(4,.c (.bool s))]) (fob [(0,.box 87 (.c q.cv)),(20,.box 87 (.c u.cv))]) 1000→K fr ob nx:=by
  rintro s u fr ob nx hq hf;refine hK _ _ _ (bX hf ?_);clear hf hK K;refine aE fun K hK=>Rg ?_;iterate 2 refine S0 ?_ (e:=fun _ h_=>by simp only[sH,↓sP,sA,tyS,simprocAttr,aO5];exact AX h_)
  refine aL 62 rfl (fun h18_62=>?_) (fun h18_62=>?_)
  ·
   iterate 5 refine S0 ?_ (e:=fun _ h_=>by simp only[sH,↓sP,sA,tyS,simprocAttr,aO5,h18_62];exact AX h_)
   refine T2 (hK _ _ _ ?_);clear hK K;refine aJ ?_;simp only[aT,Tryz.results128,aR,aS,aQ,↓sP,sA,tyS,simprocAttr];exact aW [] (.bool _) rfl (by rw[hq,h18_62,Bool.true_and])
  iterate 5 refine S0 ?_ (e:=fun _ h_=>by simp only[sH,↓sP,sA,tyS,simprocAttr,aO5,h18_62];exact AX h_)
  refine T2 (hK _ _ _ ?_);clear hK K;refine aJ ?_;simp only[aT,Tryz.results128,aR,aS,aQ,↓sP,sA,tyS,simprocAttr];exact aW [] (.bool false) rfl (by rw[hq,h18_62,Bool.false_and])
 refine R0 ?_;refine aP ?_;refine aE fun K hK=>?_;have key: ∀(b:Bool) fr ob nx,b=(q.k==1||(q.k==3||q.k==5))→Fits 0 fr ob (fin [(1,.ptr 0 0),(3,.ptr 20 0),(4,.c (.bool true)),(9,.c (.int .i64 q.k)),(10,.c (.bool b))]) (fob [(0,.box 87 (.c q.cv)),(20,.box 87 (.c (Rq.cv ⟨q.k,0,0,[]⟩)))]) 300→K fr ob nx:=by
  rintro b fr ob nx rfl hf;refine hK _ _ _ (bX hf ?_);clear hf hK K;refine aG (b:=_) rfl (fun hb=>?_) (fun hb=>?_)
  ·
   refine dJ mixed [(0,[],[]),(1,[],[]),(2,[],[]),(3,[],[]),(5,[],[]),(4,[],[0,1,5]),(6,[],[]),(7,[],[])] [0,1,0,4,12,3,63,127] (by kernel_rfl) (by kernel_rfl) (by kernel_rfl) (by kernel_rfl) rfl (by kernel_rfl) ?_;iterate 5 refine W0 ?_
   refine bG (g:=none) rfl rfl fun K' hK'=>?_;simp only[sH,↓sP,sA,tyS,simprocAttr];refine aX (args:=[_,_,_]) (lE _ _ _) ⟨rfl,rfl,rfl,rfl⟩ ?_;rintro u rfl;refine AX (hK' _ _ ?_);clear hK' K';iterate 2 refine W0 ?_
   simp only[sE,↓reduceIte,simprocAttr];exact key0 (inB q.n 1 32) ⟨q.k,q.n,0,[]⟩ _ _ _ (bU9 hb) (fF)
  have h1:=hb;refine R0 ?_;refine aG (b:=_) rfl (fun hb=>?_) (fun hb=>?_)
  ·
   refine dJ mixed [(0,[],[]),(1,[],[]),(2,[],[]),(3,[],[]),(4,[],[]),(5,[],[]),(12,[],[]),(6,[],[0,1,2,3,12]),(7,[],[]),(8,[],[]),(9,[],[]),(10,[],[0,1,2,3,12]),(11,[],[]),(13,[],[2,3,11]),(14,[],[]),(15,[],[11]),(16,[],[])] [0,1,0,4,0,16,48,112,240,496,1008,2032,3,6131,14335,30719,65535] (by kernel_rfl) (by kernel_rfl) (by kernel_rfl) (by kernel_rfl) rfl (by kernel_rfl) ?_;iterate 7 refine W0 ?_
   refine bG (g:=none) rfl rfl fun K' hK'=>?_;simp only[sH,↓sP,sA,tyS,simprocAttr];refine aX (args:=[_,_,_]) (lE _ _ _) ⟨rfl,rfl,rfl,rfl⟩ ?_;rintro u rfl;refine AX (hK' _ _ ?_);clear hK' K';refine W0 ?_;refine aE7 28 rfl (fun h10_28=>?_) (fun h10_28=>?_)
   ·
    iterate 2 refine W0 ?_ (e:=fun _ h_=>by simp only[sH,↓sP,sA,tyS,simprocAttr,h10_28];exact AX h_)
    refine bG (g:=some (29,true)) rfl rfl fun K' hK'=>?_;simp only[sH,↓sP,sA,tyS,simprocAttr,h10_28];refine aX (args:=[_,_,_]) (lE _ _ _) ⟨rfl,rfl,rfl,rfl⟩ ?_;rintro u rfl;refine AX (hK' _ _ ?_);clear hK' K';iterate 5 refine W0 ?_ (e:=fun _ h_=>by simp only[sH,↓sP,sA,tyS,simprocAttr,h10_28];exact AX h_)
    simp only[sE,↓reduceIte,simprocAttr];exact key0 (inB q.m 0 32) ⟨q.k,q.n,q.m,[]⟩ _ _ _ (by rw[aO4 (by simpa using hb),h10_28,Bool.true_and]) (fF)
   iterate 8 refine W0 ?_ (e:=fun _ h_=>by simp only[sH,↓sP,sA,tyS,simprocAttr,h10_28];exact AX h_)
   simp only[sE,↓reduceIte,simprocAttr];exact key0 false ⟨q.k,q.n,q.m,[]⟩ _ _ _ (by rw[aO4 (by simpa using hb),h10_28];rfl) (fF)
  have h2:=hb;refine R0 ?_;refine aG (b:=_) rfl (fun hb=>?_) (fun hb=>?_)
  ·
   refine dJ mixed [(0,[],[]),(1,[],[]),(2,[],[]),(3,[],[]),(5,[],[]),(4,[],[0,1,5]),(6,[],[]),(7,[],[])] [0,1,0,4,12,3,63,127] (by kernel_rfl) (by kernel_rfl) (by kernel_rfl) (by kernel_rfl) rfl (by kernel_rfl) ?_;iterate 5 refine W0 ?_
   refine bG (g:=none) rfl rfl fun K' hK'=>?_;simp only[sH,↓sP,sA,tyS,simprocAttr];refine aX (args:=[_]) (cA6 _ hn) ⟨rfl,rfl,rfl,rfl⟩ ?_;rintro u rfl;refine AX (hK' _ _ ?_);clear hK' K';iterate 2 refine W0 ?_
   simp only[sE,↓reduceIte,simprocAttr];exact key0 (fV q.t) ⟨q.k,0,0,q.t⟩ _ _ _ (bV0 (by simpa using hb)) (fF)
  have h3:=hb;refine R0 ?_;refine aG (b:=_) rfl (fun hb=>?_) (fun hb=>?_)
  ·
   refine dJ mixed [(0,[],[]),(1,[],[]),(2,[],[]),(3,[],[]),(5,[],[]),(4,[],[0,1,5]),(6,[],[]),(7,[],[])] [0,1,0,4,12,3,63,127] (by kernel_rfl) (by kernel_rfl) (by kernel_rfl) (by kernel_rfl) rfl (by kernel_rfl) ?_;iterate 5 refine W0 ?_
   refine bG (g:=none) rfl rfl fun K' hK'=>?_;simp only[sH,↓sP,sA,tyS,simprocAttr];refine aX (args:=[_,_,_]) (lE _ _ _) ⟨rfl,rfl,rfl,rfl⟩ ?_;rintro u rfl;refine AX (hK' _ _ ?_);clear hK' K';iterate 2 refine W0 ?_
   simp only[sE,↓reduceIte,simprocAttr];exact key0 (inB q.n 1 10) ⟨q.k,q.n,0,[]⟩ _ _ _ (bV1 (by simpa using hb)) (fF)
  have h4:=hb;refine R0 ?_;refine aG (b:=_) rfl (fun hb=>?_) (fun hb=>?_)
  ·
   refine dJ mixed [(0,[],[]),(1,[],[]),(2,[],[]),(3,[],[]),(5,[],[]),(4,[],[0,1,5]),(6,[],[]),(7,[],[])] [0,1,0,4,12,3,63,127] (by kernel_rfl) (by kernel_rfl) (by kernel_rfl) (by kernel_rfl) rfl (by kernel_rfl) ?_;iterate 5 refine W0 ?_
   refine bG (g:=none) rfl rfl fun K' hK'=>?_;simp only[sH,↓sP,sA,tyS,simprocAttr];refine aX (args:=[_,_,_]) (lE _ _ _) ⟨rfl,rfl,rfl,rfl⟩ ?_;rintro u rfl;refine AX (hK' _ _ ?_);clear hK' K';iterate 2 refine W0 ?_
   simp only[sE,↓reduceIte,simprocAttr];exact key0 (inB q.n 0 1099511627776) ⟨q.k,q.n,0,[]⟩ _ _ _ (bV2 (by simpa using hb)) (fF)
  have h5:=hb;refine R0 ?_;refine aG (b:=_) rfl (fun hb=>?_) (fun hb=>?_)
  · refine aK ?_;simp only[↓sP,sA,tyS,simprocAttr];exact key0 true ⟨q.k,0,0,[]⟩ _ _ _ (bV3 (by simpa using hb)) (fF)
  refine R0 ?_;refine aJ ?_;simp only[aT,Tryz.results128,aR,aS,aQ,↓sP,sA,tyS,simprocAttr];exact aW [] (.bool false) rfl (by rw[cD5 h1 (by simpa using h2) (by simpa using h3) (by simpa using h4) (by simpa using h5) (by simpa using hb)])
 refine R0 ?_;refine aG (b:=_) rfl (fun hb=>?_) (fun hb=>?_)
 · refine aK ?_;simp only[↓sP,sA,tyS,simprocAttr];exact key (q.k==1) _ _ _ (by rw[hb];rfl) (fF)
 have h1:=hb;refine R0 ?_;refine aG (b:=_) rfl (fun hb=>?_) (fun hb=>?_)
 · refine aK ?_;simp only[↓sP,sA,tyS,simprocAttr];exact key (q.k==3) _ _ _ (by rw[h1,hb];rfl) (fF)
 have h1':=hb;refine aD (by kernel_rfl) ?_;simp only[↓sP,sA,tyS,simprocAttr];exact key (q.k==5) _ _ _ (by rw[h1,h1'];rfl) (fF)
theorem bV7 (n:Nd)(hn:n.q.t.length<2^63):dB Tryz.prog 98 [n.cv] (fun v=>v= .bool (dE n)):=by
 refine bD Tryz.func98 rfl (by kernel_rfl) (bH _) (Nat.le_of_ble_eq_true rfl) ?_;refine R0 ?_;refine aE fun K hK=>?_;have key: ∀(b:Bool) fr ob nx,b=(inB n.c 1 60&&gU n.q rq0)→Fits 0 fr ob (fin [(1,.ptr 0 0),(3,.c (.bool b))]) (fob [(0,.box 89 (.c n.cv))]) 100→K fr ob nx:=by
  rintro b fr ob nx rfl hf;refine hK _ _ _ (bX hf ?_);clear hf hK K;refine aE fun K hK=>?_;refine R0 ?_;refine aP ?_;refine R0 ?_;refine aG (b:=_) rfl (fun hb=>?_) (fun hb=>?_)
  ·
   refine aE fun K hK=>Rg ?_;iterate 4 refine S0 ?_
   refine aL 24 rfl (fun h4_24=>?_) (fun h4_24=>?_)
   ·
    iterate 5 refine S0 ?_ (e:=fun _ h_=>by simp only[sH,↓sP,sA,tyS,simprocAttr,h4_24];exact AX h_)
    refine aL 28 rfl (fun h4_28=>?_) (fun h4_28=>?_)
    ·
     iterate 2 refine S0 ?_ (e:=fun _ h_=>by simp only[sH,↓sP,sA,tyS,simprocAttr,h4_24,h4_28];exact AX h_)
     refine aC (g:=some (30,true)) rfl rfl fun K' hK'=>?_;simp only[sH,↓sP,sA,tyS,simprocAttr,h4_24,h4_28];refine aX (args:=[_]) (aO6 n.q hn) ⟨rfl,rfl,rfl,rfl⟩ ?_;rintro u rfl;refine AX (hK' _ _ ?_);clear hK' K';iterate 2 refine S0 ?_ (e:=fun _ h_=>by simp only[sH,↓sP,sA,tyS,simprocAttr,h4_24,h4_28];exact AX h_)
     refine T2 (hK _ _ _ ?_);clear hK K;refine aJ ?_;simp only[aT,Tryz.results98,aR,aS,aQ,↓sP,sA,tyS,simprocAttr];exact aW [] (.bool _) rfl (by rw[pR (by simpa using hb),h4_24,h4_28];rfl)
    iterate 5 refine S0 ?_ (e:=fun _ h_=>by simp only[sH,↓sP,sA,tyS,simprocAttr,h4_24,h4_28];exact AX h_)
    refine T2 (hK _ _ _ ?_);clear hK K;refine aJ ?_;simp only[aT,Tryz.results98,aR,aS,aQ,↓sP,sA,tyS,simprocAttr];exact aW [] (.bool _) rfl (by rw[pR (by simpa using hb),h4_24,h4_28];rfl)
   iterate 10 refine S0 ?_ (e:=fun _ h_=>by simp only[sH,↓sP,sA,tyS,simprocAttr,h4_24];exact AX h_)
   refine T2 (hK _ _ _ ?_);clear hK K;refine aJ ?_;simp only[aT,Tryz.results98,aR,aS,aQ,↓sP,sA,tyS,simprocAttr];exact aW [] (.bool _) rfl (by rw[pR (by simpa using hb),h4_24];rfl)
  have h1:n.k≠1:=by simpa using hb
  refine aE fun K hK=>?_;have key2: ∀(b:Bool) fr ob nx,b=(n.k==2||n.k==3)→Fits 0 fr ob (fin [(1,.ptr 0 0),(3,.c (.bool (inB n.c 1 60&&gU n.q rq0))),(19,.c (.int .i64 n.k)),(35,.c (.bool b))]) (fob [(0,.box 89 (.c n.cv))]) 300→K fr ob nx:=by
   rintro b fr ob nx rfl hf;refine hK _ _ _ (bX hf ?_);clear hf hK K;refine aG (b:=_) rfl (fun hb=>?_) (fun hb=>?_)
   ·
    refine aE fun K hK=>Rg ?_;iterate 2 refine S0 ?_
    refine aL 38 rfl (fun h7_38=>?_) (fun h7_38=>?_)
    ·
     iterate 5 refine S0 ?_ (e:=fun _ h_=>by simp only[sH,↓sP,sA,tyS,simprocAttr,h7_38];exact AX h_)
     refine T2 (hK _ _ _ ?_);clear hK K;refine aJ ?_;simp only[aT,Tryz.results98,aR,aS,aQ,↓sP,sA,tyS,simprocAttr];exact aW [] (.bool _) rfl (by rw[aB8 hb,h7_38,Bool.true_and])
    iterate 5 refine S0 ?_ (e:=fun _ h_=>by simp only[sH,↓sP,sA,tyS,simprocAttr,h7_38];exact AX h_)
    refine T2 (hK _ _ _ ?_);clear hK K;refine aJ ?_;simp only[aT,Tryz.results98,aR,aS,aQ,↓sP,sA,tyS,simprocAttr];exact aW [] (.bool _) rfl (by rw[aB8 hb,h7_38,Bool.false_and])
   have h2:=hb;refine R0 ?_;refine aG (b:=_) rfl (fun hb=>?_) (fun hb=>?_)
   ·
    refine aE fun K hK=>Rg ?_;iterate 2 refine S0 ?_
    refine aL 46 rfl (fun h9_46=>?_) (fun h9_46=>?_)
    ·
     iterate 5 refine S0 ?_ (e:=fun _ h_=>by simp only[sH,↓sP,sA,tyS,simprocAttr,h9_46];exact AX h_)
     refine aL 50 rfl (fun h9_50=>?_) (fun h9_50=>?_)
     ·
      iterate 7 refine S0 ?_ (e:=fun _ h_=>by simp only[sH,↓sP,sA,tyS,simprocAttr,h9_46,h9_50];exact AX h_)
      refine T2 (hK _ _ _ ?_);clear hK K;refine aJ ?_;simp only[aT,Tryz.results98,aR,aS,aQ,↓sP,sA,tyS,simprocAttr];exact aW [] (.bool _) rfl (by rw[pS (by simpa using hb),h9_46,inB,h9_50];rfl)
     iterate 7 refine S0 ?_ (e:=fun _ h_=>by simp only[sH,↓sP,sA,tyS,simprocAttr,h9_46,h9_50];exact AX h_)
     refine T2 (hK _ _ _ ?_);clear hK K;refine aJ ?_;simp only[aT,Tryz.results98,aR,aS,aQ,↓sP,sA,tyS,simprocAttr];exact aW [] (.bool _) rfl (by rw[pS (by simpa using hb),h9_46,inB,h9_50];rfl)
    iterate 12 refine S0 ?_ (e:=fun _ h_=>by simp only[sH,↓sP,sA,tyS,simprocAttr,h9_46];exact AX h_)
    refine T2 (hK _ _ _ ?_);clear hK K;refine aJ ?_;simp only[aT,Tryz.results98,aR,aS,aQ,↓sP,sA,tyS,simprocAttr];exact aW [] (.bool _) rfl (by rw[pS (by simpa using hb),h9_46,Bool.false_and])
   refine aK ?_;refine T0 (hK _ _ _ ?_);clear hK K;refine R0 ?_;refine aJ ?_;simp only[aT,Tryz.results98,aR,aS,aQ,↓sP,sA,tyS,simprocAttr];exact aW [] (.bool _) rfl (by rw[bV4 h1 h2 (by simpa using hb)])
  refine R0 ?_;refine aG (b:=_) rfl (fun hb=>?_) (fun hb=>?_)
  · refine aK ?_;simp only[↓sP,sA,tyS,simprocAttr];exact key2 (n.k==2) _ _ _ (by rw[hb];rfl) (fF)
  have h2:=hb;refine aD (by kernel_rfl) ?_;simp only[↓sP,sA,tyS,simprocAttr];exact key2 (n.k==3) _ _ _ (by rw[hb];rfl) (fF)
 refine aD (by kernel_rfl) ?_;simp only[sR,simprocAttr];iterate 4 refine S0 ?_ (e:=fun _ h_=>by simp only[sH,↓sP,sA,tyS,simprocAttr,aO5,bV6];exact AX h_)
 refine aL 6 rfl (fun h1_6=>?_) (fun h1_6=>?_)
 ·
  iterate 5 refine S0 ?_ (e:=fun _ h_=>by simp only[sH,↓sP,sA,tyS,simprocAttr,aO5,bV6,h1_6];exact AX h_)
  refine aL 10 rfl (fun h1_10=>?_) (fun h1_10=>?_)
  ·
   iterate 6 refine S0 ?_ (e:=fun _ h_=>by simp only[sH,↓sP,sA,tyS,simprocAttr,aO5,bV6,h1_6,h1_10];exact AX h_)
   refine aL 16 rfl (fun h1_16=>?_) (fun h1_16=>?_)
   · simp only[h1_16];simp only[sE,↓reduceIte,simprocAttr];exact key true _ _ _ (by first|(simp only[inB,rq0,h1_6,h1_10,h1_16,Bool.true_and,Bool.false_and,Bool.and_false,Bool.and_true];done)|(simp only[inB,h1_6,h1_10,Bool.true_and];exact Eq.symm h1_16)) (fF)
   simp only[h1_16];simp only[sE,↓reduceIte,simprocAttr];exact key false _ _ _ (by first|(simp only[inB,rq0,h1_6,h1_10,h1_16,Bool.true_and,Bool.false_and,Bool.and_false,Bool.and_true];done)|(simp only[inB,h1_6,h1_10,Bool.true_and];exact Eq.symm h1_16)) (fF)
  iterate 6 refine S0 ?_ (e:=fun _ h_=>by simp only[sH,↓sP,sA,tyS,simprocAttr,aO5,bV6,h1_6,h1_10];exact AX h_)
  simp only[sE,↓reduceIte,simprocAttr];exact key false _ _ _ (by first|(simp only[inB,rq0,h1_6,h1_10,Bool.true_and,Bool.false_and,Bool.and_false,Bool.and_true];done)|(simp only[inB,h1_6,h1_10,Bool.true_and];exact Eq.symm h1_16)) (fF)
 iterate 11 refine S0 ?_ (e:=fun _ h_=>by simp only[sH,↓sP,sA,tyS,simprocAttr,aO5,bV6,h1_6];exact AX h_)
 simp only[sE,↓reduceIte,simprocAttr];exact key false _ _ _ (by first|(simp only[inB,rq0,h1_6,Bool.true_and,Bool.false_and,Bool.and_false,Bool.and_true];done)|(simp only[inB,h1_6,h1_10,Bool.true_and];exact Eq.symm h1_16)) (fF)
theorem dN (n:Int)(h: -4611686018427387904≤n∧n≤4611686018427387904):IntKind.i64.wrap n=n:=IntWalk.i64_in _ (by omega)
theorem bB3 (l:List Nd)(hn: ∀n∈l,n.q.t.length<2^63):dB Tryz.prog 64 [.slc (l.map Nd.cv)] (fun v=>v= .bool (dZ l)):=by
 refine bD Tryz.func64 rfl (by kernel_rfl) (bH _) (Nat.le_of_ble_eq_true rfl) ?_;refine aE fun K hK=>aD (by kernel_rfl) ?_;simp (maxSteps:=4000000) only[↓sP,sA,tyS,simprocAttr];repeat refine AI ?_
 refine hK _ _ _ ?_;clear hK K;refine aE fun K hK=>?_;refine aE fun K hK=>aD (by kernel_rfl) ?_;simp only[sR,simprocAttr];iterate 4
  (refine aC (g:=none) rfl rfl fun K' hK'=>?_;simp only[sH,↓sP,sA,tyS,simprocAttr];(repeat refine AI ?_);refine hK' _ _ ?_;clear hK' K')
 refine aL 9 rfl (fun h1_9=>?_) (fun h1_9=>?_)
 ·
  iterate 3
   (refine aC (g:=some (10,false)) rfl rfl fun K' hK'=>?_;simp only[sH,↓sP,sA,tyS,simprocAttr,h1_9];(repeat refine AI ?_);refine hK' _ _ ?_;clear hK' K')
  refine aC (g:=none) rfl rfl fun K' hK'=>?_;simp (maxSteps:=4000000) only[sH,↓sP,sA,tyS,simprocAttr,h1_9];repeat refine AI ?_
  refine hK' _ _ ?_;clear hK' K';simp only[sE,↓reduceIte,simprocAttr];repeat refine AI ?_
  refine hK _ _ _ ?_;clear hK K;refine aG (b:=true) rfl (fun hb=>?_) (fun hb=>?_)
  ·
   refine aE fun K hK=>aD (by kernel_rfl) ?_;simp (maxSteps:=4000000) only[↓sP,sA,tyS,simprocAttr];repeat refine AI ?_
   refine hK _ _ _ ?_;clear hK K;refine aJ ?_;simp (maxSteps:=4000000) only[aT,Tryz.results64,aR,aS,aQ,↓sP,sA,tyS,simprocAttr];exact aW [] (.bool false) rfl (by rw[tZ (.inl (by simp only[decide_eq_true_eq]at h1_9;omega))])
  cases hb
 iterate 3
  (refine aC (g:=some (10,false)) rfl rfl fun K' hK'=>?_;simp only[sH,↓sP,sA,tyS,simprocAttr,h1_9];(repeat refine AI ?_);refine hK' _ _ ?_;clear hK' K')
 refine aC (g:=none) rfl rfl fun K' hK'=>?_;simp (maxSteps:=4000000) only[sH,↓sP,sA,tyS,simprocAttr,h1_9];repeat refine AI ?_
 refine hK' _ _ ?_;clear hK' K';refine aL 13 rfl (fun h1_13=>?_) (fun h1_13=>?_)
 ·
  simp only[h1_13];simp only[sE,↓reduceIte,simprocAttr];repeat refine AI ?_
  refine hK _ _ _ ?_;clear hK K;refine aG (b:=true) rfl (fun hb=>?_) (fun hb=>?_)
  ·
   refine aE fun K hK=>aD (by kernel_rfl) ?_;simp (maxSteps:=4000000) only[↓sP,sA,tyS,simprocAttr];repeat refine AI ?_
   refine hK _ _ _ ?_;clear hK K;refine aJ ?_;simp (maxSteps:=4000000) only[aT,Tryz.results64,aR,aS,aQ,↓sP,sA,tyS,simprocAttr];exact aW [] (.bool false) rfl (by rw[tZ (.inr (by simp only[decide_eq_true_eq]at h1_13;omega))])
  cases hb
 simp only[h1_13];simp only[sE,↓reduceIte,simprocAttr];repeat refine AI ?_
 refine hK _ _ _ ?_;clear hK K;refine aG (b:=false) rfl (fun hb=>?_) (fun hb=>?_)
 · cases hb
 refine aK ?_;simp (maxSteps:=4000000) only[↓sP,sA,tyS,simprocAttr];repeat refine AI ?_
 refine hK _ _ _ ?_;clear hK K;have hl1:1≤l.length:=by simp only[decide_eq_false_iff_not]at h1_9;omega
 have hl2:l.length≤60:=by simp only[decide_eq_false_iff_not]at h1_13;omega
 clear h1_9 h1_13;refine aE fun K hK=>aD (by kernel_rfl) ?_;simp (maxSteps:=4000000) only[↓sP,sA,tyS,simprocAttr];repeat refine AI ?_
 refine hK _ _ _ ?_;clear hK K;refine aE fun K hK=>?_;refine aE fun K hK=>aD (by kernel_rfl) ?_;simp (maxSteps:=4000000) only[↓sP,sA,tyS,simprocAttr];repeat refine AI ?_
 refine hK _ _ _ ?_;clear hK K;refine aP ?_;refine bR (α:={y:Nat×Int×Int//ScSt l y.1 y.2.1 y.2.2}) (fun y=>(fin [(3,.c (.int .i64 y.1.2.1)),(4,.c (.int .i64 y.1.2.2)),(15,.c (.slc (l.map Nd.cv))),(16,.c (.int .i64 l.length)),(17,.c (.int .i64 y.1.1))],fob [])) 200 (fun y=>l.length-y.1.1) ⟨(0,1,0),ScSt.init l⟩ (aI (by omega) (by simp[aY,fin_at,finA_at,upd_at,HV.men,HV.menL,HV.norm,HV.toC,HV.toCL]) (by simp[bB,fob_at,upd_at,none0_at,bN,HO.men,HV.men,HV.menL,HV.norm,HV.toC,HV.toCL])) ?_;rintro⟨⟨i,m,v⟩,hst⟩;simp only at hst;have hi:=hst.le;have hm0:=hst.m0;have hm1:=hst.m1;have hv0:=hst.v0;have hv1:=hst.v1;refine aE fun K hK=>aD (by kernel_rfl) ?_;simp (maxSteps:=4000000) only[↓sP,sA,tyS,simprocAttr];repeat refine AI ?_
 refine hK _ _ _ ?_;clear hK K;refine aE fun K hK=>?_;refine aG (b:=decide ((i:Int)<l.length)) rfl (fun hb=>?_) (fun hb=>?_)
 ·
  have hlt:i<l.length:=by simpa using hb
  clear hb;refine aK ?_;simp (maxSteps:=4000000) only[↓sP,sA,tyS,simprocAttr];repeat refine AI ?_
  refine hK _ _ _ ?_;clear hK K;refine aE fun K hK=>?_;refine aP ?_;refine aE fun K hK=>aD (by kernel_rfl) ?_;simp only[sR,simprocAttr];iterate 4
   (refine aC (g:=none) rfl rfl fun K' hK'=>?_;simp only[sH,↓sP,sA,tyS,simprocAttr,Int.natCast_nonneg,Int.ofNat_lt,hlt,bA hlt];(repeat refine AI ?_);refine hK' _ _ ?_;clear hK' K')
  simp only[sE,↓reduceIte,simprocAttr];repeat refine AI ?_
  refine hK _ _ _ ?_;clear hK K;refine aE fun K hK=>?_;refine aE fun K hK=>aD (by kernel_rfl) ?_;simp only[sR,simprocAttr];iterate 3
   (refine aC (g:=none) rfl rfl fun K' hK'=>?_;simp only[sH,↓sP,sA,tyS,simprocAttr];(repeat refine AI ?_);refine hK' _ _ ?_;clear hK' K')
  refine aL 22 rfl (fun h7_22=>?_) (fun h7_22=>?_)
  ·
   iterate 3
    (refine aC (g:=some (23,false)) rfl rfl fun K' hK'=>?_;simp only[sH,↓sP,sA,tyS,simprocAttr,h7_22];(repeat refine AI ?_);refine hK' _ _ ?_;clear hK' K')
   refine aC (g:=none) rfl rfl fun K' hK'=>?_;simp (maxSteps:=4000000) only[sH,↓sP,sA,tyS,simprocAttr,h7_22];repeat refine AI ?_
   refine hK' _ _ ?_;clear hK' K';simp only[sE,↓reduceIte,simprocAttr];repeat refine AI ?_
   refine hK _ _ _ ?_;clear hK K;refine aG (b:=true) rfl (fun hb=>?_) (fun hb=>?_)
   ·
    refine aE fun K hK=>aD (by kernel_rfl) ?_;simp (maxSteps:=4000000) only[↓sP,sA,tyS,simprocAttr];repeat refine AI ?_
    refine hK _ _ _ ?_;clear hK K;refine aJ ?_;simp (maxSteps:=4000000) only[aT,Tryz.results64,aR,aS,aQ,↓sP,sA,tyS,simprocAttr];exact aW [] (.bool false) rfl (by rw[hst.stop hlt (.inl (by simpa using h7_22))])
   cases hb
  refine aC (g:=some (23,false)) rfl rfl fun K' hK'=>?_;simp (maxSteps:=4000000) only[sH,↓sP,sA,tyS,simprocAttr,h7_22];repeat refine AI ?_
  refine hK' _ _ ?_;clear hK' K';refine aC (g:=some (23,false)) rfl rfl fun K' hK'=>?_;simp (maxSteps:=4000000) only[sH,↓sP,sA,tyS,simprocAttr,h7_22];refine aX (args:=[_]) (bV7 l[i] (hn _ (List.getElem_mem hlt))) ⟨rfl,rfl,rfl,rfl⟩ ?_;rintro u rfl;repeat refine AI ?_
  refine hK' _ _ ?_;clear hK' K';refine aC (g:=some (23,false)) rfl rfl fun K' hK'=>?_;simp (maxSteps:=4000000) only[sH,↓sP,sA,tyS,simprocAttr,h7_22];repeat refine AI ?_
  refine hK' _ _ ?_;clear hK' K';refine aC (g:=none) rfl rfl fun K' hK'=>?_;simp (maxSteps:=4000000) only[sH,↓sP,sA,tyS,simprocAttr,h7_22];repeat refine AI ?_
  refine hK' _ _ ?_;clear hK' K';refine aL 25 rfl (fun h7_25=>?_) (fun h7_25=>?_)
  ·
   simp only[h7_25];simp only[sE,↓reduceIte,simprocAttr];repeat refine AI ?_
   refine hK _ _ _ ?_;clear hK K;refine aG (b:=false) rfl (fun hb=>?_) (fun hb=>?_)
   · cases hb
   refine aK ?_;simp (maxSteps:=4000000) only[↓sP,sA,tyS,simprocAttr];repeat refine AI ?_
   refine hK _ _ _ ?_;clear hK K;have hnb:dE l[i]=true:=by simpa using h7_25
   have hm:m≠0:=by simpa using h7_22
   obtain⟨c1,c2,c3,c4⟩:=gF hnb;have hnx:=hst.next hlt hm hnb;clear h7_22 h7_25;refine aE fun K hK=>aD (by kernel_rfl) ?_;simp only[sR,simprocAttr];iterate 6
    (refine aC (g:=none) rfl rfl fun K' hK'=>?_;simp only[sH,↓sP,sA,tyS,simprocAttr,dN (l[i].c-1) (by omega),dN (m+(l[i].c-1)) (by omega)];(repeat refine AI ?_);refine hK' _ _ ?_;clear hK' K')
   simp only[sE,↓reduceIte,simprocAttr];repeat refine AI ?_
   refine hK _ _ _ ?_;clear hK K;refine aE fun K hK=>aD (by kernel_rfl) ?_;simp (maxSteps:=4000000) only[↓sP,sA,tyS,simprocAttr];repeat refine AI ?_
   refine hK _ _ _ ?_;clear hK K;refine aG (b:=_) rfl (fun hb=>?_) (fun hb=>?_)
   ·
    refine aD (by kernel_rfl) ?_;simp (maxSteps:=4000000) only[↓sP,sA,tyS,simprocAttr,dN (v+1) (by omega)];repeat refine AI ?_
    refine hK _ _ _ ?_;clear hK K;refine aD (by kernel_rfl) ?_;simp (maxSteps:=4000000) only[↓sP,sA,tyS,simprocAttr,dN ((i:Int)+1) (by omega)];rw[if_pos (by simpa using hb)]at hnx;refine⟨⟨(i+1,_,_),hnx⟩,aI (by omega) (by simp[aY,fin_at,finA_at,upd_at,HV.men,HV.menL,HV.norm,HV.toC,HV.toCL]) (by simp[bB,fob_at,upd_at,none0_at,bN,HO.men,HV.men,HV.menL,HV.norm,HV.toC,HV.toCL]),?_⟩;show l.length-(i+1)<l.length-i;omega
   refine aK ?_;simp (maxSteps:=4000000) only[↓sP,sA,tyS,simprocAttr];repeat refine AI ?_
   refine hK _ _ _ ?_;clear hK K;refine aD (by kernel_rfl) ?_;simp (maxSteps:=4000000) only[↓sP,sA,tyS,simprocAttr,dN ((i:Int)+1) (by omega)];rw[if_neg (by simpa using hb)]at hnx;refine⟨⟨(i+1,_,_),hnx⟩,aI (by omega) (by simp[aY,fin_at,finA_at,upd_at,HV.men,HV.menL,HV.norm,HV.toC,HV.toCL]) (by simp[bB,fob_at,upd_at,none0_at,bN,HO.men,HV.men,HV.menL,HV.norm,HV.toC,HV.toCL]),?_⟩;show l.length-(i+1)<l.length-i;omega
  simp only[h7_25];simp only[sE,↓reduceIte,simprocAttr];repeat refine AI ?_
  refine hK _ _ _ ?_;clear hK K;refine aG (b:=true) rfl (fun hb=>?_) (fun hb=>?_)
  ·
   refine aE fun K hK=>aD (by kernel_rfl) ?_;simp (maxSteps:=4000000) only[↓sP,sA,tyS,simprocAttr];repeat refine AI ?_
   refine hK _ _ _ ?_;clear hK K;refine aJ ?_;simp (maxSteps:=4000000) only[aT,Tryz.results64,aR,aS,aQ,↓sP,sA,tyS,simprocAttr];exact aW [] (.bool false) rfl (by rw[hst.stop hlt (.inr (by simpa using h7_25))])
  cases hb
 refine bK ?_;simp (maxSteps:=4000000) only[↓sP,sA,tyS,simprocAttr];clear hK K;repeat refine AI ?_
 refine hK _ _ _ ?_;clear hK K;have hei:i=l.length:=by simp only[decide_eq_false_iff_not]at hb;omega
 subst hei;have hf:=hst.fin hl1 hl2;clear hb;refine aE fun K hK=>aD (by kernel_rfl) ?_;simp only[sR,simprocAttr];iterate 3
  (refine aC (g:=none) rfl rfl fun K' hK'=>?_;simp only[sH,↓sP,sA,tyS,simprocAttr];(repeat refine AI ?_);refine hK' _ _ ?_;clear hK' K')
 refine aL 40 rfl (fun h13_40=>?_) (fun h13_40=>?_)
 ·
  iterate 2
   (refine aC (g:=some (41,true)) rfl rfl fun K' hK'=>?_;simp only[sH,↓sP,sA,tyS,simprocAttr,h13_40];(repeat refine AI ?_);refine hK' _ _ ?_;clear hK' K')
  iterate 2
   (refine aC (g:=none) rfl rfl fun K' hK'=>?_;simp only[sH,↓sP,sA,tyS,simprocAttr,h13_40];(repeat refine AI ?_);refine hK' _ _ ?_;clear hK' K')
  simp only[sE,↓reduceIte,simprocAttr];repeat refine AI ?_
  refine hK _ _ _ ?_;clear hK K;refine aJ ?_;simp (maxSteps:=4000000) only[aT,Tryz.results64,aR,aS,aQ,↓sP,sA,tyS,simprocAttr];exact aW [] (.bool _) rfl (by rw[hf,h13_40,Bool.true_and])
 iterate 2
  (refine aC (g:=some (41,true)) rfl rfl fun K' hK'=>?_;simp only[sH,↓sP,sA,tyS,simprocAttr,h13_40];(repeat refine AI ?_);refine hK' _ _ ?_;clear hK' K')
 iterate 2
  (refine aC (g:=none) rfl rfl fun K' hK'=>?_;simp only[sH,↓sP,sA,tyS,simprocAttr,h13_40];(repeat refine AI ?_);refine hK' _ _ ?_;clear hK' K')
 simp only[sE,↓reduceIte,simprocAttr];repeat refine AI ?_
 refine hK _ _ _ ?_;clear hK K;refine aJ ?_;simp (maxSteps:=4000000) only[aT,Tryz.results64,aR,aS,aQ,↓sP,sA,tyS,simprocAttr];exact aW [] (.bool false) rfl (by rw[hf,h13_40,Bool.false_and])
end Go.Proofs.YthedbjfipmkpiaaGreatDoor
