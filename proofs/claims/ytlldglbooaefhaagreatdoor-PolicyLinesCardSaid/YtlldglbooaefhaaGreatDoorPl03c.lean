/- Plain Lean: bytes that are compared as numbers; what a search for a byte says. By an AI agent. -/
import Derived.Test.YtlldglbooaefhaaGreatDoorPl11w
import Derived.Test.YtlldglbooaefhaaGreatDoorHzU1
import Derived.Test.YtlldglbooaefhaaGreatDoorHlZb
import Derived.Test.YtlldglbooaefhaaGreatDoorHlTlaw
import Derived.Sort.Grow
import Derived.Sort.EncStr
set_option linter.unusedSimpArgs false
set_option linter.unusedVariables false
set_option linter.defProp false
namespace Go.Pl
open Go Go.Hl
def wd (l:List aF)(i:Nat):aF:=l.getD i []
theorem cF {l:List aF}{i:Nat}(h:i<l.length):nth (l.map CV.str) i= .str (wd l i):=by
 rw[bR h,wd,List.getD_eq_getElem?_getD,List.getElem?_eq_getElem h];rfl
def bS5 (l:List aF)(x:Rt):Option Rt:=
 if l.length=3 then match bL (wd l 2)with|some n=>some {x with q:=x.q++[⟨wd l 1,n⟩]}|none=>none else none
def cP5 (l:List aF)(x:Rt):Option Rt:=
 if l.length<6 then none else match bL (wd l 1),cP4 (wd l 2),bL (wd l 4),bL (wd l 5)with
  |some h,some r,some a,some b=>some {x with k:=x.k++[⟨⟨h,r⟩,wd l 3,l.drop 6,a,b⟩]}
  |_,_,_,_=>none
def cP6 (l:List aF)(x:Rt):Option Rt:=
 if l.length=3 then match cT1 (wd l 1),bL (wd l 2)with|some d,some t=>some {x with x:=x.x++[⟨d,t⟩]}|_,_=>none else none
end Go.Pl
namespace Go.Hl
open Go Go.RowKit Go.Sort Go.Proofs
end Go.Hl
namespace Go.Pl
open Go Go.Hl
def rMid (r:Rt):Prop:=(r.q.length≤12∧ ∀q∈r.q,q.r.length≤300)∧(r.k.length≤32∧ ∀k∈r.k,k.o.length≤300∧k.rs.length≤30∧ ∀w∈k.rs,w.length≤300)∧r.x.length≤65
theorem rMid.sz {r:Rt}(h:rMid r):rSz r:=by
 obtain⟨⟨h1,h2⟩,⟨h3,h4⟩,h5⟩:=h;refine⟨⟨by omega,fun q hq=>by have:=h2 q hq;omega⟩,⟨by omega,fun k hk=>?_⟩,by omega⟩;obtain⟨k1,k2,k3⟩:=h4 k hk;exact⟨by omega,by omega,fun w hw=>by have:=k3 w hw;omega⟩
def aX3 (j:Nat):aF:=([[113,117,111,116,97],[107,101,121],[114,101,118,111,107,101,100]]:List aF).getD j []
def bJ3 (j:Nat)(l:List aF)(x:Rt):Option Rt:=if j=0 then bS5 l x else if j=1 then cP5 l x else cP6 l x
def aP8 (j:Nat):List (List aF)→Rt→Option (List (List aF)×Rt)
 |[],x=>some ([],x)
 |l::ls,x=>if wd l 0=aX3 j then match bJ3 j l x with|some y=>aP8 j ls y|none=>none else some (l::ls,x)
def tN :Nat→Nat→List (List aF)→Rt→Option (List (List aF)×Rt)
 |0,_,ls,x=>some (ls,x)
 |n+1,j,ls,x=>match aP8 j ls x with|some (ls',y)=>tN n (j+1) ls' y|none=>none
section
variable {l0:List aF}{ls:List (List aF)}{x:Rt}
end
variable {x:Rt}{ls:List (List aF)}{j:Nat}
theorem bS6 {l:List aF}{y:Rt}(h:wd l 0=aX3 j)(hy:bJ3 j l x=some y):aP8 j (l::ls) x=aP8 j ls y:=by
 rw[aP8,if_pos h,hy]
theorem bJ4 {l:List aF}(h:wd l 0≠aX3 j):aP8 j (l::ls) x=some (l::ls,x):=by
 rw[aP8,if_neg h]
variable {n:Nat}
theorem bS7 {l:List aF}{y:Rt}(h:wd l 0=aX3 j)(hy:bJ3 j l x=some y):tN (n+1) j (l::ls) x=tN (n+1) j ls y:=by grind[tN,bS6]
theorem bJ5 {l:List aF}(h:wd l 0≠aX3 j):tN (n+1) j (l::ls) x=tN n (j+1) (l::ls) x:=by
 simp only[tN,bJ4 h]
theorem bS8 :tN (n+1) j [] x=tN n (j+1) [] x:=by
 simp only[tN,aP8]
def wOk (l:List aF):Prop:=l≠[]∧l.length≤120∧ ∀w∈l,w.length≤32768
theorem wOk.wd {l:List aF}(h:wOk l)(i:Nat):(wd l i).length≤32768:=by
 unfold Pl.wd;rw[List.getD_eq_getElem?_getD];rcases Nat.lt_or_ge i l.length with h'|h'
 · rw[List.getElem?_eq_getElem h'];exact h.2.2 _ (List.getElem_mem h')
 grind
def rRead (m:Nat)(x:Rt):Prop:=x.q.length+x.k.length+x.x.length≤m∧(∀q∈x.q,q.r.length≤32768)∧ ∀k∈x.k,k.o.length≤32768∧k.rs.length≤120∧ ∀w∈k.rs,w.length≤32768
variable {m:Nat}
theorem bJ6 {l:List aF}{y:Rt}(hl:wOk l)(h:bJ3 j l x=some y)(hx:rRead m x):rRead (m+1) y:=by
 obtain⟨h1,h2,h3⟩:=hx;unfold bJ3 at h;split at h
 ·
  unfold bS5 at h;split at h
  ·
   split at h
   ·
    cases h;refine⟨by grind,fun q hq=>?_,h3⟩;rcases List.mem_append.1 hq with hq|hq
    · grind
    · simp only[List.mem_singleton]at hq;subst hq;exact hl.wd 1
   grind
  grind
 ·
  split at h
  ·
   unfold cP5 at h;split at h
   · cases h
   ·
    split at h
    ·
     cases h;refine⟨by grind,h2,fun k hk=>?_⟩;rcases List.mem_append.1 hk with hk|hk
     · exact h3 k hk
     · simp only[List.mem_singleton]at hk;subst hk;exact⟨hl.wd 3,by show(l.drop 6).length≤120;rw[List.length_drop];have:=hl.2.1;omega,fun w hw=>hl.2.2 w (List.mem_of_mem_drop hw)⟩
    grind
  ·
   unfold cP6 at h;split at h
   ·
    split at h
    · cases h;exact⟨by grind,h2,h3⟩
    grind
   grind
theorem rRead.sz (h:rRead m x)(hm:m≤100000):rSz x:=by
 obtain⟨h1,h2,h3⟩:=h;refine⟨⟨by omega,fun q hq=>by grind⟩,⟨by omega,fun k hk=>?_⟩,by omega⟩;obtain⟨k1,k2,k3⟩:=h3 k hk;exact⟨by omega,by omega,fun w hw=>by grind⟩
def RtSt (ls0:List (List aF))(x0:Rt)(j:Nat)(rest:List (List aF))(x:Rt):Prop:=
 j≤3∧tN 3 0 ls0 x0=tN (3-j) j rest x∧(∀l∈rest,wOk l)∧rest.length≤ls0.length∧rRead (ls0.length-rest.length) x
section
variable {ls0 rest:List (List aF)}{x0 x:Rt}{j:Nat}{l:List aF}
theorem RtSt.init (h: ∀l∈ls0,wOk l)(hx:rRead 0 x0):RtSt ls0 x0 0 ls0 x0:=⟨by omega,rfl,h,Nat.le_refl _,by grind⟩
theorem RtSt.hit {y:Rt}(h:RtSt ls0 x0 j (l::rest) x)(hj:j<3)(hw:wd l 0=aX3 j)(hy:bJ3 j l x=some y):RtSt ls0 x0 j rest y:=by
 obtain⟨h1,h2,h3,h4,h5⟩:=h;obtain⟨n,hn⟩: ∃n,3-j=n+1:=⟨2-j,by omega⟩;simp only[List.length_cons]at h4 h5;refine⟨h1,by rw[h2,hn,bS7 hw hy],fun l hl=>h3 l (List.mem_cons_of_mem _ hl),by omega,?_⟩;have:=bJ6 (h3 l List.mem_cons_self) hy h5;grind
theorem RtSt.next (h:RtSt ls0 x0 j rest x)(hj:j<3)(hw: ∀l ls,rest=l::ls→wd l 0≠aX3 j):RtSt ls0 x0 (j+1) rest x:=by
 obtain⟨h1,h2,h3,h4,h5⟩:=h;obtain⟨n,hn⟩: ∃n,3-j=n+1:=⟨2-j,by omega⟩;have hn2:3-(j+1)=n:=by omega
 refine⟨by omega,?_,h3,h4,h5⟩;rw[h2,hn,hn2];cases rest with
 |nil=>exact bS8
 |cons l ls=>exact bJ5 (hw l ls rfl)
theorem RtSt.fin (h:RtSt ls0 x0 3 rest x):tN 3 0 ls0 x0=some (rest,x):=by rw[h.2.1];rfl
end
variable {b:aF}
theorem aG9 : ∀l∈decO b,wOk l:=by
 intro l hl;unfold decO at hl;split at hl
 ·
  cases hv:gG b with
  |none=>grind
  |some ls=>
   rw[hv]at hl;simp only[Option.getD_some]at hl;unfold gG at hv;split at hv
   · grind
   ·
    split at hv
    ·
     have key: ∀{rs:List aF} {ls:List (List aF)},rs.mapM unR=some ls→ ∀l∈ls,okL l=true:=by
      intro rs;induction rs with
      |nil=>grind
      |cons r rs ih=>
       intro ls h l hl;rw[List.mapM_cons]at h;cases hr:unR r with
       |none=>grind
       |some a=>
        rw[hr]at h;cases hm:rs.mapM unR with
        |none=>grind
        |some m=>
         rw[hm]at h;cases h;rcases List.mem_cons.1 hl with rfl|hl
         ·
          unfold unR at hr;split at hr
          ·
           split at hr
           · rename_i hk;cases hr;exact hk
           · cases hr
          · cases hr
         · exact ih hm l hl
     exact(kQ l).1 (key hv l hl)
    grind
 grind
theorem aP9 :(decO b).length≤1000:=by
 unfold decO;split
 · grind[eL,gG]
 · simp
theorem iW :vB=1099511627776:=rfl
theorem xO : ∀(a b:aF) (n m:Nat),dY a n=some m→dY (a++b) n=dY b m
 |[],b,n,m,h=>by simp only[dY,Option.some.injEq]at h;subst h;rfl
 |c::a,b,n,m,h=>by
  simp only[List.cons_append,dY]at h⊢;split at h
  · rename_i hc;rw[if_pos hc];exact xO a b _ _ h
  · cases h
variable {k:Nat}
theorem bD0 (h:k<10):jK (UInt8.ofNat (48+k))=true∧(UInt8.ofNat (48+k)).toNat-48=k:=by
 have e:(UInt8.ofNat (48+k)).toNat=48+k:=by simp;omega
 rw[jK,e];exact⟨by simp;omega,by omega⟩
theorem aX4 (u:Nat):dY (Lib.decDigits u) 0=some u:=by
 induction u using Nat.strongRecOn with
 |ind u ih=>
  rw[Lib.decDigits];split
  · rename_i h;obtain⟨h1,h2⟩:=bD0 h;simp only[dY,h1,if_true,h2];simp
  · rw[xO _ _ 0 (u/10) (ih _ (by omega))];obtain⟨h1,h2⟩:=bD0 (k:=u%10) (by omega);simp only[dY,h1,if_true,h2];congr 1;omega
theorem bD1 : ∀(k u:Nat),u<10^(k+1)→(Lib.decDigits u).length≤k+1
 |0,u,h=>by rw[Lib.decDigits,dif_pos (by omega)];simp
 |k+1,u,h=>by
  rw[Lib.decDigits];split
  · simp
  · have:=bD1 k (u/10) (by rw[Nat.pow_succ]at h;omega);simp only[List.length_append,List.length_singleton];omega
theorem bS9 {u:Nat}(h:1≤u): ∃c l,Lib.decDigits u=c::l∧c≠48:=by
 induction u using Nat.strongRecOn with
 |ind u ih=>
  rw[Lib.decDigits];split
  · rename_i hu;refine⟨_,_,rfl,fun hc=>?_⟩;have:=congrArg UInt8.toNat hc;simp at this;omega
  · obtain⟨c,l,h1,h2⟩:=ih (u/10) (by omega) (by omega);exact⟨c,l++[UInt8.ofNat (48+u%10)],by rw[h1];rfl,h2⟩
theorem lQ {n:Int}(h0:0≤n)(h1:n≤1099511627776):bL (numW n)=some n:=by
 rw[aP7 h0];have hd:=aX4 n.natAbs;have hl:=bD1 12 n.natAbs (by omega);have hb:fD (Lib.decDigits n.natAbs)=false:=by
  unfold fD;by_cases hz:n.natAbs=0
  · rw[hz,Lib.decDigits_one (by omega)];simp
  ·
   obtain⟨c,l,h2,h3⟩:=bS9 (u:=n.natAbs) (by omega);rw[h2]at hl⊢;have e:((c::l).getD 0 0==(48:UInt8))=false:=by simpa using h3
   rw[e,Bool.and_false,Bool.or_false,Bool.or_eq_false_iff];exact⟨by simp,decide_eq_false (by omega)⟩
 rw[aG5 hb hd (by omega)];congr 1;omega
theorem cD0 (h:iB ls=0):eL (mG ls)=0∧decO (mG ls)=ls:=by
 rw[vL h];unfold iB at h;split at h
 · cases h
 ·
  rename_i h1;split at h
  · rename_i l hl;have:=List.find?_some hl;simp only[Bool.not_eq_true']at this;exact absurd h (bB5 this)
  ·
   rename_i hn;split at h
   · cases h
   ·
    rename_i h2;have hok: ∀l∈ls,okL l=true:=fun l hl=>by
     have:=List.find?_eq_none.1 hn l hl;simpa using this
    have hv:=bJ0 hok;have hE:eL (fY ls)=0:=by unfold eL;rw[if_neg h2,hv];simp only;rw[if_neg h1]
    exact⟨hE,by unfold decO;rw[if_pos hE,hv];rfl⟩
def jE (r:Pr):Bool:=dU r.a&&((fL r.b).isSome&&((fL r.c).isSome&&(inB r.g 0 vB&&dV r.t)))
def gV :List Pr→Bool
 |[]=>true
 |r::l=>!(l.map Pr.a).contains r.a&&gV l
def eY (p:Po):Bool:=dU p.n&&(inB p.v 1 vB&&(decide (p.r.length≤16)&&(p.r.all jE&&gV p.r)))
theorem nZ (l:List Pr)(r:Pr):gV (l++[r])=(gV l&&!(l.map Pr.a).contains r.a):=by
 induction l with
 |nil=>simp[gV]
 |cons x l ih=>
  simp only[List.cons_append,gV,ih,List.map_append,List.map_cons,List.map_nil,List.contains_append,List.contains_cons,List.contains_nil,Bool.or_false];rw[show(x.a==r.a)=(r.a==x.a)from Bool.beq_comm];grind
def bM :aF:=[114,101,108,101,97,115,101,100]
def bJ :aF:=[99,104,97,105,110,101,100]
def bO :aF:=[97,112,112,114,111,118,101,100]
def bT :aF:=[114,101,98,117,105,108,116]
def cC :aF:=[108,105,115,116,101,100]
def cO :aF:=[99,108,101,97,110]
def cR :aF:=[102,114,101,115,104]
def cA :aF:=[115,101,116,116,108,101,100]
def eZ :aF:=[97,108,108]
def fA :aF:=[97,110,121]
def bQ :aF:=[97,116,108,101,97,115,116]
def wEnd :aF:=[101,110,100]
def wPolicy :aF:=[112,111,108,105,99,121]
def wRule :aF:=[114,117,108,101]
def wlR (q:Rq):List aF:=
 if q.k=1 then [bM,numW q.n]else if q.k=2 then [bJ,q.t]else if q.k=3 then [bO,numW q.n]
 else if q.k=4 then [bT,numW q.n,numW q.m]else if q.k=5 then [cC,numW q.n]else if q.k=6 then [cO,numW q.n]
 else if q.k=7 then [cR,numW q.n]else [cA]
def wlN (n:Nd):List aF:=if n.k=2 then [eZ]else if n.k=3 then [fA]else [bQ,numW n.n]
def eP :Nat→Nat→List Nd→List (List aF)
 |0,_,_=>[]
 |_+1,0,_=>[]
 |_+1,_+1,[]=>[]
 |f+1,m+1,n::l=>if n.k=1 then wlR n.q::eP f m l else wlN n::(eP f n.c.toNat l++([wEnd]::eP f m ((skip n.c.toNat l).getD [])))
variable {l:List Nd}
theorem rV {r:List Nd}(h:skip m l=some r):r.length≤l.length:=by
 obtain⟨j,h1,rfl,_,_⟩:=iM l m r h;grind
theorem gD : ∀(f:Nat) (m:Nat) (l r:List Nd),l.length<f→skip m l=some r→(∀n∈l,cJ n=true)→ ∀g,f≤g→eP g m l=eP f m l
 |0,_,_,_,h,_,_,_,_=>by omega
 |f+1,0,l,r,_,_,_,g,hg=>by obtain⟨q,rfl⟩: ∃q,g=q+1:=⟨g-1,by omega⟩;cases l<;>rfl
 |f+1,m+1,[],r,_,h,_,_,_=>by cases h
 |f+1,m+1,n::l,r,hf,h,hn,g,hg=>by
  obtain⟨q,rfl⟩: ∃q,g=q+1:=⟨g-1,by omega⟩;have h':skip (m+n.c.toNat) l=some r:=h;have hn': ∀x∈l,cJ x=true:=fun x hx=>hn x (List.mem_cons_of_mem _ hx);have hl:l.length<f:=by simpa using hf
  obtain⟨c1,c2,c3,c4⟩:=eN (hn n List.mem_cons_self);simp only[eP];split
  · rename_i hk;rw[c3 hk]at h';rw[gD f m l r hl (by grind) hn' q (by omega)]
  ·
   rw[Nat.add_comm,fX]at h';cases hs:skip n.c.toNat l with
   |none=>grind
   |some r1=>
    rw[hs]at h';have h2:skip m r1=some r:=h';have hr1:=rV hs;obtain⟨j,_,hj,_,_⟩:=iM l _ _ hs;rw[gD f _ l r1 hl hs hn' q (by omega),Option.getD_some,gD f m r1 r (by omega) h2 (fun x hx=>hn' x (by grind)) q (by omega)]
theorem oA : ∀(f:Nat) (a b:Nat) (l r:List Nd),l.length<f→skip a l=some r→(∀n∈l,cJ n=true)→ ∀s,skip b r=some s→eP f (a+b) l=eP f a l++eP f b r
 |0,_,_,_,_,h,_,_,_,_=>by omega
 |f+1,0,b,l,r,_,h,_,_,_=>by simp_all[dH,Nat.zero_add,eP]
 |f+1,a+1,b,[],r,_,h,_,_,_=>by cases h
 |f+1,a+1,b,n::l,r,hf,h,hn,s,hs=>by
  have h':skip (a+n.c.toNat) l=some r:=h;have hn': ∀x∈l,cJ x=true:=fun x hx=>hn x (List.mem_cons_of_mem _ hx);have hl:l.length<f:=by simpa using hf
  obtain⟨c1,c2,c3,c4⟩:=eN (hn n List.mem_cons_self);have hrl:=rV h';have hrn: ∀x∈r,cJ x=true:=fun x hx=>by grind[iM,List.mem_of_mem_drop]
  have hfb:eP (f+1) b r=eP f b r:=gD f b r s (by omega) hs hrn (f+1) (by omega);rw[show a+1+b=a+b+1 from by omega,hfb];simp only[eP];split
  · rename_i hk;rw[c3 hk]at h';rw[oA f a b l r hl (by grind) hn' s hs];rfl
  ·
   rw[Nat.add_comm,fX]at h';cases hs1:skip n.c.toNat l with
   |none=>grind
   |some r1=>
    rw[hs1]at h';have h2:skip a r1=some r:=h';have hr1:=rV hs1;obtain⟨j,_,hj,_,_⟩:=iM l _ _ hs1;rw[Option.getD_some,oA f a b r1 r (by omega) h2 (fun x hx=>hn' x (by rw[hj]at hx;exact List.mem_of_mem_drop hx)) s hs];simp
def aX5 (t:List Nd):List (List aF):=eP (t.length+1) 1 t
def kG (r:Pr):List (List aF):=[wRule,r.a,r.b,r.c,numW r.g]::aX5 r.t
def qB (p:Po):List (List aF):=[wPolicy,p.n,numW p.v]::p.r.flatMap kG
def tO (p:Po):aF:=if eY p then mG (qB p)else []
def yU (p:Po):Int:=if eY p then iB (qB p)else 1
def kH (l:List Nd)(i:Nat):List (List aF):=eP (l.length+1) 1 (l.drop i)
variable {i:Nat}
theorem xP (hi:i<l.length)(hk:l[i].k=1):kH l i=[wlR l[i].q]:=by
 unfold kH;rw[List.drop_eq_getElem_cons hi,eP,if_pos hk];cases l.length<;>simp[eP]
def eW (l:List Nd)(i k:Nat):List (List aF):=eP (l.length+1) k (l.drop (i+1))
theorem mQ (l:List Nd)(i:Nat):eW l i 0=[]:=by unfold eW;cases l.drop (i+1)<;>rfl
theorem uQ (ht:IsTree l)(hi:i<l.length)(hk:l[i].k≠1):kH l i=wlN l[i]::(eW l i l[i].c.toNat++[[wEnd]]):=by
 have ha:=(lF ht hi).2.2;rw[List.drop_eq_getElem_cons hi]at ha;have ha':skip (0+l[i].c.toNat) (l.drop (i+1))=some (l.drop (aft l i)):=ha;rw[Nat.zero_add]at ha';have hn': ∀x∈l.drop (i+1),cJ x=true:=fun x hx=>ht.node x (List.mem_of_mem_drop hx);unfold kH eW;rw[List.drop_eq_getElem_cons hi];simp only[eP];rw[if_neg hk,ha',gD l.length _ _ _ (by grind) ha' hn' (l.length+1) (by omega)];have: ∀f (x:List Nd),eP f 0 x=[]:=fun f x=>by cases f<;>cases x<;>rfl
 grind
theorem rW (ht:IsTree l)(hi:i<l.length)(hk:k<l[i].c.toNat):eW l i (k+1)=eW l i k++kH l (eV l k (i+1)):=by
 have key: ∀k,k≤l[i].c.toNat→skip k (l.drop (i+1))=some (l.drop (eV l k (i+1))):=by
  intro k;induction k with
  |zero=>intro _;rw[dH];rfl
  |succ k ih=>
   grind[fX,gU,lF,nV]
 unfold eW kH;exact oA _ k 1 _ _ (by grind) (key k (by omega)) (fun x hx=>ht.node x (List.mem_of_mem_drop hx)) _ (lF ht (nV ht hi hk)).2.2
def dD (w:List aF):Option Rq:=
 if w.length=2∧wd w 0=bM then(bL (wd w 1)).map (⟨1,·,0,[]⟩)
 else if w.length=2∧wd w 0=bJ then some ⟨2,0,0,wd w 1⟩
 else if w.length=2∧wd w 0=bO then(bL (wd w 1)).map (⟨3,·,0,[]⟩)
 else if w.length=3∧wd w 0=bT then match bL (wd w 1),bL (wd w 2)with|some n,some m=>some ⟨4,n,m,[]⟩|_,_=>none
 else if w.length=2∧wd w 0=cC then(bL (wd w 1)).map (⟨5,·,0,[]⟩)
 else if w.length=2∧wd w 0=cO then(bL (wd w 1)).map (⟨6,·,0,[]⟩)
 else if w.length=2∧wd w 0=cR then(bL (wd w 1)).map (⟨7,·,0,[]⟩)
 else if w.length=1∧wd w 0=cA then some ⟨8,0,0,[]⟩else none
def dZ (w:List aF):Option Nd:=
 if w.length=1∧wd w 0=eZ then some ⟨2,0,0,rq0⟩else if w.length=1∧wd w 0=fA then some ⟨3,0,0,rq0⟩
 else if w.length=2∧wd w 0=bQ then(bL (wd w 1)).map (⟨4,·,0,rq0⟩)else none
def eM (w:List aF):Bool:=w.length==1&&wd w 0==wEnd
mutual
def rdN :Nat→List (List aF)→Option (List Nd)×List (List aF)
 |0,ls=>(none,ls)
 |_+1,[]=>(none,[])
 |f+1,w::r=>match dD w with
  |some q=>(some [⟨1,0,0,q⟩],r)
  |none=>match dZ w with
   |none=>(none,w::r)
   |some n=>match rdK f r with
    |(none,r')=>(none,r')
    |(some (ts,c),r')=>(some ({n with c:=c}::ts),r')
def rdK :Nat→List (List aF)→Option (List Nd×Int)×List (List aF)
 |0,ls=>(none,ls)
 |f+1,ls=>if eM (ls.headD [])then(some ([],0),ls.tail)else match rdN f ls with
  |(none,r)=>(none,r)
  |(some t,r)=>match rdK f r with
   |(none,r')=>(none,r')
   |(some (ts,c),r')=>(some (t++ts,c+1),r')
end
def rdT (ls:List (List aF)):Option (List Nd)×List (List aF):=rdN (2*ls.length+2) ls
def rdR (ls:List (List aF)):Option Pr×List (List aF):=match ls with
 |[]=>(none,[])
 |w::r=>if w.length=5∧wd w 0=wRule then match bL (wd w 4)with
   |none=>(none,w::r)
   |some g=>match rdT r with|(none,r')=>(none,r')|(some t,r')=>(some ⟨wd w 1,wd w 2,wd w 3,g,t⟩,r')
  else(none,w::r)
def jM :Nat→List (List aF)→List Pr→Option (List Pr)×List (List aF)
 |0,ls,_=>(none,ls)
 |f+1,ls,a=>if ls=[]then(some a,[])else match rdR ls with
  |(none,r)=>(none,r)
  |(some x,r)=>jM f r (a++[x])
def rdP (ls:List (List aF)):Option Po×List (List aF):=match ls with
 |[]=>(none,[])
 |w::r=>if w.length=3∧wd w 0=wPolicy then match bL (wd w 2)with
   |none=>(none,w::r)
   |some v=>match jM (r.length+1) r []with|(none,r')=>(none,r')|(some l,r')=>(some ⟨wd w 1,v,l⟩,r')
  else(none,w::r)
def dpE (b:aF):Int:=if eL b≠0 then eL b else match(rdP (decO b)).1 with|none=>2|some p=>if eY p then 0 else 1
def dpL (b:aF):Nat:=if eL b≠0 then 0 else match rdP (decO b)with|(none,r)=>(decO b).length-r.length|(some _,_)=>0
def po0 :Po:=⟨[],0,[]⟩
def dpO (b:aF):Po:=if dpE b=0 then((rdP (decO b)).1).getD po0 else po0
theorem uR : ∀(a:aF) (c:UInt8) (n k:Nat),dY (a++[c]) n=some k→ ∃k',dY a n=some k'∧jK c=true∧k=10*k'+(c.toNat-48)
 |[],c,n,k,h=>by
  simp only[List.nil_append,dY]at h;split at h
  · rename_i hc;cases h;exact⟨n,rfl,hc,rfl⟩
  · cases h
 |b::a,c,n,k,h=>by
  simp only[List.cons_append,dY]at h⊢;split at h
  · rename_i hb;rw[if_pos hb];exact uR a c _ k h
  · cases h
theorem bD2 : ∀(m:Nat) (s:aF) (k:Nat),s.length≤m→s≠[]→(1<s.length→s.head? ≠some 48)→dY s 0=some k→Lib.decDigits k=s
 |0,s,_,hm,h0,_,_=>absurd (List.eq_nil_of_length_eq_zero (by omega)) h0
 |m+1,s,k,hm,h0,h1,h=>by
  obtain⟨a,c,rfl⟩: ∃a c,s=a++[c]:=⟨s.dropLast,s.getLast h0,(List.dropLast_concat_getLast h0).symm⟩;obtain⟨k',hk',hc,rfl⟩:=uR a c 0 k h;simp only[jK,Bool.and_eq_true,decide_eq_true_eq]at hc;have hcc:UInt8.ofNat (48+(c.toNat-48))=c:=by
   refine UInt8.toNat_inj.1 ?_;rw[UInt8.toNat_ofNat'];omega
  by_cases ha:a=[]
  · subst ha;simp only[dY,Option.some.injEq]at hk';subst hk';rw[Lib.decDigits_one (by omega)];grind
  ·
   have hlen:1<(a++[c]).length:=by
    have:=List.length_pos_iff.2 ha;simp;omega
   have hh:(a++[c]).head? =a.head? :=by
    cases a with
    |nil=>grind
    |cons x a=>rfl
   have ih:=bD2 m a k' (by grind) ha (fun _=>by grind) hk';have hk0:k'≠0:=by
    rintro rfl;rw[Lib.decDigits_one (by omega)]at ih;have:=h1 hlen;rw[hh,←ih]at this;exact this rfl
   rw[Lib.decDigits,dif_neg (by omega),show(10*k'+(c.toNat-48))/10=k' from by omega,ih,show 48+(10*k'+(c.toNat-48))%10=48+(c.toNat-48)from by omega,hcc]
theorem lR {s:aF}{n:Int}(h:bL s=some n):numW n=s:=by
 have hr:=kF h;unfold bL at h;split at h
 · cases h
 ·
  rename_i hb;have hb':fD s=false:=by simpa using hb
  simp only[fD,Bool.or_eq_false_iff,decide_eq_false_iff_not,Bool.and_eq_false_iff,beq_eq_false_iff_ne]at hb';split at h
  ·
   rename_i k hk;split at h
   · cases h
   · cases h;rw[aP7 hr.1];refine bD2 s.length s _ (Nat.le_refl _) (fun e=>by grind) (fun hl=>?_) (by grind);grind[List.head?_eq_getElem?]
  grind
variable {w:List aF}
theorem cD1 (h:w.length=1):w=[wd w 0]:=by
 match w,h with
 |[a],_=>rfl
theorem cK3 (h:w.length=2):w=[wd w 0,wd w 1]:=by
 match w,h with
 |[a,b],_=>rfl
theorem cP7 (h:w.length=3):w=[wd w 0,wd w 1,wd w 2]:=by
 match w,h with
 |[a,b,c],_=>rfl
theorem cT2 (h:w.length=5):w=[wd w 0,wd w 1,wd w 2,wd w 3,wd w 4]:=by
 match w,h with
 |[a,b,c,d,e],_=>rfl
variable {q:Rq}
theorem bT0 (h:dD w=some q):wlR q=w:=by
 have num: ∀{k:Int} {nm:aF},(∀n:Int,wlR ⟨k,n,0,[]⟩=[nm,numW n])→w.length=2∧wd w 0=nm→(bL (wd w 1)).map (⟨k,·,0,[]⟩)=some q→wlR q=w:=by
  intro k nm h1 h2 h3;cases hv:bL (wd w 1)with
  |none=>grind
  |some n=>
   grind[lR,cK3]
 unfold dD at h;split at h
 · rename_i h1;exact num (fun n=>rfl) h1 h
 split at h
 · rename_i h1;cases h;rw[cK3 h1.1,h1.2];rfl
 split at h
 · rename_i h1;exact num (fun n=>rfl) h1 h
 split at h
 ·
  rename_i h1;split at h
  · rename_i n m hn hm;cases h;show [bT,numW n,numW m]=w;grind[lR,cP7]
  grind
 split at h
 · rename_i h1;exact num (fun n=>rfl) h1 h
 split at h
 · rename_i h1;exact num (fun n=>rfl) h1 h
 split at h
 · rename_i h1;exact num (fun n=>rfl) h1 h
 split at h
 · rename_i h1;cases h;rw[cD1 h1.1,h1.2];rfl
 grind
theorem aQ0 {n:Nd}(h:dZ w=some n)(c:Int):wlN {n with c:=c}=w∧n.k≠1:=by
 unfold dZ at h;split at h
 · rename_i h1;cases h;exact⟨by rw[cD1 h1.1,h1.2];rfl,by decide⟩
 split at h
 · rename_i h1;cases h;exact⟨by rw[cD1 h1.1,h1.2];rfl,by decide⟩
 split at h
 ·
  rename_i h1;cases hv:bL (wd w 1)with
  |none=>grind
  |some m=>
   rw[hv]at h;cases h;refine⟨?_,by grind⟩;show [bQ,numW m]=w;grind[lR,cK3]
 grind
theorem kV : ∀(t x r:List Nd) (m:Nat),skip m t=some r→skip m (t++x)=some (r++x)
 |t,x,r,0,h=>by grind[dH]
 |[],x,r,m+1,h=>by cases h
 |n::t,x,r,m+1,h=>by
  have h':skip (m+n.c.toNat) t=some r:=h;exact kV t x r _ h'
theorem iA : ∀(f m:Nat) (t x r:List Nd),(t++x).length<f→skip m t=some r→(∀n∈t,cJ n=true)→eP f m (t++x)=eP f m t
 |0,_,_,_,_,h,_,_=>by omega
 |f+1,0,t,x,r,_,_,_=>by cases t<;>cases x<;>rfl
 |f+1,m+1,[],x,r,_,h,_=>by cases h
 |f+1,m+1,n::t,x,r,hf,h,hn=>by
  have h':skip (m+n.c.toNat) t=some r:=h;have hn': ∀y∈t,cJ y=true:=fun y hy=>hn y (List.mem_cons_of_mem _ hy);have hl:(t++x).length<f:=by simpa using hf
  obtain⟨c1,c2,c3,c4⟩:=eN (hn n List.mem_cons_self);simp only[List.cons_append,eP];split
  · rename_i hk;rw[c3 hk]at h';rw[iA f m t x r hl (by grind) hn']
  ·
   rw[Nat.add_comm,fX]at h';cases hs:skip n.c.toNat t with
   |none=>grind
   |some r1=>
    rw[hs]at h';have h2:skip m r1=some r:=h';obtain⟨j,_,hj,_,_⟩:=iM t _ _ hs;have hr1:=rV hs;rw[iA f _ t x r1 hl hs hn',kV t x r1 _ hs,Option.getD_some,Option.getD_some,
     iA f m r1 x r (by grind) h2 (fun y hy=>hn' y (by grind))]
theorem aB8 (h:eM w=true):w=[wEnd]:=by
 unfold eM at h;simp only[Bool.and_eq_true,beq_iff_eq]at h;rw[cD1 h.1,h.2]
theorem bT1 : ∀(f:Nat),(∀ls t r,rdN f ls=(some t,r)→(∀n∈t,cJ n=true)→skip 1 t=some []∧ls=eP (t.length+1) 1 t++r)∧
  (∀ls ts c r,rdK f ls=(some (ts,c),r)→(∀n∈ts,cJ n=true)→0≤c∧skip c.toNat ts=some []∧ls=eP (ts.length+1) c.toNat ts++([wEnd]::r))
 |0=>⟨fun ls t r h _=>(by grind[rdN]),fun ls ts c r h _=>(by grind[rdK])⟩
 |f+1=>by
  obtain⟨ihN,ihK⟩:=bT1 f;have z0: ∀f (x:List Nd),eP f 0 x=[]:=fun f x=>by cases f<;>cases x<;>rfl
  refine⟨fun ls t r h hn=>?_,fun ls ts c r h hn=>?_⟩
  ·
   cases ls with
   |nil=>grind[rdN]
   |cons w rest=>
    simp only[rdN]at h;split at h
    · rename_i q hq;cases h;refine⟨rfl,?_⟩;simp only[List.length_singleton,eP];rw[if_pos trivial,bT0 hq];grind
    ·
     split at h
     · cases h
     ·
      rename_i n hin;cases hk:rdK f rest with
      |mk o r'=>
       rw[hk]at h;cases o with
       |none=>cases h
       |some p=>
        obtain⟨ts,c⟩:=p;simp only[Prod.mk.injEq,Option.some.injEq]at h;obtain⟨rfl,rfl⟩:=h;obtain⟨g1,g2,g3⟩:=ihK _ _ _ _ hk fun x hx=>hn x (List.mem_cons_of_mem _ hx);obtain⟨e1,e2⟩:=aQ0 hin c;refine⟨?_,?_⟩
        · show skip (0+c.toNat) ts=some [];rw[Nat.zero_add];exact g2
        · simp only[List.length_cons,eP];rw[if_neg e2,e1,g3];simp[z0]
  ·
   simp only[rdK]at h;split at h
   ·
    rename_i he;cases h;cases ls with
    |nil=>simp[eM]at he
    |cons w rest=>
     have:=aB8 he;simp only[List.headD_cons]at this;subst this;exact⟨by omega,rfl,rfl⟩
   ·
    cases h1:rdN f ls with
    |mk o r1=>
     rw[h1]at h;cases o with
     |none=>cases h
     |some t=>
      simp only at h;cases h2:rdK f r1 with
      |mk o2 r2=>
       rw[h2]at h;cases o2 with
       |none=>cases h
       |some p=>
        obtain⟨ts2,c2⟩:=p;simp only[Prod.mk.injEq,Option.some.injEq]at h;obtain⟨⟨rfl,rfl⟩,rfl⟩:=h;obtain⟨a1,a2⟩:=ihN _ _ _ h1 fun x hx=>hn x (List.mem_append_left _ hx);have hn2: ∀n∈ts2,cJ n=true:=fun x hx=>hn x (List.mem_append_right _ hx);obtain⟨b1,b2,b3⟩:=ihK _ _ _ _ h2 hn2;have e:(c2+1).toNat=1+c2.toNat:=by omega
        have s1:=kV t ts2 [] 1 a1;rw[List.nil_append]at s1;refine⟨by omega,?_,?_⟩
        · rw[e,fX,s1];exact b2
        ·
         rw[a2,b3,e,oA ((t++ts2).length+1) 1 c2.toNat (t++ts2) ts2 (Nat.lt_succ_self _) s1 hn _ b2,
          iA _ 1 t ts2 [] (Nat.lt_succ_self _) a1 (fun x hx=>hn x (List.mem_append_left _ hx)),
          gD (t.length+1) 1 t [] (by omega) a1 (fun x hx=>hn x (List.mem_append_left _ hx)) ((t++ts2).length+1) (by simp),
          gD (ts2.length+1) _ ts2 [] (by omega) b2 hn2 ((t++ts2).length+1) (by simp)]
         simp
theorem cD2 {r:List (List aF)}{x:Pr}(h:rdR ls=(some x,r))(hv:dV x.t=true):ls=kG x++r∧r.length<ls.length:=by
 cases ls with
 |nil=>grind[rdR]
 |cons w rest=>
  simp only[rdR]at h;split at h
  ·
   rename_i h1;split at h
   · cases h
   ·
    rename_i g hg;cases ht:rdT rest with
    |mk o r'=>
     rw[ht]at h;cases o with
     |none=>cases h
     |some t=>
      simp only[Prod.mk.injEq,Option.some.injEq]at h;obtain⟨rfl,rfl⟩:=h;obtain⟨-,g2⟩:=(bT1 _).1 _ _ _ ht (lM hv).node;have hw:=cT2 h1.1;rw[h1.2]at hw;refine⟨?_,?_⟩
      · show w::rest=([wRule,wd w 1,wd w 2,wd w 3,numW g]::aX5 t)++r';rw[lR hg,←hw,g2];rfl
      grind
  grind
theorem aQ1 : ∀(f:Nat) (ls:List (List aF)) (a l:List Pr) (r:List (List aF)),jM f ls a=(some l,r)→(∀x∈l,dV x.t=true)→ ∃m,l=a++m∧ls=m.flatMap kG∧r=[]
 |0,ls,a,l,r,h,_=>by grind[jM]
 |f+1,ls,a,l,r,h,hv=>by
  simp only[jM]at h;split at h
  · simp_all
  ·
   cases hr:rdR ls with
   |mk o r1=>
    rw[hr]at h;cases o with
    |none=>cases h
    |some x=>
     obtain⟨m,rfl,hm,hr0⟩:=aQ1 f r1 (a++[x]) l r h hv;obtain⟨g1,g2⟩:=cD2 hr (hv x (by simp));grind
variable {p:Po}
theorem cD3 {r:List (List aF)}(h:rdP ls=(some p,r))(hv:eY p=true):ls=qB p:=by
 have ht: ∀x∈p.r,dV x.t=true:=fun x hx=>by simp_all[eY,Bool.and_eq_true,List.all_eq_true,jE]
 cases ls with
 |nil=>grind[rdP]
 |cons w rest=>
  simp only[rdP]at h;split at h
  ·
   rename_i h1;split at h
   · cases h
   ·
    rename_i v hg;cases hr:jM (rest.length+1) rest []with
    |mk o r'=>
     rw[hr]at h;cases o with
     |none=>cases h
     |some l=>
      simp only[Prod.mk.injEq,Option.some.injEq]at h;obtain⟨rfl,rfl⟩:=h;obtain⟨m,rfl,hm,-⟩:=aQ1 _ _ _ _ _ hr ht;have hw:=cP7 h1.1;rw[h1.2]at hw;show w::rest=[wPolicy,wd w 1,numW v]::_;rw[lR hg,←hw,hm]
  grind
theorem bT2 (h:eL b=0):iB (decO b)=0∧mG (decO b)=b:=by
 have hO:decO b=(gG b).getD []:=by unfold decO;grind
 unfold eL at h;split at h
 · cases h
 ·
  rename_i hb;cases hv:gG b with
  |none=>grind
  |some ls=>
   rw[hv]at h hO;simp only at h;split at h
   · cases h
   ·
    rename_i hl;rw[hO,Option.getD_some];by_cases hne:b=[]
    · grind[gG,iB,fY,mG]
    ·
     have hlast: ∃m,b=m++[10]:=by
      unfold gG at hv;rw[if_neg hne]at hv;split at hv
      · grind[kU]
      · grind
     obtain⟨m,rfl⟩:=hlast;rw[pB]at hv;cases hu:(aS 10 m).mapM unL with
     |none=>grind[pQ]
     |some ls'=>
      rw[aP6 hu]at hv;split at hv
      ·
       rename_i hall;cases hv;have hd:=aB7 hu;have hE:iB ls=0:=by simp_all[vK,List.all_eq_true,if_neg]
       grind[vL]
      grind
theorem cK4 {r:List (List aF)}(h0:eL b=0)(h:rdP (decO b)=(some p,r)):(yU p=0∧tO p=b)↔eY p=true:=by
 constructor
 · grind[yU]
 · intro hv;have hl:=cD3 h hv;obtain⟨e1,e2⟩:=bT2 h0;simp_all[yU,tO,if_pos]
theorem pC {n a b:Int}:inB n a b=true↔a≤n∧n≤b:=by unfold inB;simp
theorem bT3 (h:fB q=true):dD (wlR q)=some q:=by
 obtain⟨k,n,m,t⟩:=q;have hv: ∀{a b:Int},inB n a b=true→0≤a→b≤1099511627776→bL (numW n)=some n:=fun h h1 h2=>by grind[pC,lQ]
 unfold fB at h;simp only at h;split at h
 ·
  rename_i h1;simp only[Bool.and_eq_true,beq_iff_eq]at h;obtain⟨h2,rfl,rfl⟩:=h;have hn:=hv h2 (by omega) (by omega);rcases h1 with rfl|rfl|rfl
  · show(bL (numW n)).map _=_;grind
  · show(bL (numW n)).map _=_;grind
  · show(bL (numW n)).map _=_;grind
 split at h
 · rename_i h1;subst h1;simp only[Bool.and_eq_true,beq_iff_eq]at h;obtain⟨h2,h3,rfl⟩:=h;have hn:=hv h2 (by omega) (by omega);rw[pC]at h3;have hm:bL (numW m)=some m:=lQ (by omega) (by omega);show(match bL (numW n),bL (numW m)with|some n,some m=>some (⟨4,n,m,[]⟩:Rq)|_,_=>none)=_;grind
 split at h
 · rename_i h1;subst h1;simp only[Bool.and_eq_true,beq_iff_eq]at h;obtain⟨-,rfl,rfl⟩:=h;rfl
 split at h
 · rename_i h1;subst h1;simp only[Bool.and_eq_true,beq_iff_eq]at h;obtain⟨h2,rfl,rfl⟩:=h;have hn:=hv h2 (by omega) (by omega);show(bL (numW n)).map _=_;grind
 split at h
 · rename_i h1;subst h1;simp only[Bool.and_eq_true,beq_iff_eq]at h;obtain⟨h2,rfl,rfl⟩:=h;have hn:=hv h2 (by omega) (by rw[iW];omega);show(bL (numW n)).map _=_;grind
 split at h
 · rename_i h1;subst h1;simp only[Bool.and_eq_true,beq_iff_eq]at h;obtain⟨rfl,rfl,rfl⟩:=h;rfl
 grind
theorem bT4 {n:Nd}(h:cJ n=true)(hk:n.k≠1):dZ (wlN n)=some {n with c:=0}∧dD (wlN n)=none:=by
 obtain⟨k,a,c,q⟩:=n;unfold cJ at h;simp only at h hk;rw[if_neg hk]at h;split at h
 · rename_i h1;simp only[Bool.and_eq_true,beq_iff_eq,rA]at h;obtain⟨-,rfl,rfl⟩:=h;rcases h1 with rfl|rfl<;>exact⟨rfl,rfl⟩
 split at h
 · rename_i h1;subst h1;simp only[Bool.and_eq_true,rA,pC]at h;obtain⟨⟨c1,c2⟩,rfl,a1,a2⟩:=h;refine⟨?_,rfl⟩;show(bL (numW a)).map _=_;grind[lQ]
 grind
theorem xQ {r:List Nd}(h:skip m l=some r): ∃t,l=t++r∧skip m t=some []:=by
 induction l generalizing m with
 |nil=>
  cases m with
  |zero=>rw[dH]at h;cases h;exact⟨[],rfl,rfl⟩
  |succ m=>cases h
 |cons n l ih=>
  cases m with
  |zero=>rw[dH]at h;cases h;exact⟨[],rfl,rfl⟩
  |succ m=>
   obtain⟨t,h1,h2⟩:=ih (m:=m+n.c.toNat) h;exact⟨n::t,by rw[h1];rfl,h2⟩
theorem aX6 {n:Nd}(h:cJ n=true)(hk:n.k≠1):eM (wlN n)=false:=by
 unfold wlN;split
 · rfl
 ·
  split
  · rfl
  · rfl
theorem aX7 (q:Rq):eM (wlR q)=false:=by
 unfold wlR
 repeat' split
 all_goals rfl
theorem bT5 : ∀(f:Nat),(∀t rest,skip 1 t=some []→(∀n∈t,cJ n=true)→2*t.length≤f→rdN f (eP (t.length+1) 1 t++rest)=(some t,rest))∧
  (∀ts c rest,skip c ts=some []→(∀n∈ts,cJ n=true)→2*ts.length+1≤f→rdK f (eP (ts.length+1) c ts++([wEnd]::rest))=(some (ts,(c:Int)),rest))
 |0=>⟨fun t rest h _ hf=>(by
   have:t=[]:=List.eq_nil_of_length_eq_zero (by omega);subst this;cases h),fun ts c rest _ _ hf=>by omega⟩
 |f+1=>by
  obtain⟨ihN,ihK⟩:=bT5 f;have z0: ∀f (x:List Nd),eP f 0 x=[]:=fun f x=>by cases f<;>cases x<;>rfl
  refine⟨fun t rest h hn hf=>?_,fun ts c rest h hn hf=>?_⟩
  ·
   cases t with
   |nil=>cases h
   |cons n ts=>
    have hnn:=hn n List.mem_cons_self;have hn': ∀x∈ts,cJ x=true:=fun x hx=>hn x (List.mem_cons_of_mem _ hx);have h':skip (0+n.c.toNat) ts=some []:=h;rw[Nat.zero_add]at h';obtain⟨c1,c2,c3,c4⟩:=eN hnn;simp only[List.length_cons,eP];by_cases hk:n.k=1
    ·
     rw[if_pos hk];rw[c3 hk]at h';have:ts=[]:=by
      cases ts with
      |nil=>rfl
      |cons a b=>grind[skip,dH]
     subst this;have hq:fB n.q=true∧n.n=0:=by
      unfold cJ at hnn;rw[if_pos hk]at hnn;simp only[Bool.and_eq_true,beq_iff_eq]at hnn;exact⟨hnn.2.2,hnn.2.1⟩
     simp only[List.cons_append,List.nil_append,rdN,bT3 hq.1];obtain⟨k,a,c,q⟩:=n;simp only at hk hq c3;rw[hk,hq.2,c3 hk]
    ·
     rw[if_neg hk];obtain⟨e1,e2⟩:=bT4 hnn hk;have:=ihK ts n.c.toNat rest h' hn' (by grind);simp only[List.cons_append,List.append_assoc,List.nil_append,rdN,e2,e1,this];have:((n.c.toNat:Nat):Int)=n.c:=by omega
     rw[this]
  ·
   cases c with
   |zero=>
    rw[dH]at h;cases h;rw[z0];simp only[List.nil_append,rdK,List.headD_cons,show eM [wEnd]=true from rfl,if_true,List.tail_cons];rfl
   |succ c=>
    rw[Nat.add_comm,fX]at h;cases h1:skip 1 ts with
    |none=>grind
    |some r=>
     rw[h1]at h;have h2:skip c r=some []:=h;obtain⟨t,rfl,ht⟩:=xQ h1;have hnt: ∀x∈t,cJ x=true:=fun x hx=>hn x (List.mem_append_left _ hx);have hnr: ∀x∈r,cJ x=true:=fun x hx=>hn x (List.mem_append_right _ hx);have ht1:1≤t.length:=by
      cases t with
      |nil=>cases ht
      |cons _ _=>simp
     simp only[List.length_append]at hf;have e:eP ((t++r).length+1) (c+1) (t++r)=eP (t.length+1) 1 t++eP (r.length+1) c r:=by
      rw[Nat.add_comm c 1,oA _ 1 c (t++r) r (Nat.lt_succ_self _) h1 hn _ h2,iA _ 1 t r [] (Nat.lt_succ_self _) ht hnt,
       gD (t.length+1) 1 t [] (by omega) ht hnt ((t++r).length+1) (by simp),gD (r.length+1) c r [] (by omega) h2 hnr ((t++r).length+1) (by simp)]
     rw[e,List.append_assoc];have a1:=ihN t (eP (r.length+1) c r++[wEnd]::rest) ht hnt (by omega);have a2:=ihK r c rest h2 hnr (by omega);have hne:eM ((eP (t.length+1) 1 t++(eP (r.length+1) c r++[wEnd]::rest)).headD [])=false:=by
      cases t with
      |nil=>cases ht
      |cons n t=>
       simp only[List.length_cons,eP];split
       · exact aX7 _
       · rename_i hk;exact aX6 (hnt n List.mem_cons_self) hk
     simp only[rdK];rw[hne];simp only[Bool.false_eq_true,if_false,a1,a2];have:((c:Nat):Int)+1=((c+1:Nat):Int):=by omega
     rw[this]
theorem vN : ∀(f m:Nat) (l:List Nd),l.length<f→skip m l=some []→(∀n∈l,cJ n=true)→l.length≤(eP f m l).length
 |0,_,_,h,_,_=>by omega
 |f+1,m,[],_,_,_=>by simp
 |f+1,0,n::l,_,h,_=>by rw[dH]at h;cases h
 |f+1,m+1,n::l,hf,h,hn=>by
  have h':skip (m+n.c.toNat) l=some []:=h;have hn': ∀y∈l,cJ y=true:=fun y hy=>hn y (List.mem_cons_of_mem _ hy);have hl:l.length<f:=by simpa using hf
  obtain⟨c1,c2,c3,c4⟩:=eN (hn n List.mem_cons_self);simp only[eP];split
  · rename_i hk;rw[c3 hk]at h';have:=vN f m l hl (by simpa using h') hn';simp only[List.length_cons];omega
  ·
   rw[Nat.add_comm,fX]at h';cases hs:skip n.c.toNat l with
   |none=>rw[hs]at h';cases h'
   |some r1=>
    rw[hs]at h';have h2:skip m r1=some []:=h';obtain⟨t,rfl,ht⟩:=xQ hs;simp only[List.length_append]at hl;have hnt: ∀x∈t,cJ x=true:=fun x hx=>hn' x (List.mem_append_left _ hx);have a1:=vN f _ t (by omega) ht hnt;have a2:=vN f m r1 (by omega) h2 (fun x hx=>hn' x (List.mem_append_right _ hx));rw[Option.getD_some,iA f _ t r1 [] (by simp;omega) ht hnt];simp only[List.length_cons,List.length_append];omega
variable {t:List Nd}
theorem cD4 (h:IsTree t)(rest:List (List aF)):rdT (aX5 t++rest)=(some t,rest):=by
 have:=vN (t.length+1) 1 t (by omega) h.skip h.node;exact(bT5 _).1 t rest h.skip h.node (by simp only[aX5,List.length_append];omega)
theorem lS {r:Pr}(h:jE r=true):(0≤r.g∧r.g≤1099511627776)∧IsTree r.t∧dU r.a=true∧(fL r.b).isSome=true∧(fL r.c).isSome=true:=by
 unfold jE at h;simp only[Bool.and_eq_true,pC]at h;obtain⟨h1,h2,h3,⟨h4,h5⟩,h6⟩:=h;rw[iW]at h5;exact⟨⟨h4,h5⟩,lM h6,h1,h2,h3⟩
theorem cD5 {r:Pr}(h:jE r=true)(rest:List (List aF)):rdR (kG r++rest)=(some r,rest):=by
 obtain⟨⟨g0,g1⟩,ht,-⟩:=lS h;show rdR ([wRule,r.a,r.b,r.c,numW r.g]::(aX5 r.t++rest))=_;unfold rdR;simp only;rw[if_pos ⟨rfl,rfl⟩];have:bL (wd [wRule,r.a,r.b,r.c,numW r.g] 4)=some r.g:=lQ g0 g1;rw[this];simp only;rw[cD4 ht];rfl
theorem aQ2 : ∀(l a:List Pr) (f:Nat),(∀r∈l,jE r=true)→l.length<f→jM f (l.flatMap kG) a=(some (a++l),[])
 |[],a,f,_,hf=>by
  obtain⟨g,rfl⟩: ∃g,f=g+1:=⟨f-1,by simp at hf;omega⟩;simp[jM]
 |r::l,a,f,h,hf=>by
  obtain⟨g,rfl⟩: ∃g,f=g+1:=⟨f-1,by simp at hf;omega⟩;simp only[List.flatMap_cons,jM];rw[if_neg (by simp[kG]),cD5 (h r List.mem_cons_self)];simp only;rw[aQ2 l (a++[r]) g (fun x hx=>h x (List.mem_cons_of_mem _ hx)) (by simp at hf;omega)];simp
theorem bD3 : ∀l:List Pr,l.length≤(l.flatMap kG).length
 |[]=>by simp
 |r::l=>by have:=bD3 l;simp[kG]at this⊢;omega
theorem vO (h:eY p=true):(1≤p.v∧p.v≤1099511627776)∧p.r.length≤16∧dU p.n=true∧ ∀r∈p.r,jE r=true:=by
 unfold eY at h;simp only[Bool.and_eq_true,pC,decide_eq_true_eq,List.all_eq_true]at h;obtain⟨h1,⟨h2,h3⟩,h4,h5,-⟩:=h;rw[iW]at h3;exact⟨⟨h2,h3⟩,h4,h1,h5⟩
theorem cD6 (h:eY p=true):rdP (qB p)=(some p,[]):=by
 obtain⟨⟨v0,v1⟩,-,-,hr⟩:=vO h;show rdP ([wPolicy,p.n,numW p.v]::p.r.flatMap kG)=_;unfold rdP;simp only;rw[if_pos ⟨rfl,rfl⟩];have:bL (wd [wPolicy,p.n,numW p.v] 2)=some p.v:=lQ (by omega) v1;rw[this];simp only;rw[aQ2 p.r [] _ hr (by have:=bD3 p.r;omega)];rfl
theorem bJ7 (h:yU p=0):dpE (tO p)=0∧dpO (tO p)=p∧dpL (tO p)=0:=by
 have hv:eY p=true:=by
  unfold yU at h;split at h
  · assumption
  · cases h
 have he:iB (qB p)=0:=by unfold yU at h;rw[if_pos hv]at h;exact h
 have hb:tO p=mG (qB p):=by unfold tO;rw[if_pos hv]
 obtain⟨h1,h2⟩:=cD0 he;have hr:=cD6 hv;rw[hb];have hE:dpE (mG (qB p))=0:=by unfold dpE;rw[if_neg (by rw[h1];simp),h2,hr];simp only;rw[if_pos hv]
 exact⟨hE,by unfold dpO;rw[if_pos hE,h2,hr];rfl,by unfold dpL;rw[if_neg (by rw[h1];simp),h2,hr]⟩
theorem bD4 : ∀(l:List Nd) (m:Nat) (v:Int),skip m l=some []→(∀n∈l,cJ n=true)→rB l m v=some (0,v+lv l)
 |[],0,v,_,_=>by simp[rB,lv]
 |[],m+1,v,h,_=>by cases h
 |n::l,0,v,h,_=>by grind[dH]
 |n::l,m+1,v,h,hn=>by
  have h':skip (m+n.c.toNat) l=some []:=h;have hnn:=hn n List.mem_cons_self;obtain⟨c1,c2,c3,c4⟩:=eN hnn;have e:((m+1:Nat):Int)+(n.c-1)=((m+n.c.toNat:Nat):Int):=by omega
  rw[rB,if_neg (by omega),if_pos hnn,e,bD4 l _ _ h' (fun x hx=>hn x (List.mem_cons_of_mem _ hx)),lv];grind
theorem bT6 (h:IsTree l):dV l=true:=by
 unfold dV;have:=bD4 l 1 0 h.skip h.node;rw[show((1:Nat):Int)=1 from rfl]at this;rw[this];have:=h.lv;simp[h.ne,h.len];omega
def uni (l:List (Nat×Nat)):List (Nat×Nat):=l.eraseDups
def xR (f:Nat→List (Nat×Nat)):Nat→Nat→Nat×Nat→List (Nat×Nat)
 |0,_,p=>[p]
 |c+1,n,p=>uni ((f n).flatMap fun q=>xR f c (n+q.1) (p.1+q.1,p.2+q.2))
def pos :Nat→Nat→List (Nat×Nat)
 |0,_=>[(1,1)]
 |d+1,n=>uni ((1,1)::if n≤8 then(List.range 3).flatMap fun c=>xR (pos d) (c+1) (n+1) (1,0)else [])
theorem vP {l:List (Nat×Nat)}{p:Nat×Nat}:p∈uni l↔p∈l:=by unfold uni;simp_all
theorem aB9 {f:Nat→List (Nat×Nat)}: ∀{c n:Nat} {p q r:Nat×Nat},q∈xR f c n p→r∈f (n+(q.1-p.1))→p.1≤q.1→(q.1+r.1,q.2+r.2)∈xR f (c+1) n p
 |0,n,p,q,r,hq,hr,_=>by simp_all[xR,List.mem_singleton,Nat.sub_self,Nat.add_zero,vP,List.mem_flatMap]
 |c+1,n,p,q,r,hq,hr,hpq=>by
  unfold xR at hq⊢;rw[vP,List.mem_flatMap]at hq⊢;obtain⟨s,hs,hq⟩:=hq;have hle:p.1+s.1≤q.1:=by
   have key: ∀(c n:Nat) (p q:Nat×Nat),q∈xR f c n p→p.1≤q.1:=by
    intro c;induction c with
    |zero=>simp_all[xR,List.mem_singleton,Nat.le_refl]
    |succ c ih=>
     grind[xR,vP]
   exact key _ _ _ _ hq
  refine⟨s,hs,aB9 hq ?_ hle⟩;grind
structure Made (d n:Nat)(t:List Nd):Prop where
 skip:skip 1 t=some []
 node: ∀n∈t,cJ n=true
 pos:(t.length,lv t)∈pos d n
structure MadeK (d n k:Nat)(ts:List Nd):Prop where
 skip:skip k ts=some []
 node: ∀n∈ts,cJ n=true
 pos:(1+ts.length,lv ts)∈xR (pos d) k (n+1) (1,0)
theorem MadeK.zero (d n:Nat):MadeK d n 0 []:=⟨rfl,by simp,by simp[xR,lv]⟩
variable {ts:List Nd}
theorem MadeK.next {d:Nat}(h:MadeK d n k ts)(ht:Made d (n+1+ts.length) t):MadeK d n (k+1) (ts++t):=by
 refine⟨?_,fun x hx=>?_,?_⟩
 · rw[fX,kV ts t [] k h.skip];exact ht.skip
 ·
  rcases List.mem_append.1 hx with hx|hx
  · exact h.node x hx
  · exact ht.node x hx
 ·
  have:=aB9 (r:=(t.length,lv t)) h.pos (by
   rw[show n+1+(1+ts.length-1)=n+1+ts.length from by omega];exact ht.pos) (by simp)
  grind[sZ,Nat.add_assoc]
theorem MadeK.fin {d:Nat}{x:Nd}{c:Nat}(h:MadeK d n c ts)(hn:n≤8)(hx:cJ x=true)(hk:x.k≠1)(hc:x.c=c)(h1:1≤c)(h3:c≤3):Made (d+1) n (x::ts):=by
 refine⟨?_,fun y hy=>?_,?_⟩
 · show Pl.skip (0+x.c.toNat) ts=some [];rw[hc,Nat.zero_add];exact h.skip
 ·
  rcases List.mem_cons.1 hy with rfl|hy
  · grind
  · exact h.node y hy
 · rw[Pl.pos,vP];refine List.mem_cons_of_mem _ ?_;rw[if_pos hn,List.mem_flatMap];refine⟨c-1,List.mem_range.2 (by omega),?_⟩;rw[show c-1+1=c from by omega];have:=h.pos;simp_all[lv,if_neg,List.length_cons,Nat.add_comm]
def dB (w:List aF):Option Nd:=match dD w with|some q=>some ⟨1,0,0,q⟩|none=>dZ w
structure Ms where
 n:aF
 v:Int
 r:List Pr
 o:List Nat
 d:Bool
def pI (t:List Nd)(i:Nat):List Nd:=t.set i {t.getD i nd0 with c:=(t.getD i nd0).c+1}
def iX (t:List Nd)(o:List Nat):List Nd:=match o.getLast? with|some i=>pI t i|none=>t
def fG (r:List Pr):List Nd:=(r.getLast?.getD ⟨[],[],[],0,[]⟩).t
def qC (r:List Pr)(t:List Nd):List Pr:=r.dropLast++[{r.getLast?.getD ⟨[],[],[],0,[]⟩with t:=t}]
def cS (w:List aF)(first:Bool)(x:Ms):Option Ms:=
 if first then(if w.length=3∧wd w 0=wPolicy then(bL (wd w 2)).map fun v=>{x with n:=wd w 1,v:=v}else none)
 else if x.d=false∧x.o=[]then(if w.length=5∧wd w 0=wRule then(bL (wd w 4)).map fun g=>{x with r:=x.r++[⟨wd w 1,wd w 2,wd w 3,g,[]⟩],d:=true}else none)
 else if eM w=true∧x.o≠[]then some {x with o:=x.o.dropLast}
 else(dB w).map fun n=>{x with r:=qC x.r (iX (fG x.r) x.o++[n]),o:=if n.k=1 then x.o else x.o++[(fG x.r).length],d:=false}
def goM :List (List aF)→Ms→Option Ms×List (List aF)
 |[],x=>(some x,[])
 |w::ls,x=>match cS w false x with|some y=>goM ls y|none=>(none,w::ls)
theorem xS {w:List aF}{x y:Ms}(h:cS w false x=some y):goM (w::ls) x=goM ls y:=by simp only[goM,h]
theorem aH0 {w:List aF}{x:Ms}(h:cS w false x=none):goM (w::ls) x=(none,w::ls):=by simp only[goM,h]
variable {r:List Pr}
theorem aC0 :fG (qC r t)=t:=by simp[fG,qC]
variable {u:List Nd}
theorem aQ3 :qC (qC r t) u=qC r u:=by simp[qC]
theorem tP {x:Pr}{t:List Nd}:qC (r++[x]) t=r++[{x with t:=t}]:=by simp[qC]
theorem qD {x:Pr}:fG (r++[x])=x.t:=by simp[fG]
theorem aH1 : ∀(f:Nat),(∀ls t r,rdN f ls=(some t,r)→r.length<ls.length)∧(∀ls p r,rdK f ls=(some p,r)→r.length<ls.length)
 |0=>⟨fun ls t r h=>(by simp only[rdN]at h;cases h),fun ls p r h=>(by simp only[rdK]at h;cases h)⟩
 |f+1=>by
  obtain⟨ihN,ihK⟩:=aH1 f;refine⟨fun ls t r h=>?_,fun ls p r h=>?_⟩
  ·
   cases ls with
   |nil=>simp only[rdN]at h;cases h
   |cons w rest=>
    simp only[rdN]at h;split at h
    · cases h;simp
    ·
     split at h
     · cases h
     ·
      cases hk:rdK f rest with
      |mk o r'=>
       rw[hk]at h;cases o with
       |none=>cases h
       |some p=>
        cases h;have:=ihK _ _ _ hk;simp only[List.length_cons];omega
  ·
   simp only[rdK]at h;split at h
   ·
    rename_i he;cases h;cases ls with
    |nil=>simp[eM]at he
    |cons w rest=>simp
   ·
    cases h1:rdN f ls with
    |mk o r1=>
     rw[h1]at h;cases o with
     |none=>cases h
     |some t=>
      simp only at h;cases h2:rdK f r1 with
      |mk o2 r2=>
       rw[h2]at h;cases o2 with
       |none=>cases h
       |some q=>
        cases h;have a:=ihN _ _ _ h1;have b:=ihK _ _ _ h2;omega
theorem bump_len (t:List Nd)(i:Nat):(pI t i).length=t.length:=by simp[pI]
def aQ4 (t:List Nd)(i:Nat)(c:Int):List Nd:=t.set i {t.getD i nd0 with c:=(t.getD i nd0).c+c}
theorem bJ8 (h:i<t.length):aQ4 t i 0=t:=by
 unfold aQ4;have:({t.getD i nd0 with c:=(t.getD i nd0).c+0}:Nd)=t[i]:=by
  rw[List.getD_eq_getElem?_getD,List.getElem?_eq_getElem h,Option.getD_some,Int.add_zero]
 rw[this,List.set_getElem_self]
theorem bJ9 {c:Int}(h:i<t.length):aQ4 (pI t i++u) i c=aQ4 t i (c+1)++u:=by
 unfold aQ4;rw[List.set_append_left _ _ (by rw[bump_len];exact h)];congr 1;have e:(pI t i++u).getD i nd0={t.getD i nd0 with c:=(t.getD i nd0).c+1}:=by
  rw[List.getD_eq_getElem?_getD,List.getElem?_append_left (by rw[bump_len];exact h)];unfold pI;rw[List.getElem?_set_self h];rfl
 rw[e];unfold pI;rw[List.set_set];congr 1;simp only[Nd.mk.injEq,true_and,and_true];omega
theorem innR_c {n:Nd}(h:dZ w=some n):n.c=0∧eM w=false:=by
 refine⟨?_,?_⟩
 ·
  unfold dZ at h;split at h
  · cases h;rfl
  split at h
  · cases h;rfl
  split at h
  ·
   cases hv:bL (wd w 1)with
   |none=>rw[hv]at h;cases h
   |some m=>rw[hv]at h;cases h;rfl
  · cases h
 ·
  cases he:eM w with
  |false=>rfl
  |true=>rw[aB8 he]at h;cases h
theorem bK0 (h:r≠[]):qC r (fG r)=r:=by
 obtain⟨q,x,rfl⟩: ∃q x,r=q++[x]:=⟨r.dropLast,r.getLast h,(List.dropLast_concat_getLast h).symm⟩;rw[qD,tP]
theorem aX8 (t:List Nd)(o:List Nat)(i:Nat):iX t (o++[i])=pI t i:=by simp[iX]
theorem bumpO_len (t:List Nd)(o:List Nat):(iX t o).length=t.length:=by
 unfold iX;split
 · exact bump_len _ _
 · rfl
theorem bT7 : ∀(f:Nat),(∀ls (x:Ms),2*ls.length+1≤f→(x.d=true∨x.o≠[])→(∀i∈x.o,i<(fG x.r).length)→(x.o≠[]→eM (ls.headD [])=false)→match rdN f ls with
   |(some t,r)=>goM ls x=goM r {x with r:=qC x.r (iX (fG x.r) x.o++t),d:=false}
   |(none,[])=> ∃y,goM ls x=(some y,[])∧(y.d=true∨y.o≠[])
   |(none,w::r)=>goM ls x=(none,w::r))∧
  (∀ls (x:Ms) (o:List Nat) (i:Nat),2*ls.length+2≤f→x.o=o++[i]→x.d=false→(∀j∈x.o,j<(fG x.r).length)→match rdK f ls with
   |(some (ts,c),r)=>goM ls x=goM r {x with r:=qC x.r (aQ4 (fG x.r) i c++ts),o:=o}
   |(none,[])=> ∃y,goM ls x=(some y,[])∧(y.d=true∨y.o≠[])
   |(none,w::r)=>goM ls x=(none,w::r))
 |0=>⟨fun ls x hf _ _ _=>by omega,fun ls x o i hf _ _ _=>by omega⟩
 |f+1=>by
  obtain⟨ihN,ihK⟩:=bT7 f;refine⟨fun ls x hf hx hb hend=>?_,fun ls x o i hf ho hd hb=>?_⟩
  ·
   cases ls with
   |nil=>simp only[rdN];exact⟨x,rfl,hx⟩
   |cons w rest=>
    have hx': ¬(x.d=false∧x.o=[]):=fun h=>by
     rcases hx with h1|h1
     · rw[h.1]at h1;cases h1
     · exact h1 h.2
    have hne: ¬(eM w=true∧x.o≠[]):=fun h=>by
     have:=hend h.2;rw[List.headD_cons,h.1]at this;cases this
    simp only[rdN];cases hq:dD w with
    |some q=>
     simp only;have hs:cS w false x=some {x with r:=qC x.r (iX (fG x.r) x.o++[⟨1,0,0,q⟩]),d:=false}:=by
      unfold cS;rw[if_neg (by simp),if_neg hx',if_neg hne];unfold dB;rw[hq];rfl
     rw[xS hs]
    |none=>
     simp only;cases hn:dZ w with
     |none=>
      simp only;have hs:cS w false x=none:=by
       unfold cS;rw[if_neg (by simp),if_neg hx',if_neg hne];unfold dB;rw[hq,hn];rfl
      exact aH0 hs
     |some n=>
      obtain⟨hc,-⟩:=innR_c hn;have hk:=(aQ0 hn 0).2;obtain⟨y,hy⟩: ∃y:Ms,y={x with r:=qC x.r (iX (fG x.r) x.o++[n]),o:=x.o++[(fG x.r).length],d:=false}:=⟨_,rfl⟩;have hs:cS w false x=some y:=by
       unfold cS;rw[if_neg (by simp),if_neg hx',if_neg hne];unfold dB;rw[hq,hn];simp only[Option.map_some];rw[if_neg hk,hy]
      have hT:fG y.r=iX (fG x.r) x.o++[n]:=by rw[hy];exact aC0
      have ih:=ihK rest y x.o (fG x.r).length (by simp only[List.length_cons]at hf;omega) (by rw[hy]) (by rw[hy]) (fun j hj=>by
       rw[hT,List.length_append,bumpO_len,List.length_singleton];rw[hy]at hj;simp only[List.mem_append,List.mem_singleton]at hj;rcases hj with hj|rfl
       · have:=hb j hj;omega
       · omega)
      simp only;rw[xS hs];cases hr:rdK f rest with
      |mk p r'=>
       rw[hr]at ih;cases p with
       |none=>
        cases r' with
        |nil=>exact ih
        |cons _ _=>exact ih
       |some p=>
        obtain⟨ts,c⟩:=p;simp only at ih⊢;rw[ih,hT];have e:aQ4 (iX (fG x.r) x.o++[n]) (fG x.r).length c=iX (fG x.r) x.o++[{n with c:=c}]:=by
         unfold aQ4;have hl:=bumpO_len (fG x.r) x.o;rw[←hl,List.set_append_right _ _ (Nat.le_refl _),Nat.sub_self];simp only[List.getD_eq_getElem?_getD,List.getElem?_append_right (Nat.le_refl _),Nat.sub_self,List.getElem?_cons_zero,Option.getD_some,hc,Int.zero_add,List.set_cons_zero]
        rw[e,hy];simp only[aQ3,List.append_assoc,List.singleton_append]
  ·
   simp only[rdK];have hon:x.o≠[]:=by rw[ho];simp
   have hi:i<(fG x.r).length:=hb i (by rw[ho];simp);have hrn:x.r≠[]:=fun h=>by rw[h]at hi;simp[fG]at hi
   by_cases he:eM (ls.headD [])=true
   ·
    rw[if_pos he];cases ls with
    |nil=>simp[eM]at he
    |cons w rest=>
     simp only[List.headD_cons]at he;have hs:cS w false x=some {x with o:=o}:=by
      unfold cS;rw[if_neg (by simp),if_neg (fun h=>hon h.2),if_pos ⟨he,hon⟩,ho];simp
     rw[xS hs];simp only[List.tail_cons,bJ8 hi,List.append_nil,bK0 hrn]
   ·
    rw[if_neg he];have he':eM (ls.headD [])=false:=Bool.eq_false_iff.2 he;have ih:=ihN ls x (by omega) (.inr hon) hb (fun _=>he');cases h1:rdN f ls with
    |mk p r1=>
     rw[h1]at ih;cases p with
     |none=>
      cases r1 with
      |nil=>exact ih
      |cons _ _=>exact ih
     |some t=>
      simp only at ih⊢;have hlen:=(aH1 f).1 _ _ _ h1;obtain⟨x1,hx1⟩: ∃x1:Ms,x1={x with r:=qC x.r (iX (fG x.r) x.o++t),d:=false}:=⟨_,rfl⟩;rw[←hx1]at ih;have hT:fG x1.r=pI (fG x.r) i++t:=by rw[hx1];simp only;rw[aC0,ho,aX8]
      have ih2:=ihK r1 x1 o i (by omega) (by rw[hx1];exact ho) (by rw[hx1]) (fun j hj=>by
       rw[hT,List.length_append,bump_len];rw[hx1]at hj;have:=hb j hj;omega)
      rw[ih];cases h2:rdK f r1 with
      |mk p2 r2=>
       rw[h2]at ih2;cases p2 with
       |none=>
        cases r2 with
        |nil=>exact ih2
        |cons _ _=>exact ih2
       |some q=>
        obtain⟨ts,c⟩:=q;simp only at ih2⊢;rw[ih2,hT,bJ9 hi,hx1];simp only[aQ3,List.append_assoc];rw[hd]
theorem bT8 {x:Ms}(hd:x.d=false)(ho:x.o=[]):match rdR ls with
   |(some p,r)=>ls≠[]∧goM ls x=goM r {x with r:=x.r++[p]}
   |(none,[])=>ls=[]∨ ∃y,goM ls x=(some y,[])∧(y.d=true∨y.o≠[])
   |(none,w::r)=>goM ls x=(none,w::r):=by
 cases ls with
 |nil=>simp[rdR]
 |cons w rest=>
  simp only[rdR];by_cases h1:w.length=5∧wd w 0=wRule
  ·
   rw[if_pos h1];cases hg:bL (wd w 4)with
   |none=>
    simp only;refine aH0 ?_;unfold cS;rw[if_neg (by simp),if_pos ⟨hd,ho⟩,if_pos h1,hg];rfl
   |some g=>
    simp only;have hs:cS w false x=some {x with r:=x.r++[⟨wd w 1,wd w 2,wd w 3,g,[]⟩],d:=true}:=by
     unfold cS;rw[if_neg (by simp),if_pos ⟨hd,ho⟩,if_pos h1,hg];rfl
    have ih:=(bT7 (2*rest.length+2)).1 rest {x with r:=x.r++[⟨wd w 1,wd w 2,wd w 3,g,[]⟩],d:=true} (by omega) (.inl rfl) (fun i hi=>by simp only at hi;rw[ho]at hi;cases hi) (fun h=>absurd ho h);rw[xS hs];unfold rdT;cases ht:rdN (2*rest.length+2) rest with
    |mk p r'=>
     rw[ht]at ih;cases p with
     |none=>
      cases r' with
      |nil=>exact .inr ih
      |cons _ _=>exact ih
     |some t=>
      simp only at ih⊢;refine⟨by simp,?_⟩;rw[ih,qD,tP,ho];simp only[iX,List.getLast?_nil,List.nil_append];rw[←hd,←ho]
  · rw[if_neg h1];simp only;refine aH0 ?_;unfold cS;rw[if_neg (by simp),if_pos ⟨hd,ho⟩,if_neg h1]
theorem aC1 : ∀(f:Nat) (ls:List (List aF)) (x:Ms),ls.length<f→x.d=false→x.o=[]→match jM f ls x.r with
   |(some l,r)=>goM ls x=(some {x with r:=l},[])∧r=[]
   |(none,[])=> ∃y,goM ls x=(some y,[])∧(y.d=true∨y.o≠[])
   |(none,w::r)=>goM ls x=(none,w::r)
 |0,ls,x,h,_,_=>by omega
 |f+1,ls,x,hf,hd,ho=>by
  simp only[jM];by_cases h0:ls=[]
  · subst h0;rw[if_pos rfl];exact⟨rfl,rfl⟩
  ·
   rw[if_neg h0];have ih:=bT8 (ls:=ls) hd ho;cases h1:rdR ls with
   |mk p r=>
    rw[h1]at ih;cases p with
    |none=>
     cases r with
     |nil=>exact ih.resolve_left h0
     |cons _ _=>exact ih
    |some q=>
     simp only at ih⊢;have hlen:r.length<ls.length:=by
      cases ls with
      |nil=>exact absurd rfl h0
      |cons w rest=>
       simp only[rdR]at h1;split at h1
       ·
        split at h1
        · cases h1
        ·
         cases ht:rdT rest with
         |mk o r'=>
          rw[ht]at h1;cases o with
          |none=>cases h1
          |some t=>
           cases h1;have:=(aH1 _).1 _ _ _ ht;simp only[List.length_cons];omega
       · cases h1
     have ih2:=aC1 f r {x with r:=x.r++[q]} (by omega) hd ho;rw[ih.2];exact ih2
def bT9 (ls:List (List aF)):Option Po×List (List aF):=match ls with
 |[]=>(none,[])
 |w::r=>match cS w true ⟨[],0,[],[],false⟩with
  |none=>(none,w::r)
  |some x=>match goM r x with
   |(none,r')=>(none,r')
   |(some y,_)=>if y.d=true∨y.o≠[]then(none,[])else(some ⟨y.n,y.v,y.r⟩,[])
theorem aH2 (ls:List (List aF)):bT9 ls=rdP ls:=by
 cases ls with
 |nil=>rfl
 |cons w r=>
  unfold bT9 rdP;simp only;by_cases h1:w.length=3∧wd w 0=wPolicy
  ·
   rw[if_pos h1];have hs:cS w true ⟨[],0,[],[],false⟩=(bL (wd w 2)).map fun v=>⟨wd w 1,v,[],[],false⟩:=by
    unfold cS;rw[if_pos rfl,if_pos h1]
   rw[hs];cases hv:bL (wd w 2)with
   |none=>rfl
   |some v=>
    simp only[Option.map_some];have ih:=aC1 (r.length+1) r ⟨wd w 1,v,[],[],false⟩ (by omega) rfl rfl;simp only at ih;cases hr:jM (r.length+1) r []with
    |mk o r'=>
     rw[hr]at ih;cases o with
     |some l=>
      simp only at ih;obtain⟨e,rfl⟩:=ih;rw[e];simp
     |none=>
      cases r' with
      |nil=>
       simp only at ih;obtain⟨y,e,hy⟩:=ih;rw[e];simp only;rw[if_pos hy]
      |cons a b=>
       simp only at ih;rw[ih]
  ·
   rw[if_neg h1];have hs:cS w true ⟨[],0,[],[],false⟩=none:=by
    unfold cS;rw[if_pos rfl,if_neg h1]
   rw[hs]
theorem xT {w:aF}(h:dU w=true):1≤w.length∧w.length≤64:=by
 cases w with
 |nil=>cases h
 |cons c r=>
  simp_all[dU,Bool.and_eq_true,decide_eq_true_eq]
def bU0 (p:Po):Prop:=eY p=true∧p.r.length≤2∧ ∀r∈p.r,r.b.length≤80∧r.c.length≤80∧r.t.length≤40
def aC2 (ns im:aF)(r:Pr):Bool:=mI r.b ns&&mI r.c im
def bU1 (p:Po)(ns im:aF):Int:=if eY p then match p.r.findIdx? (aC2 ns im)with|some i=>(i:Int)|none=> -1 else-1
theorem bU2 {ns im:aF}(hp:eY p=false):bU1 p ns im= -1:=by
 unfold bU1;rw[if_neg (by rw[hp];simp)]
def aQ5 (n:Int):Nd:=⟨1,0,0,⟨1,n,0,[]⟩⟩
def awT :List Nd:=[⟨4,2,3,rq0⟩,aQ5 1,aQ5 2,aQ5 3]
def awP :Po:=⟨[112],1,[⟨[114],[112,114,111,100,47,42,42],[42],5,awT⟩]⟩
theorem cK5 :dV awT=true:=by decide
theorem cK6 :eY awP=true:=by decide+kernel
theorem bU3 :xL awT [true,false,true]=true:=by decide
theorem bU4 :xL awT [true]=false:=by decide
theorem lT :(jL awT).length=3:=by decide
theorem rX :(tL awT 0).length=3:=by decide
theorem cK7 :bU1 awP [112,114,111,100,47,101,117] [119,101,98]=0:=by decide+kernel
theorem bEq {c d:UInt8}(h:((c.toNat:Int)==(d.toNat:Int))=true):c=d:=by
 have h1:=eq_of_beq h;exact UInt8.toNat_inj.1 (by omega)
theorem bNe {c d:UInt8}(h:((c.toNat:Int)==(d.toNat:Int))=false):c≠d:=by
 intro e;subst e;simp at h
variable {c:UInt8}
theorem aQ6 {l:List UInt8}(h: ¬dQ l c<0):c∈l:=by
 unfold dQ at h;cases e:l.findIdx? (· ==c)with
 |none=>rw[e]at h;simp at h
 |some i=>
  obtain⟨hi,h1,_⟩:=List.findIdx?_eq_some_iff_getElem.1 e;have:=eq_of_beq h1;rw[←this];exact List.getElem_mem hi
theorem uS {l:List UInt8}(h:dQ l c<0):c∉l:=by
 unfold dQ at h;cases e:l.findIdx? (· ==c)with
 |none=>
  intro hc;have:=List.findIdx?_eq_none_iff.1 e c hc;simp at this
 |some i=>rw[e]at h;simp only at h;omega
theorem rY {p:aF}(h:p.length<1∨200<p.length):fL p=none:=by unfold fL;rw[if_pos h]
theorem aH3 {p:aF}(h1:1≤p.length)(h2:p.length≤200):fL p=patP p:=by unfold fL;rw[if_neg (by omega)]
end Go.Pl
