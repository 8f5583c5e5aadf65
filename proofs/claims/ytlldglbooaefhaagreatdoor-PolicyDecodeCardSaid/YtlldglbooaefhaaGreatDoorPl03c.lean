/- Plain Lean: bytes that are compared as numbers; what a search for a byte says. By an AI agent. -/
import Derived.Test.YtlldglbooaefhaaGreatDoorPl11w
import Derived.Test.YtlldglbooaefhaaGreatDoorHzU1
import Derived.Test.YtlldglbooaefhaaGreatDoorHlZb
import Derived.Test.YtlldglbooaefhaaGreatDoorHlTlaw
import Derived.Sort.Grow
import Derived.Sort.EncStr
set_option linter.unusedSimpArgs false
set_option linter.unusedVariables false
set_option linter.defProp false
namespace Go.Pl
open Go Go.Hl
def wd (l:List aF)(i:Nat):aF:=l.getD i []
theorem cE {l:List aF}{i:Nat}(h:i<l.length):nth (l.map CV.str) i= .str (wd l i):=by
 rw[bS h,wd,List.getD_eq_getElem?_getD,List.getElem?_eq_getElem h];rfl
def bS1 (l:List aF)(x:Rt):Option Rt:=
 if l.length=3 then match bK (wd l 2)with|some n=>some {x with q:=x.q++[⟨wd l 1,n⟩]}|none=>none else none
def cO5 (l:List aF)(x:Rt):Option Rt:=
 if l.length<6 then none else match bK (wd l 1),cO4 (wd l 2),bK (wd l 4),bK (wd l 5)with
  |some h,some r,some a,some b=>some {x with k:=x.k++[⟨⟨h,r⟩,wd l 3,l.drop 6,a,b⟩]}
  |_,_,_,_=>none
def cO6 (l:List aF)(x:Rt):Option Rt:=
 if l.length=3 then match cR9 (wd l 1),bK (wd l 2)with|some d,some t=>some {x with x:=x.x++[⟨d,t⟩]}|_,_=>none else none
end Go.Pl
namespace Go.Hl
open Go Go.RowKit Go.Sort Go.Proofs
end Go.Hl
namespace Go.Pl
open Go Go.Hl
def rMid (r:Rt):Prop:=(r.q.length≤12∧ ∀q∈r.q,q.r.length≤300)∧(r.k.length≤32∧ ∀k∈r.k,k.o.length≤300∧k.rs.length≤30∧ ∀w∈k.rs,w.length≤300)∧r.x.length≤65
theorem rMid.sz {r:Rt}(h:rMid r):rSz r:=by
 obtain⟨⟨h1,h2⟩,⟨h3,h4⟩,h5⟩:=h;refine⟨⟨by omega,fun q hq=>by have:=h2 q hq;omega⟩,⟨by omega,fun k hk=>?_⟩,by omega⟩;obtain⟨k1,k2,k3⟩:=h4 k hk;exact⟨by omega,by omega,fun w hw=>by have:=k3 w hw;omega⟩
def aX1 (j:Nat):aF:=([[113,117,111,116,97],[107,101,121],[114,101,118,111,107,101,100]]:List aF).getD j []
def bJ2 (j:Nat)(l:List aF)(x:Rt):Option Rt:=if j=0 then bS1 l x else if j=1 then cO5 l x else cO6 l x
def aP6 (j:Nat):List (List aF)→Rt→Option (List (List aF)×Rt)
 |[],x=>some ([],x)
 |l::ls,x=>if wd l 0=aX1 j then match bJ2 j l x with|some y=>aP6 j ls y|none=>none else some (l::ls,x)
def tL :Nat→Nat→List (List aF)→Rt→Option (List (List aF)×Rt)
 |0,_,ls,x=>some (ls,x)
 |n+1,j,ls,x=>match aP6 j ls x with|some (ls',y)=>tL n (j+1) ls' y|none=>none
section
variable {l0:List aF}{ls:List (List aF)}{x:Rt}
end
variable {x:Rt}{ls:List (List aF)}{j:Nat}
theorem bS2 {l:List aF}{y:Rt}(h:wd l 0=aX1 j)(hy:bJ2 j l x=some y):aP6 j (l::ls) x=aP6 j ls y:=by
 rw[aP6,if_pos h,hy]
theorem bJ3 {l:List aF}(h:wd l 0≠aX1 j):aP6 j (l::ls) x=some (l::ls,x):=by
 rw[aP6,if_neg h]
variable {n:Nat}
theorem bS3 {l:List aF}{y:Rt}(h:wd l 0=aX1 j)(hy:bJ2 j l x=some y):tL (n+1) j (l::ls) x=tL (n+1) j ls y:=by grind[tL,bS2]
theorem bJ4 {l:List aF}(h:wd l 0≠aX1 j):tL (n+1) j (l::ls) x=tL n (j+1) (l::ls) x:=by
 simp only[tL,bJ3 h]
theorem bS4 :tL (n+1) j [] x=tL n (j+1) [] x:=by
 simp only[tL,aP6]
def wOk (l:List aF):Prop:=l≠[]∧l.length≤120∧ ∀w∈l,w.length≤32768
theorem wOk.wd {l:List aF}(h:wOk l)(i:Nat):(wd l i).length≤32768:=by
 unfold Pl.wd;rw[List.getD_eq_getElem?_getD];rcases Nat.lt_or_ge i l.length with h'|h'
 · rw[List.getElem?_eq_getElem h'];exact h.2.2 _ (List.getElem_mem h')
 grind
def rRead (m:Nat)(x:Rt):Prop:=x.q.length+x.k.length+x.x.length≤m∧(∀q∈x.q,q.r.length≤32768)∧ ∀k∈x.k,k.o.length≤32768∧k.rs.length≤120∧ ∀w∈k.rs,w.length≤32768
variable {m:Nat}
theorem bJ5 {l:List aF}{y:Rt}(hl:wOk l)(h:bJ2 j l x=some y)(hx:rRead m x):rRead (m+1) y:=by
 obtain⟨h1,h2,h3⟩:=hx;unfold bJ2 at h;split at h
 ·
  unfold bS1 at h;split at h
  ·
   split at h
   ·
    cases h;refine⟨by grind,fun q hq=>?_,h3⟩;rcases List.mem_append.1 hq with hq|hq
    · grind
    · simp only[List.mem_singleton]at hq;subst hq;exact hl.wd 1
   grind
  grind
 ·
  split at h
  ·
   unfold cO5 at h;split at h
   · cases h
   ·
    split at h
    ·
     cases h;refine⟨by grind,h2,fun k hk=>?_⟩;rcases List.mem_append.1 hk with hk|hk
     · exact h3 k hk
     · simp only[List.mem_singleton]at hk;subst hk;exact⟨hl.wd 3,by show(l.drop 6).length≤120;rw[List.length_drop];have:=hl.2.1;omega,fun w hw=>hl.2.2 w (List.mem_of_mem_drop hw)⟩
    grind
  ·
   unfold cO6 at h;split at h
   ·
    split at h
    · cases h;exact⟨by grind,h2,h3⟩
    grind
   grind
theorem rRead.sz (h:rRead m x)(hm:m≤100000):rSz x:=by
 obtain⟨h1,h2,h3⟩:=h;refine⟨⟨by omega,fun q hq=>by grind⟩,⟨by omega,fun k hk=>?_⟩,by omega⟩;obtain⟨k1,k2,k3⟩:=h3 k hk;exact⟨by omega,by omega,fun w hw=>by grind⟩
def RtSt (ls0:List (List aF))(x0:Rt)(j:Nat)(rest:List (List aF))(x:Rt):Prop:=
 j≤3∧tL 3 0 ls0 x0=tL (3-j) j rest x∧(∀l∈rest,wOk l)∧rest.length≤ls0.length∧rRead (ls0.length-rest.length) x
section
variable {ls0 rest:List (List aF)}{x0 x:Rt}{j:Nat}{l:List aF}
theorem RtSt.init (h: ∀l∈ls0,wOk l)(hx:rRead 0 x0):RtSt ls0 x0 0 ls0 x0:=⟨by omega,rfl,h,Nat.le_refl _,by grind⟩
theorem RtSt.hit {y:Rt}(h:RtSt ls0 x0 j (l::rest) x)(hj:j<3)(hw:wd l 0=aX1 j)(hy:bJ2 j l x=some y):RtSt ls0 x0 j rest y:=by
 obtain⟨h1,h2,h3,h4,h5⟩:=h;obtain⟨n,hn⟩: ∃n,3-j=n+1:=⟨2-j,by omega⟩;simp only[List.length_cons]at h4 h5;refine⟨h1,by rw[h2,hn,bS3 hw hy],fun l hl=>h3 l (List.mem_cons_of_mem _ hl),by omega,?_⟩;have:=bJ5 (h3 l List.mem_cons_self) hy h5;grind
theorem RtSt.next (h:RtSt ls0 x0 j rest x)(hj:j<3)(hw: ∀l ls,rest=l::ls→wd l 0≠aX1 j):RtSt ls0 x0 (j+1) rest x:=by
 obtain⟨h1,h2,h3,h4,h5⟩:=h;obtain⟨n,hn⟩: ∃n,3-j=n+1:=⟨2-j,by omega⟩;have hn2:3-(j+1)=n:=by omega
 refine⟨by omega,?_,h3,h4,h5⟩;rw[h2,hn,hn2];cases rest with
 |nil=>exact bS4
 |cons l ls=>exact bJ4 (hw l ls rfl)
theorem RtSt.fin (h:RtSt ls0 x0 3 rest x):tL 3 0 ls0 x0=some (rest,x):=by rw[h.2.1];rfl
end
variable {b:aF}
theorem aG8 : ∀l∈decO b,wOk l:=by
 intro l hl;unfold decO at hl;split at hl
 ·
  cases hv:gF b with
  |none=>grind
  |some ls=>
   rw[hv]at hl;simp only[Option.getD_some]at hl;unfold gF at hv;split at hv
   · grind
   ·
    split at hv
    ·
     have key: ∀{rs:List aF} {ls:List (List aF)},rs.mapM unR=some ls→ ∀l∈ls,okL l=true:=by
      intro rs;induction rs with
      |nil=>grind
      |cons r rs ih=>
       intro ls h l hl;rw[List.mapM_cons]at h;cases hr:unR r with
       |none=>grind
       |some a=>
        rw[hr]at h;cases hm:rs.mapM unR with
        |none=>grind
        |some m=>
         rw[hm]at h;cases h;rcases List.mem_cons.1 hl with rfl|hl
         ·
          unfold unR at hr;split at hr
          ·
           split at hr
           · rename_i hk;cases hr;exact hk
           · cases hr
          · cases hr
         · exact ih hm l hl
     exact(kM l).1 (key hv l hl)
    grind
 grind
theorem aP7 :(decO b).length≤1000:=by
 unfold decO;split
 · grind[eG,gF]
 · simp
theorem iS :vB=1099511627776:=rfl
theorem xN : ∀(a b:aF) (n m:Nat),dV a n=some m→dV (a++b) n=dV b m
 |[],b,n,m,h=>by simp only[dV,Option.some.injEq]at h;subst h;rfl
 |c::a,b,n,m,h=>by
  simp only[List.cons_append,dV]at h⊢;split at h
  · rename_i hc;rw[if_pos hc];exact xN a b _ _ h
  · cases h
variable {k:Nat}
theorem bC9 (h:k<10):jJ (UInt8.ofNat (48+k))=true∧(UInt8.ofNat (48+k)).toNat-48=k:=by
 have e:(UInt8.ofNat (48+k)).toNat=48+k:=by simp;omega
 rw[jJ,e];exact⟨by simp;omega,by omega⟩
theorem aX2 (u:Nat):dV (Lib.decDigits u) 0=some u:=by
 induction u using Nat.strongRecOn with
 |ind u ih=>
  rw[Lib.decDigits];split
  · rename_i h;obtain⟨h1,h2⟩:=bC9 h;simp only[dV,h1,if_true,h2];simp
  · rw[xN _ _ 0 (u/10) (ih _ (by omega))];obtain⟨h1,h2⟩:=bC9 (k:=u%10) (by omega);simp only[dV,h1,if_true,h2];congr 1;omega
theorem bD0 : ∀(k u:Nat),u<10^(k+1)→(Lib.decDigits u).length≤k+1
 |0,u,h=>by rw[Lib.decDigits,dif_pos (by omega)];simp
 |k+1,u,h=>by
  rw[Lib.decDigits];split
  · simp
  · have:=bD0 k (u/10) (by rw[Nat.pow_succ]at h;omega);simp only[List.length_append,List.length_singleton];omega
theorem bS5 {u:Nat}(h:1≤u): ∃c l,Lib.decDigits u=c::l∧c≠48:=by
 induction u using Nat.strongRecOn with
 |ind u ih=>
  rw[Lib.decDigits];split
  · rename_i hu;refine⟨_,_,rfl,fun hc=>?_⟩;have:=congrArg UInt8.toNat hc;simp at this;omega
  · obtain⟨c,l,h1,h2⟩:=ih (u/10) (by omega) (by omega);exact⟨c,l++[UInt8.ofNat (48+u%10)],by rw[h1];rfl,h2⟩
theorem lN {n:Int}(h0:0≤n)(h1:n≤1099511627776):bK (numW n)=some n:=by
 rw[aP5 h0];have hd:=aX2 n.natAbs;have hl:=bD0 12 n.natAbs (by omega);have hb:fB (Lib.decDigits n.natAbs)=false:=by
  unfold fB;by_cases hz:n.natAbs=0
  · rw[hz,Lib.decDigits_one (by omega)];simp
  ·
   obtain⟨c,l,h2,h3⟩:=bS5 (u:=n.natAbs) (by omega);rw[h2]at hl⊢;have e:((c::l).getD 0 0==(48:UInt8))=false:=by simpa using h3
   rw[e,Bool.and_false,Bool.or_false,Bool.or_eq_false_iff];exact⟨by simp,decide_eq_false (by omega)⟩
 rw[aG4 hb hd (by omega)];congr 1;omega
theorem cC4 (h:iY ls=0):eG (pX ls)=0∧decO (pX ls)=ls:=by
 rw[vK h];unfold iY at h;split at h
 · cases h
 ·
  rename_i h1;split at h
  · rename_i l hl;have:=List.find?_some hl;simp only[Bool.not_eq_true']at this;exact absurd h (bB4 this)
  ·
   rename_i hn;split at h
   · cases h
   ·
    rename_i h2;have hok: ∀l∈ls,okL l=true:=fun l hl=>by
     have:=List.find?_eq_none.1 hn l hl;simpa using this
    have hv:=bI9 hok;have hE:eG (fX ls)=0:=by unfold eG;rw[if_neg h2,hv];simp only;rw[if_neg h1]
    exact⟨hE,by unfold decO;rw[if_pos hE,hv];rfl⟩
def jD (r:Pr):Bool:=dR r.a&&((fJ r.b).isSome&&((fJ r.c).isSome&&(inB r.g 0 vB&&dS r.t)))
def gU :List Pr→Bool
 |[]=>true
 |r::l=>!(l.map Pr.a).contains r.a&&gU l
def eR (p:Po):Bool:=dR p.n&&(inB p.v 1 vB&&(decide (p.r.length≤16)&&(p.r.all jD&&gU p.r)))
theorem nY (l:List Pr)(r:Pr):gU (l++[r])=(gU l&&!(l.map Pr.a).contains r.a):=by
 induction l with
 |nil=>simp[gU]
 |cons x l ih=>
  simp only[List.cons_append,gU,ih,List.map_append,List.map_cons,List.map_nil,List.contains_append,List.contains_cons,List.contains_nil,Bool.or_false];rw[show(x.a==r.a)=(r.a==x.a)from Bool.beq_comm];grind
def bL :aF:=[114,101,108,101,97,115,101,100]
def bH :aF:=[99,104,97,105,110,101,100]
def bO :aF:=[97,112,112,114,111,118,101,100]
def bT :aF:=[114,101,98,117,105,108,116]
def cB :aF:=[108,105,115,116,101,100]
def cO :aF:=[99,108,101,97,110]
def cR :aF:=[102,114,101,115,104]
def bY :aF:=[115,101,116,116,108,101,100]
def eS :aF:=[97,108,108]
def eT :aF:=[97,110,121]
def bQ :aF:=[97,116,108,101,97,115,116]
def wEnd :aF:=[101,110,100]
def wPolicy :aF:=[112,111,108,105,99,121]
def wRule :aF:=[114,117,108,101]
def wlR (q:Rq):List aF:=
 if q.k=1 then [bL,numW q.n]else if q.k=2 then [bH,q.t]else if q.k=3 then [bO,numW q.n]
 else if q.k=4 then [bT,numW q.n,numW q.m]else if q.k=5 then [cB,numW q.n]else if q.k=6 then [cO,numW q.n]
 else if q.k=7 then [cR,numW q.n]else [bY]
def wlN (n:Nd):List aF:=if n.k=2 then [eS]else if n.k=3 then [eT]else [bQ,numW n.n]
def eJ :Nat→Nat→List Nd→List (List aF)
 |0,_,_=>[]
 |_+1,0,_=>[]
 |_+1,_+1,[]=>[]
 |f+1,m+1,n::l=>if n.k=1 then wlR n.q::eJ f m l else wlN n::(eJ f n.c.toNat l++([wEnd]::eJ f m ((skip n.c.toNat l).getD [])))
variable {l:List Nd}
theorem rT {r:List Nd}(h:skip m l=some r):r.length≤l.length:=by
 obtain⟨j,h1,rfl,_,_⟩:=iJ l m r h;grind
theorem gC : ∀(f:Nat) (m:Nat) (l r:List Nd),l.length<f→skip m l=some r→(∀n∈l,cH n=true)→ ∀g,f≤g→eJ g m l=eJ f m l
 |0,_,_,_,h,_,_,_,_=>by omega
 |f+1,0,l,r,_,_,_,g,hg=>by obtain⟨q,rfl⟩: ∃q,g=q+1:=⟨g-1,by omega⟩;cases l<;>rfl
 |f+1,m+1,[],r,_,h,_,_,_=>by cases h
 |f+1,m+1,n::l,r,hf,h,hn,g,hg=>by
  obtain⟨q,rfl⟩: ∃q,g=q+1:=⟨g-1,by omega⟩;have h':skip (m+n.c.toNat) l=some r:=h;have hn': ∀x∈l,cH x=true:=fun x hx=>hn x (List.mem_cons_of_mem _ hx);have hl:l.length<f:=by simpa using hf
  obtain⟨c1,c2,c3,c4⟩:=eI (hn n List.mem_cons_self);simp only[eJ];split
  · rename_i hk;rw[c3 hk]at h';rw[gC f m l r hl (by grind) hn' q (by omega)]
  ·
   rw[Nat.add_comm,fW]at h';cases hs:skip n.c.toNat l with
   |none=>grind
   |some r1=>
    rw[hs]at h';have h2:skip m r1=some r:=h';have hr1:=rT hs;obtain⟨j,_,hj,_,_⟩:=iJ l _ _ hs;rw[gC f _ l r1 hl hs hn' q (by omega),Option.getD_some,gC f m r1 r (by omega) h2 (fun x hx=>hn' x (by grind)) q (by omega)]
theorem nZ : ∀(f:Nat) (a b:Nat) (l r:List Nd),l.length<f→skip a l=some r→(∀n∈l,cH n=true)→ ∀s,skip b r=some s→eJ f (a+b) l=eJ f a l++eJ f b r
 |0,_,_,_,_,h,_,_,_,_=>by omega
 |f+1,0,b,l,r,_,h,_,_,_=>by simp_all[dF,Nat.zero_add,eJ]
 |f+1,a+1,b,[],r,_,h,_,_,_=>by cases h
 |f+1,a+1,b,n::l,r,hf,h,hn,s,hs=>by
  have h':skip (a+n.c.toNat) l=some r:=h;have hn': ∀x∈l,cH x=true:=fun x hx=>hn x (List.mem_cons_of_mem _ hx);have hl:l.length<f:=by simpa using hf
  obtain⟨c1,c2,c3,c4⟩:=eI (hn n List.mem_cons_self);have hrl:=rT h';have hrn: ∀x∈r,cH x=true:=fun x hx=>by grind[iJ,List.mem_of_mem_drop]
  have hfb:eJ (f+1) b r=eJ f b r:=gC f b r s (by omega) hs hrn (f+1) (by omega);rw[show a+1+b=a+b+1 from by omega,hfb];simp only[eJ];split
  · rename_i hk;rw[c3 hk]at h';rw[nZ f a b l r hl (by grind) hn' s hs];rfl
  ·
   rw[Nat.add_comm,fW]at h';cases hs1:skip n.c.toNat l with
   |none=>grind
   |some r1=>
    rw[hs1]at h';have h2:skip a r1=some r:=h';have hr1:=rT hs1;obtain⟨j,_,hj,_,_⟩:=iJ l _ _ hs1;rw[Option.getD_some,nZ f a b r1 r (by omega) h2 (fun x hx=>hn' x (by rw[hj]at hx;exact List.mem_of_mem_drop hx)) s hs];simp
def aX3 (t:List Nd):List (List aF):=eJ (t.length+1) 1 t
def kC (r:Pr):List (List aF):=[wRule,r.a,r.b,r.c,numW r.g]::aX3 r.t
def qA (p:Po):List (List aF):=[wPolicy,p.n,numW p.v]::p.r.flatMap kC
def tM (p:Po):aF:=if eR p then pX (qA p)else []
def yT (p:Po):Int:=if eR p then iY (qA p)else 1
def kD (l:List Nd)(i:Nat):List (List aF):=eJ (l.length+1) 1 (l.drop i)
variable {i:Nat}
theorem xO (hi:i<l.length)(hk:l[i].k=1):kD l i=[wlR l[i].q]:=by
 unfold kD;rw[List.drop_eq_getElem_cons hi,eJ,if_pos hk];cases l.length<;>simp[eJ]
def eP (l:List Nd)(i k:Nat):List (List aF):=eJ (l.length+1) k (l.drop (i+1))
theorem mO (l:List Nd)(i:Nat):eP l i 0=[]:=by unfold eP;cases l.drop (i+1)<;>rfl
theorem uP (ht:IsTree l)(hi:i<l.length)(hk:l[i].k≠1):kD l i=wlN l[i]::(eP l i l[i].c.toNat++[[wEnd]]):=by
 have ha:=(lB ht hi).2.2;rw[List.drop_eq_getElem_cons hi]at ha;have ha':skip (0+l[i].c.toNat) (l.drop (i+1))=some (l.drop (aft l i)):=ha;rw[Nat.zero_add]at ha';have hn': ∀x∈l.drop (i+1),cH x=true:=fun x hx=>ht.node x (List.mem_of_mem_drop hx);unfold kD eP;rw[List.drop_eq_getElem_cons hi];simp only[eJ];rw[if_neg hk,ha',gC l.length _ _ _ (by grind) ha' hn' (l.length+1) (by omega)];have: ∀f (x:List Nd),eJ f 0 x=[]:=fun f x=>by cases f<;>cases x<;>rfl
 grind
theorem rU (ht:IsTree l)(hi:i<l.length)(hk:k<l[i].c.toNat):eP l i (k+1)=eP l i k++kD l (eO l k (i+1)):=by
 have key: ∀k,k≤l[i].c.toNat→skip k (l.drop (i+1))=some (l.drop (eO l k (i+1))):=by
  intro k;induction k with
  |zero=>intro _;rw[dF];rfl
  |succ k ih=>
   grind[fW,gT,lB,nU]
 unfold eP kD;exact nZ _ k 1 _ _ (by grind) (key k (by omega)) (fun x hx=>ht.node x (List.mem_of_mem_drop hx)) _ (lB ht (nU ht hi hk)).2.2
def dD (w:List aF):Option Rq:=
 if w.length=2∧wd w 0=bL then(bK (wd w 1)).map (⟨1,·,0,[]⟩)
 else if w.length=2∧wd w 0=bH then some ⟨2,0,0,wd w 1⟩
 else if w.length=2∧wd w 0=bO then(bK (wd w 1)).map (⟨3,·,0,[]⟩)
 else if w.length=3∧wd w 0=bT then match bK (wd w 1),bK (wd w 2)with|some n,some m=>some ⟨4,n,m,[]⟩|_,_=>none
 else if w.length=2∧wd w 0=cB then(bK (wd w 1)).map (⟨5,·,0,[]⟩)
 else if w.length=2∧wd w 0=cO then(bK (wd w 1)).map (⟨6,·,0,[]⟩)
 else if w.length=2∧wd w 0=cR then(bK (wd w 1)).map (⟨7,·,0,[]⟩)
 else if w.length=1∧wd w 0=bY then some ⟨8,0,0,[]⟩else none
def dW (w:List aF):Option Nd:=
 if w.length=1∧wd w 0=eS then some ⟨2,0,0,rq0⟩else if w.length=1∧wd w 0=eT then some ⟨3,0,0,rq0⟩
 else if w.length=2∧wd w 0=bQ then(bK (wd w 1)).map (⟨4,·,0,rq0⟩)else none
def eH (w:List aF):Bool:=w.length==1&&wd w 0==wEnd
mutual
def rdN :Nat→List (List aF)→Option (List Nd)×List (List aF)
 |0,ls=>(none,ls)
 |_+1,[]=>(none,[])
 |f+1,w::r=>match dD w with
  |some q=>(some [⟨1,0,0,q⟩],r)
  |none=>match dW w with
   |none=>(none,w::r)
   |some n=>match rdK f r with
    |(none,r')=>(none,r')
    |(some (ts,c),r')=>(some ({n with c:=c}::ts),r')
def rdK :Nat→List (List aF)→Option (List Nd×Int)×List (List aF)
 |0,ls=>(none,ls)
 |f+1,ls=>if eH (ls.headD [])then(some ([],0),ls.tail)else match rdN f ls with
  |(none,r)=>(none,r)
  |(some t,r)=>match rdK f r with
   |(none,r')=>(none,r')
   |(some (ts,c),r')=>(some (t++ts,c+1),r')
end
def rdT (ls:List (List aF)):Option (List Nd)×List (List aF):=rdN (2*ls.length+2) ls
def rdR (ls:List (List aF)):Option Pr×List (List aF):=match ls with
 |[]=>(none,[])
 |w::r=>if w.length=5∧wd w 0=wRule then match bK (wd w 4)with
   |none=>(none,w::r)
   |some g=>match rdT r with|(none,r')=>(none,r')|(some t,r')=>(some ⟨wd w 1,wd w 2,wd w 3,g,t⟩,r')
  else(none,w::r)
def jL :Nat→List (List aF)→List Pr→Option (List Pr)×List (List aF)
 |0,ls,_=>(none,ls)
 |f+1,ls,a=>if ls=[]then(some a,[])else match rdR ls with
  |(none,r)=>(none,r)
  |(some x,r)=>jL f r (a++[x])
def rdP (ls:List (List aF)):Option Po×List (List aF):=match ls with
 |[]=>(none,[])
 |w::r=>if w.length=3∧wd w 0=wPolicy then match bK (wd w 2)with
   |none=>(none,w::r)
   |some v=>match jL (r.length+1) r []with|(none,r')=>(none,r')|(some l,r')=>(some ⟨wd w 1,v,l⟩,r')
  else(none,w::r)
def dpE (b:aF):Int:=if eG b≠0 then eG b else match(rdP (decO b)).1 with|none=>2|some p=>if eR p then 0 else 1
def dpL (b:aF):Nat:=if eG b≠0 then 0 else match rdP (decO b)with|(none,r)=>(decO b).length-r.length|(some _,_)=>0
def po0 :Po:=⟨[],0,[]⟩
def dpO (b:aF):Po:=if dpE b=0 then((rdP (decO b)).1).getD po0 else po0
theorem uQ : ∀(a:aF) (c:UInt8) (n k:Nat),dV (a++[c]) n=some k→ ∃k',dV a n=some k'∧jJ c=true∧k=10*k'+(c.toNat-48)
 |[],c,n,k,h=>by
  simp only[List.nil_append,dV]at h;split at h
  · rename_i hc;cases h;exact⟨n,rfl,hc,rfl⟩
  · cases h
 |b::a,c,n,k,h=>by
  simp only[List.cons_append,dV]at h⊢;split at h
  · rename_i hb;rw[if_pos hb];exact uQ a c _ k h
  · cases h
theorem bD1 : ∀(m:Nat) (s:aF) (k:Nat),s.length≤m→s≠[]→(1<s.length→s.head? ≠some 48)→dV s 0=some k→Lib.decDigits k=s
 |0,s,_,hm,h0,_,_=>absurd (List.eq_nil_of_length_eq_zero (by omega)) h0
 |m+1,s,k,hm,h0,h1,h=>by
  obtain⟨a,c,rfl⟩: ∃a c,s=a++[c]:=⟨s.dropLast,s.getLast h0,(List.dropLast_concat_getLast h0).symm⟩;obtain⟨k',hk',hc,rfl⟩:=uQ a c 0 k h;simp only[jJ,Bool.and_eq_true,decide_eq_true_eq]at hc;have hcc:UInt8.ofNat (48+(c.toNat-48))=c:=by
   refine UInt8.toNat_inj.1 ?_;rw[UInt8.toNat_ofNat'];omega
  by_cases ha:a=[]
  · subst ha;simp only[dV,Option.some.injEq]at hk';subst hk';rw[Lib.decDigits_one (by omega)];grind
  ·
   have hlen:1<(a++[c]).length:=by
    have:=List.length_pos_iff.2 ha;simp;omega
   have hh:(a++[c]).head? =a.head? :=by
    cases a with
    |nil=>grind
    |cons x a=>rfl
   have ih:=bD1 m a k' (by grind) ha (fun _=>by grind) hk';have hk0:k'≠0:=by
    rintro rfl;rw[Lib.decDigits_one (by omega)]at ih;have:=h1 hlen;rw[hh,←ih]at this;exact this rfl
   rw[Lib.decDigits,dif_neg (by omega),show(10*k'+(c.toNat-48))/10=k' from by omega,ih,show 48+(10*k'+(c.toNat-48))%10=48+(c.toNat-48)from by omega,hcc]
theorem lO {s:aF}{n:Int}(h:bK s=some n):numW n=s:=by
 have hr:=jZ h;unfold bK at h;split at h
 · cases h
 ·
  rename_i hb;have hb':fB s=false:=by simpa using hb
  simp only[fB,Bool.or_eq_false_iff,decide_eq_false_iff_not,Bool.and_eq_false_iff,beq_eq_false_iff_ne]at hb';split at h
  ·
   rename_i k hk;split at h
   · cases h
   · cases h;rw[aP5 hr.1];refine bD1 s.length s _ (Nat.le_refl _) (fun e=>by grind) (fun hl=>?_) (by grind);grind[List.head?_eq_getElem?]
  grind
variable {w:List aF}
theorem cC5 (h:w.length=1):w=[wd w 0]:=by
 match w,h with
 |[a],_=>rfl
theorem cJ4 (h:w.length=2):w=[wd w 0,wd w 1]:=by
 match w,h with
 |[a,b],_=>rfl
theorem cO7 (h:w.length=3):w=[wd w 0,wd w 1,wd w 2]:=by
 match w,h with
 |[a,b,c],_=>rfl
theorem cS0 (h:w.length=5):w=[wd w 0,wd w 1,wd w 2,wd w 3,wd w 4]:=by
 match w,h with
 |[a,b,c,d,e],_=>rfl
variable {q:Rq}
theorem bS6 (h:dD w=some q):wlR q=w:=by
 have num: ∀{k:Int} {nm:aF},(∀n:Int,wlR ⟨k,n,0,[]⟩=[nm,numW n])→w.length=2∧wd w 0=nm→(bK (wd w 1)).map (⟨k,·,0,[]⟩)=some q→wlR q=w:=by
  intro k nm h1 h2 h3;cases hv:bK (wd w 1)with
  |none=>grind
  |some n=>
   grind[lO,cJ4]
 unfold dD at h;split at h
 · rename_i h1;exact num (fun n=>rfl) h1 h
 split at h
 · rename_i h1;cases h;rw[cJ4 h1.1,h1.2];rfl
 split at h
 · rename_i h1;exact num (fun n=>rfl) h1 h
 split at h
 ·
  rename_i h1;split at h
  · rename_i n m hn hm;cases h;show [bT,numW n,numW m]=w;grind[lO,cO7]
  grind
 split at h
 · rename_i h1;exact num (fun n=>rfl) h1 h
 split at h
 · rename_i h1;exact num (fun n=>rfl) h1 h
 split at h
 · rename_i h1;exact num (fun n=>rfl) h1 h
 split at h
 · rename_i h1;cases h;rw[cC5 h1.1,h1.2];rfl
 grind
theorem aP8 {n:Nd}(h:dW w=some n)(c:Int):wlN {n with c:=c}=w∧n.k≠1:=by
 unfold dW at h;split at h
 · rename_i h1;cases h;exact⟨by rw[cC5 h1.1,h1.2];rfl,by decide⟩
 split at h
 · rename_i h1;cases h;exact⟨by rw[cC5 h1.1,h1.2];rfl,by decide⟩
 split at h
 ·
  rename_i h1;cases hv:bK (wd w 1)with
  |none=>grind
  |some m=>
   rw[hv]at h;cases h;refine⟨?_,by grind⟩;show [bQ,numW m]=w;grind[lO,cJ4]
 grind
theorem kR : ∀(t x r:List Nd) (m:Nat),skip m t=some r→skip m (t++x)=some (r++x)
 |t,x,r,0,h=>by grind[dF]
 |[],x,r,m+1,h=>by cases h
 |n::t,x,r,m+1,h=>by
  have h':skip (m+n.c.toNat) t=some r:=h;exact kR t x r _ h'
theorem gZ : ∀(f m:Nat) (t x r:List Nd),(t++x).length<f→skip m t=some r→(∀n∈t,cH n=true)→eJ f m (t++x)=eJ f m t
 |0,_,_,_,_,h,_,_=>by omega
 |f+1,0,t,x,r,_,_,_=>by cases t<;>cases x<;>rfl
 |f+1,m+1,[],x,r,_,h,_=>by cases h
 |f+1,m+1,n::t,x,r,hf,h,hn=>by
  have h':skip (m+n.c.toNat) t=some r:=h;have hn': ∀y∈t,cH y=true:=fun y hy=>hn y (List.mem_cons_of_mem _ hy);have hl:(t++x).length<f:=by simpa using hf
  obtain⟨c1,c2,c3,c4⟩:=eI (hn n List.mem_cons_self);simp only[List.cons_append,eJ];split
  · rename_i hk;rw[c3 hk]at h';rw[gZ f m t x r hl (by grind) hn']
  ·
   rw[Nat.add_comm,fW]at h';cases hs:skip n.c.toNat t with
   |none=>grind
   |some r1=>
    rw[hs]at h';have h2:skip m r1=some r:=h';obtain⟨j,_,hj,_,_⟩:=iJ t _ _ hs;have hr1:=rT hs;rw[gZ f _ t x r1 hl hs hn',kR t x r1 _ hs,Option.getD_some,Option.getD_some,
     gZ f m r1 x r (by grind) h2 (fun y hy=>hn' y (by grind))]
theorem aB7 (h:eH w=true):w=[wEnd]:=by
 unfold eH at h;simp only[Bool.and_eq_true,beq_iff_eq]at h;rw[cC5 h.1,h.2]
theorem bS7 : ∀(f:Nat),(∀ls t r,rdN f ls=(some t,r)→(∀n∈t,cH n=true)→skip 1 t=some []∧ls=eJ (t.length+1) 1 t++r)∧
  (∀ls ts c r,rdK f ls=(some (ts,c),r)→(∀n∈ts,cH n=true)→0≤c∧skip c.toNat ts=some []∧ls=eJ (ts.length+1) c.toNat ts++([wEnd]::r))
 |0=>⟨fun ls t r h _=>(by grind[rdN]),fun ls ts c r h _=>(by grind[rdK])⟩
 |f+1=>by
  obtain⟨ihN,ihK⟩:=bS7 f;have z0: ∀f (x:List Nd),eJ f 0 x=[]:=fun f x=>by cases f<;>cases x<;>rfl
  refine⟨fun ls t r h hn=>?_,fun ls ts c r h hn=>?_⟩
  ·
   cases ls with
   |nil=>grind[rdN]
   |cons w rest=>
    simp only[rdN]at h;split at h
    · rename_i q hq;cases h;refine⟨rfl,?_⟩;simp only[List.length_singleton,eJ];rw[if_pos trivial,bS6 hq];grind
    ·
     split at h
     · cases h
     ·
      rename_i n hin;cases hk:rdK f rest with
      |mk o r'=>
       rw[hk]at h;cases o with
       |none=>cases h
       |some p=>
        obtain⟨ts,c⟩:=p;simp only[Prod.mk.injEq,Option.some.injEq]at h;obtain⟨rfl,rfl⟩:=h;obtain⟨g1,g2,g3⟩:=ihK _ _ _ _ hk fun x hx=>hn x (List.mem_cons_of_mem _ hx);obtain⟨e1,e2⟩:=aP8 hin c;refine⟨?_,?_⟩
        · show skip (0+c.toNat) ts=some [];rw[Nat.zero_add];exact g2
        · simp only[List.length_cons,eJ];rw[if_neg e2,e1,g3];simp[z0]
  ·
   simp only[rdK]at h;split at h
   ·
    rename_i he;cases h;cases ls with
    |nil=>simp[eH]at he
    |cons w rest=>
     have:=aB7 he;simp only[List.headD_cons]at this;subst this;exact⟨by omega,rfl,rfl⟩
   ·
    cases h1:rdN f ls with
    |mk o r1=>
     rw[h1]at h;cases o with
     |none=>cases h
     |some t=>
      simp only at h;cases h2:rdK f r1 with
      |mk o2 r2=>
       rw[h2]at h;cases o2 with
       |none=>cases h
       |some p=>
        obtain⟨ts2,c2⟩:=p;simp only[Prod.mk.injEq,Option.some.injEq]at h;obtain⟨⟨rfl,rfl⟩,rfl⟩:=h;obtain⟨a1,a2⟩:=ihN _ _ _ h1 fun x hx=>hn x (List.mem_append_left _ hx);have hn2: ∀n∈ts2,cH n=true:=fun x hx=>hn x (List.mem_append_right _ hx);obtain⟨b1,b2,b3⟩:=ihK _ _ _ _ h2 hn2;have e:(c2+1).toNat=1+c2.toNat:=by omega
        have s1:=kR t ts2 [] 1 a1;rw[List.nil_append]at s1;refine⟨by omega,?_,?_⟩
        · rw[e,fW,s1];exact b2
        ·
         rw[a2,b3,e,nZ ((t++ts2).length+1) 1 c2.toNat (t++ts2) ts2 (Nat.lt_succ_self _) s1 hn _ b2,
          gZ _ 1 t ts2 [] (Nat.lt_succ_self _) a1 (fun x hx=>hn x (List.mem_append_left _ hx)),
          gC (t.length+1) 1 t [] (by omega) a1 (fun x hx=>hn x (List.mem_append_left _ hx)) ((t++ts2).length+1) (by simp),
          gC (ts2.length+1) _ ts2 [] (by omega) b2 hn2 ((t++ts2).length+1) (by simp)]
         simp
theorem cC6 {r:List (List aF)}{x:Pr}(h:rdR ls=(some x,r))(hv:dS x.t=true):ls=kC x++r∧r.length<ls.length:=by
 cases ls with
 |nil=>grind[rdR]
 |cons w rest=>
  simp only[rdR]at h;split at h
  ·
   rename_i h1;split at h
   · cases h
   ·
    rename_i g hg;cases ht:rdT rest with
    |mk o r'=>
     rw[ht]at h;cases o with
     |none=>cases h
     |some t=>
      simp only[Prod.mk.injEq,Option.some.injEq]at h;obtain⟨rfl,rfl⟩:=h;obtain⟨-,g2⟩:=(bS7 _).1 _ _ _ ht (lJ hv).node;have hw:=cS0 h1.1;rw[h1.2]at hw;refine⟨?_,?_⟩
      · show w::rest=([wRule,wd w 1,wd w 2,wd w 3,numW g]::aX3 t)++r';rw[lO hg,←hw,g2];rfl
      grind
  grind
theorem aP9 : ∀(f:Nat) (ls:List (List aF)) (a l:List Pr) (r:List (List aF)),jL f ls a=(some l,r)→(∀x∈l,dS x.t=true)→ ∃m,l=a++m∧ls=m.flatMap kC∧r=[]
 |0,ls,a,l,r,h,_=>by grind[jL]
 |f+1,ls,a,l,r,h,hv=>by
  simp only[jL]at h;split at h
  · simp_all
  ·
   cases hr:rdR ls with
   |mk o r1=>
    rw[hr]at h;cases o with
    |none=>cases h
    |some x=>
     obtain⟨m,rfl,hm,hr0⟩:=aP9 f r1 (a++[x]) l r h hv;obtain⟨g1,g2⟩:=cC6 hr (hv x (by simp));grind
variable {p:Po}
theorem cC7 {r:List (List aF)}(h:rdP ls=(some p,r))(hv:eR p=true):ls=qA p:=by
 have ht: ∀x∈p.r,dS x.t=true:=fun x hx=>by simp_all[eR,Bool.and_eq_true,List.all_eq_true,jD]
 cases ls with
 |nil=>grind[rdP]
 |cons w rest=>
  simp only[rdP]at h;split at h
  ·
   rename_i h1;split at h
   · cases h
   ·
    rename_i v hg;cases hr:jL (rest.length+1) rest []with
    |mk o r'=>
     rw[hr]at h;cases o with
     |none=>cases h
     |some l=>
      simp only[Prod.mk.injEq,Option.some.injEq]at h;obtain⟨rfl,rfl⟩:=h;obtain⟨m,rfl,hm,-⟩:=aP9 _ _ _ _ _ hr ht;have hw:=cO7 h1.1;rw[h1.2]at hw;show w::rest=[wPolicy,wd w 1,numW v]::_;rw[lO hg,←hw,hm]
  grind
theorem bS8 (h:eG b=0):iY (decO b)=0∧pX (decO b)=b:=by
 have hO:decO b=(gF b).getD []:=by unfold decO;grind
 unfold eG at h;split at h
 · cases h
 ·
  rename_i hb;cases hv:gF b with
  |none=>grind
  |some ls=>
   rw[hv]at h hO;simp only at h;split at h
   · cases h
   ·
    rename_i hl;rw[hO,Option.getD_some];by_cases hne:b=[]
    · grind[gF,iY,fX,pX]
    ·
     have hlast: ∃m,b=m++[10]:=by
      unfold gF at hv;rw[if_neg hne]at hv;split at hv
      · grind[kQ]
      · grind
     obtain⟨m,rfl⟩:=hlast;rw[oY]at hv;cases hu:(aS 10 m).mapM unL with
     |none=>grind[pO]
     |some ls'=>
      rw[aP4 hu]at hv;split at hv
      ·
       rename_i hall;cases hv;have hd:=aB6 hu;have hE:iY ls=0:=by simp_all[vJ,List.all_eq_true,if_neg]
       grind[vK]
      grind
theorem cJ5 {r:List (List aF)}(h0:eG b=0)(h:rdP (decO b)=(some p,r)):(yT p=0∧tM p=b)↔eR p=true:=by
 constructor
 · grind[yT]
 · intro hv;have hl:=cC7 h hv;obtain⟨e1,e2⟩:=bS8 h0;simp_all[yT,tM,if_pos]
theorem oZ {n a b:Int}:inB n a b=true↔a≤n∧n≤b:=by unfold inB;simp
theorem bS9 (h:eV q=true):dD (wlR q)=some q:=by
 obtain⟨k,n,m,t⟩:=q;have hv: ∀{a b:Int},inB n a b=true→0≤a→b≤1099511627776→bK (numW n)=some n:=fun h h1 h2=>by grind[oZ,lN]
 unfold eV at h;simp only at h;split at h
 ·
  rename_i h1;simp only[Bool.and_eq_true,beq_iff_eq]at h;obtain⟨h2,rfl,rfl⟩:=h;have hn:=hv h2 (by omega) (by omega);rcases h1 with rfl|rfl|rfl
  · show(bK (numW n)).map _=_;grind
  · show(bK (numW n)).map _=_;grind
  · show(bK (numW n)).map _=_;grind
 split at h
 · rename_i h1;subst h1;simp only[Bool.and_eq_true,beq_iff_eq]at h;obtain⟨h2,h3,rfl⟩:=h;have hn:=hv h2 (by omega) (by omega);rw[oZ]at h3;have hm:bK (numW m)=some m:=lN (by omega) (by omega);show(match bK (numW n),bK (numW m)with|some n,some m=>some (⟨4,n,m,[]⟩:Rq)|_,_=>none)=_;grind
 split at h
 · rename_i h1;subst h1;simp only[Bool.and_eq_true,beq_iff_eq]at h;obtain⟨-,rfl,rfl⟩:=h;rfl
 split at h
 · rename_i h1;subst h1;simp only[Bool.and_eq_true,beq_iff_eq]at h;obtain⟨h2,rfl,rfl⟩:=h;have hn:=hv h2 (by omega) (by omega);show(bK (numW n)).map _=_;grind
 split at h
 · rename_i h1;subst h1;simp only[Bool.and_eq_true,beq_iff_eq]at h;obtain⟨h2,rfl,rfl⟩:=h;have hn:=hv h2 (by omega) (by rw[iS];omega);show(bK (numW n)).map _=_;grind
 split at h
 · rename_i h1;subst h1;simp only[Bool.and_eq_true,beq_iff_eq]at h;obtain⟨rfl,rfl,rfl⟩:=h;rfl
 grind
theorem bT0 {n:Nd}(h:cH n=true)(hk:n.k≠1):dW (wlN n)=some {n with c:=0}∧dD (wlN n)=none:=by
 obtain⟨k,a,c,q⟩:=n;unfold cH at h;simp only at h hk;rw[if_neg hk]at h;split at h
 · rename_i h1;simp only[Bool.and_eq_true,beq_iff_eq,qY]at h;obtain⟨-,rfl,rfl⟩:=h;rcases h1 with rfl|rfl<;>exact⟨rfl,rfl⟩
 split at h
 · rename_i h1;subst h1;simp only[Bool.and_eq_true,qY,oZ]at h;obtain⟨⟨c1,c2⟩,rfl,a1,a2⟩:=h;refine⟨?_,rfl⟩;show(bK (numW a)).map _=_;grind[lN]
 grind
theorem xP {r:List Nd}(h:skip m l=some r): ∃t,l=t++r∧skip m t=some []:=by
 induction l generalizing m with
 |nil=>
  cases m with
  |zero=>rw[dF]at h;cases h;exact⟨[],rfl,rfl⟩
  |succ m=>cases h
 |cons n l ih=>
  cases m with
  |zero=>rw[dF]at h;cases h;exact⟨[],rfl,rfl⟩
  |succ m=>
   obtain⟨t,h1,h2⟩:=ih (m:=m+n.c.toNat) h;exact⟨n::t,by rw[h1];rfl,h2⟩
theorem aX4 {n:Nd}(h:cH n=true)(hk:n.k≠1):eH (wlN n)=false:=by
 unfold wlN;split
 · rfl
 ·
  split
  · rfl
  · rfl
theorem aX5 (q:Rq):eH (wlR q)=false:=by
 unfold wlR
 repeat' split
 all_goals rfl
theorem bT1 : ∀(f:Nat),(∀t rest,skip 1 t=some []→(∀n∈t,cH n=true)→2*t.length≤f→rdN f (eJ (t.length+1) 1 t++rest)=(some t,rest))∧
  (∀ts c rest,skip c ts=some []→(∀n∈ts,cH n=true)→2*ts.length+1≤f→rdK f (eJ (ts.length+1) c ts++([wEnd]::rest))=(some (ts,(c:Int)),rest))
 |0=>⟨fun t rest h _ hf=>(by
   have:t=[]:=List.eq_nil_of_length_eq_zero (by omega);subst this;cases h),fun ts c rest _ _ hf=>by omega⟩
 |f+1=>by
  obtain⟨ihN,ihK⟩:=bT1 f;have z0: ∀f (x:List Nd),eJ f 0 x=[]:=fun f x=>by cases f<;>cases x<;>rfl
  refine⟨fun t rest h hn hf=>?_,fun ts c rest h hn hf=>?_⟩
  ·
   cases t with
   |nil=>cases h
   |cons n ts=>
    have hnn:=hn n List.mem_cons_self;have hn': ∀x∈ts,cH x=true:=fun x hx=>hn x (List.mem_cons_of_mem _ hx);have h':skip (0+n.c.toNat) ts=some []:=h;rw[Nat.zero_add]at h';obtain⟨c1,c2,c3,c4⟩:=eI hnn;simp only[List.length_cons,eJ];by_cases hk:n.k=1
    ·
     rw[if_pos hk];rw[c3 hk]at h';have:ts=[]:=by
      cases ts with
      |nil=>rfl
      |cons a b=>grind[skip,dF]
     subst this;have hq:eV n.q=true∧n.n=0:=by
      unfold cH at hnn;rw[if_pos hk]at hnn;simp only[Bool.and_eq_true,beq_iff_eq]at hnn;exact⟨hnn.2.2,hnn.2.1⟩
     simp only[List.cons_append,List.nil_append,rdN,bS9 hq.1];obtain⟨k,a,c,q⟩:=n;simp only at hk hq c3;rw[hk,hq.2,c3 hk]
    ·
     rw[if_neg hk];obtain⟨e1,e2⟩:=bT0 hnn hk;have:=ihK ts n.c.toNat rest h' hn' (by grind);simp only[List.cons_append,List.append_assoc,List.nil_append,rdN,e2,e1,this];have:((n.c.toNat:Nat):Int)=n.c:=by omega
     rw[this]
  ·
   cases c with
   |zero=>
    rw[dF]at h;cases h;rw[z0];simp only[List.nil_append,rdK,List.headD_cons,show eH [wEnd]=true from rfl,if_true,List.tail_cons];rfl
   |succ c=>
    rw[Nat.add_comm,fW]at h;cases h1:skip 1 ts with
    |none=>grind
    |some r=>
     rw[h1]at h;have h2:skip c r=some []:=h;obtain⟨t,rfl,ht⟩:=xP h1;have hnt: ∀x∈t,cH x=true:=fun x hx=>hn x (List.mem_append_left _ hx);have hnr: ∀x∈r,cH x=true:=fun x hx=>hn x (List.mem_append_right _ hx);have ht1:1≤t.length:=by
      cases t with
      |nil=>cases ht
      |cons _ _=>simp
     simp only[List.length_append]at hf;have e:eJ ((t++r).length+1) (c+1) (t++r)=eJ (t.length+1) 1 t++eJ (r.length+1) c r:=by
      rw[Nat.add_comm c 1,nZ _ 1 c (t++r) r (Nat.lt_succ_self _) h1 hn _ h2,gZ _ 1 t r [] (Nat.lt_succ_self _) ht hnt,
       gC (t.length+1) 1 t [] (by omega) ht hnt ((t++r).length+1) (by simp),gC (r.length+1) c r [] (by omega) h2 hnr ((t++r).length+1) (by simp)]
     rw[e,List.append_assoc];have a1:=ihN t (eJ (r.length+1) c r++[wEnd]::rest) ht hnt (by omega);have a2:=ihK r c rest h2 hnr (by omega);have hne:eH ((eJ (t.length+1) 1 t++(eJ (r.length+1) c r++[wEnd]::rest)).headD [])=false:=by
      cases t with
      |nil=>cases ht
      |cons n t=>
       simp only[List.length_cons,eJ];split
       · exact aX5 _
       · rename_i hk;exact aX4 (hnt n List.mem_cons_self) hk
     simp only[rdK];rw[hne];simp only[Bool.false_eq_true,if_false,a1,a2];have:((c:Nat):Int)+1=((c+1:Nat):Int):=by omega
     rw[this]
theorem vM : ∀(f m:Nat) (l:List Nd),l.length<f→skip m l=some []→(∀n∈l,cH n=true)→l.length≤(eJ f m l).length
 |0,_,_,h,_,_=>by omega
 |f+1,m,[],_,_,_=>by simp
 |f+1,0,n::l,_,h,_=>by rw[dF]at h;cases h
 |f+1,m+1,n::l,hf,h,hn=>by
  have h':skip (m+n.c.toNat) l=some []:=h;have hn': ∀y∈l,cH y=true:=fun y hy=>hn y (List.mem_cons_of_mem _ hy);have hl:l.length<f:=by simpa using hf
  obtain⟨c1,c2,c3,c4⟩:=eI (hn n List.mem_cons_self);simp only[eJ];split
  · rename_i hk;rw[c3 hk]at h';have:=vM f m l hl (by simpa using h') hn';simp only[List.length_cons];omega
  ·
   rw[Nat.add_comm,fW]at h';cases hs:skip n.c.toNat l with
   |none=>rw[hs]at h';cases h'
   |some r1=>
    rw[hs]at h';have h2:skip m r1=some []:=h';obtain⟨t,rfl,ht⟩:=xP hs;simp only[List.length_append]at hl;have hnt: ∀x∈t,cH x=true:=fun x hx=>hn' x (List.mem_append_left _ hx);have a1:=vM f _ t (by omega) ht hnt;have a2:=vM f m r1 (by omega) h2 (fun x hx=>hn' x (List.mem_append_right _ hx));rw[Option.getD_some,gZ f _ t r1 [] (by simp;omega) ht hnt];simp only[List.length_cons,List.length_append];omega
variable {t:List Nd}
theorem cC8 (h:IsTree t)(rest:List (List aF)):rdT (aX3 t++rest)=(some t,rest):=by
 have:=vM (t.length+1) 1 t (by omega) h.skip h.node;exact(bT1 _).1 t rest h.skip h.node (by simp only[aX3,List.length_append];omega)
theorem lP {r:Pr}(h:jD r=true):(0≤r.g∧r.g≤1099511627776)∧IsTree r.t∧dR r.a=true∧(fJ r.b).isSome=true∧(fJ r.c).isSome=true:=by
 unfold jD at h;simp only[Bool.and_eq_true,oZ]at h;obtain⟨h1,h2,h3,⟨h4,h5⟩,h6⟩:=h;rw[iS]at h5;exact⟨⟨h4,h5⟩,lJ h6,h1,h2,h3⟩
theorem cC9 {r:Pr}(h:jD r=true)(rest:List (List aF)):rdR (kC r++rest)=(some r,rest):=by
 obtain⟨⟨g0,g1⟩,ht,-⟩:=lP h;show rdR ([wRule,r.a,r.b,r.c,numW r.g]::(aX3 r.t++rest))=_;unfold rdR;simp only;rw[if_pos ⟨rfl,rfl⟩];have:bK (wd [wRule,r.a,r.b,r.c,numW r.g] 4)=some r.g:=lN g0 g1;rw[this];simp only;rw[cC8 ht];rfl
theorem aQ0 : ∀(l a:List Pr) (f:Nat),(∀r∈l,jD r=true)→l.length<f→jL f (l.flatMap kC) a=(some (a++l),[])
 |[],a,f,_,hf=>by
  obtain⟨g,rfl⟩: ∃g,f=g+1:=⟨f-1,by simp at hf;omega⟩;simp[jL]
 |r::l,a,f,h,hf=>by
  obtain⟨g,rfl⟩: ∃g,f=g+1:=⟨f-1,by simp at hf;omega⟩;simp only[List.flatMap_cons,jL];rw[if_neg (by simp[kC]),cC9 (h r List.mem_cons_self)];simp only;rw[aQ0 l (a++[r]) g (fun x hx=>h x (List.mem_cons_of_mem _ hx)) (by simp at hf;omega)];simp
theorem bD2 : ∀l:List Pr,l.length≤(l.flatMap kC).length
 |[]=>by simp
 |r::l=>by have:=bD2 l;simp[kC]at this⊢;omega
theorem vN (h:eR p=true):(1≤p.v∧p.v≤1099511627776)∧p.r.length≤16∧dR p.n=true∧ ∀r∈p.r,jD r=true:=by
 unfold eR at h;simp only[Bool.and_eq_true,oZ,decide_eq_true_eq,List.all_eq_true]at h;obtain⟨h1,⟨h2,h3⟩,h4,h5,-⟩:=h;rw[iS]at h3;exact⟨⟨h2,h3⟩,h4,h1,h5⟩
theorem cD0 (h:eR p=true):rdP (qA p)=(some p,[]):=by
 obtain⟨⟨v0,v1⟩,-,-,hr⟩:=vN h;show rdP ([wPolicy,p.n,numW p.v]::p.r.flatMap kC)=_;unfold rdP;simp only;rw[if_pos ⟨rfl,rfl⟩];have:bK (wd [wPolicy,p.n,numW p.v] 2)=some p.v:=lN (by omega) v1;rw[this];simp only;rw[aQ0 p.r [] _ hr (by have:=bD2 p.r;omega)];rfl
theorem bJ6 (h:yT p=0):dpE (tM p)=0∧dpO (tM p)=p∧dpL (tM p)=0:=by
 have hv:eR p=true:=by
  unfold yT at h;split at h
  · assumption
  · cases h
 have he:iY (qA p)=0:=by unfold yT at h;rw[if_pos hv]at h;exact h
 have hb:tM p=pX (qA p):=by unfold tM;rw[if_pos hv]
 obtain⟨h1,h2⟩:=cC4 he;have hr:=cD0 hv;rw[hb];have hE:dpE (pX (qA p))=0:=by unfold dpE;rw[if_neg (by rw[h1];simp),h2,hr];simp only;rw[if_pos hv]
 exact⟨hE,by unfold dpO;rw[if_pos hE,h2,hr];rfl,by unfold dpL;rw[if_neg (by rw[h1];simp),h2,hr]⟩
theorem bD3 : ∀(l:List Nd) (m:Nat) (v:Int),skip m l=some []→(∀n∈l,cH n=true)→qZ l m v=some (0,v+lv l)
 |[],0,v,_,_=>by simp[qZ,lv]
 |[],m+1,v,h,_=>by cases h
 |n::l,0,v,h,_=>by grind[dF]
 |n::l,m+1,v,h,hn=>by
  have h':skip (m+n.c.toNat) l=some []:=h;have hnn:=hn n List.mem_cons_self;obtain⟨c1,c2,c3,c4⟩:=eI hnn;have e:((m+1:Nat):Int)+(n.c-1)=((m+n.c.toNat:Nat):Int):=by omega
  rw[qZ,if_neg (by omega),if_pos hnn,e,bD3 l _ _ h' (fun x hx=>hn x (List.mem_cons_of_mem _ hx)),lv];grind
theorem bT2 (h:IsTree l):dS l=true:=by
 unfold dS;have:=bD3 l 1 0 h.skip h.node;rw[show((1:Nat):Int)=1 from rfl]at this;rw[this];have:=h.lv;simp[h.ne,h.len];omega
def uni (l:List (Nat×Nat)):List (Nat×Nat):=l.eraseDups
def xQ (f:Nat→List (Nat×Nat)):Nat→Nat→Nat×Nat→List (Nat×Nat)
 |0,_,p=>[p]
 |c+1,n,p=>uni ((f n).flatMap fun q=>xQ f c (n+q.1) (p.1+q.1,p.2+q.2))
def pos :Nat→Nat→List (Nat×Nat)
 |0,_=>[(1,1)]
 |d+1,n=>uni ((1,1)::if n≤8 then(List.range 3).flatMap fun c=>xQ (pos d) (c+1) (n+1) (1,0)else [])
theorem vO {l:List (Nat×Nat)}{p:Nat×Nat}:p∈uni l↔p∈l:=by unfold uni;simp_all
theorem aB8 {f:Nat→List (Nat×Nat)}: ∀{c n:Nat} {p q r:Nat×Nat},q∈xQ f c n p→r∈f (n+(q.1-p.1))→p.1≤q.1→(q.1+r.1,q.2+r.2)∈xQ f (c+1) n p
 |0,n,p,q,r,hq,hr,_=>by simp_all[xQ,List.mem_singleton,Nat.sub_self,Nat.add_zero,vO,List.mem_flatMap]
 |c+1,n,p,q,r,hq,hr,hpq=>by
  unfold xQ at hq⊢;rw[vO,List.mem_flatMap]at hq⊢;obtain⟨s,hs,hq⟩:=hq;have hle:p.1+s.1≤q.1:=by
   have key: ∀(c n:Nat) (p q:Nat×Nat),q∈xQ f c n p→p.1≤q.1:=by
    intro c;induction c with
    |zero=>simp_all[xQ,List.mem_singleton,Nat.le_refl]
    |succ c ih=>
     grind[xQ,vO]
   exact key _ _ _ _ hq
  refine⟨s,hs,aB8 hq ?_ hle⟩;grind
structure Made (d n:Nat)(t:List Nd):Prop where
 skip:skip 1 t=some []
 node: ∀n∈t,cH n=true
 pos:(t.length,lv t)∈pos d n
structure MadeK (d n k:Nat)(ts:List Nd):Prop where
 skip:skip k ts=some []
 node: ∀n∈ts,cH n=true
 pos:(1+ts.length,lv ts)∈xQ (pos d) k (n+1) (1,0)
theorem MadeK.zero (d n:Nat):MadeK d n 0 []:=⟨rfl,by simp,by simp[xQ,lv]⟩
variable {ts:List Nd}
theorem MadeK.next {d:Nat}(h:MadeK d n k ts)(ht:Made d (n+1+ts.length) t):MadeK d n (k+1) (ts++t):=by
 refine⟨?_,fun x hx=>?_,?_⟩
 · rw[fW,kR ts t [] k h.skip];exact ht.skip
 ·
  rcases List.mem_append.1 hx with hx|hx
  · exact h.node x hx
  · exact ht.node x hx
 ·
  have:=aB8 (r:=(t.length,lv t)) h.pos (by
   rw[show n+1+(1+ts.length-1)=n+1+ts.length from by omega];exact ht.pos) (by simp)
  grind[sX,Nat.add_assoc]
theorem MadeK.fin {d:Nat}{x:Nd}{c:Nat}(h:MadeK d n c ts)(hn:n≤8)(hx:cH x=true)(hk:x.k≠1)(hc:x.c=c)(h1:1≤c)(h3:c≤3):Made (d+1) n (x::ts):=by
 refine⟨?_,fun y hy=>?_,?_⟩
 · show Pl.skip (0+x.c.toNat) ts=some [];rw[hc,Nat.zero_add];exact h.skip
 ·
  rcases List.mem_cons.1 hy with rfl|hy
  · grind
  · exact h.node y hy
 · rw[Pl.pos,vO];refine List.mem_cons_of_mem _ ?_;rw[if_pos hn,List.mem_flatMap];refine⟨c-1,List.mem_range.2 (by omega),?_⟩;rw[show c-1+1=c from by omega];have:=h.pos;simp_all[lv,if_neg,List.length_cons,Nat.add_comm]
def dB (w:List aF):Option Nd:=match dD w with|some q=>some ⟨1,0,0,q⟩|none=>dW w
structure Ms where
 n:aF
 v:Int
 r:List Pr
 o:List Nat
 d:Bool
def pF (t:List Nd)(i:Nat):List Nd:=t.set i {t.getD i nd0 with c:=(t.getD i nd0).c+1}
def iT (t:List Nd)(o:List Nat):List Nd:=match o.getLast? with|some i=>pF t i|none=>t
def fE (r:List Pr):List Nd:=(r.getLast?.getD ⟨[],[],[],0,[]⟩).t
def qB (r:List Pr)(t:List Nd):List Pr:=r.dropLast++[{r.getLast?.getD ⟨[],[],[],0,[]⟩with t:=t}]
def cS (w:List aF)(first:Bool)(x:Ms):Option Ms:=
 if first then(if w.length=3∧wd w 0=wPolicy then(bK (wd w 2)).map fun v=>{x with n:=wd w 1,v:=v}else none)
 else if x.d=false∧x.o=[]then(if w.length=5∧wd w 0=wRule then(bK (wd w 4)).map fun g=>{x with r:=x.r++[⟨wd w 1,wd w 2,wd w 3,g,[]⟩],d:=true}else none)
 else if eH w=true∧x.o≠[]then some {x with o:=x.o.dropLast}
 else(dB w).map fun n=>{x with r:=qB x.r (iT (fE x.r) x.o++[n]),o:=if n.k=1 then x.o else x.o++[(fE x.r).length],d:=false}
def goM :List (List aF)→Ms→Option Ms×List (List aF)
 |[],x=>(some x,[])
 |w::ls,x=>match cS w false x with|some y=>goM ls y|none=>(none,w::ls)
theorem xR {w:List aF}{x y:Ms}(h:cS w false x=some y):goM (w::ls) x=goM ls y:=by simp only[goM,h]
theorem aG9 {w:List aF}{x:Ms}(h:cS w false x=none):goM (w::ls) x=(none,w::ls):=by simp only[goM,h]
variable {r:List Pr}
theorem aB9 :fE (qB r t)=t:=by simp[fE,qB]
variable {u:List Nd}
theorem aQ1 :qB (qB r t) u=qB r u:=by simp[qB]
theorem tN {x:Pr}{t:List Nd}:qB (r++[x]) t=r++[{x with t:=t}]:=by simp[qB]
theorem qC {x:Pr}:fE (r++[x])=x.t:=by simp[fE]
theorem aH0 : ∀(f:Nat),(∀ls t r,rdN f ls=(some t,r)→r.length<ls.length)∧(∀ls p r,rdK f ls=(some p,r)→r.length<ls.length)
 |0=>⟨fun ls t r h=>(by simp only[rdN]at h;cases h),fun ls p r h=>(by simp only[rdK]at h;cases h)⟩
 |f+1=>by
  obtain⟨ihN,ihK⟩:=aH0 f;refine⟨fun ls t r h=>?_,fun ls p r h=>?_⟩
  ·
   cases ls with
   |nil=>simp only[rdN]at h;cases h
   |cons w rest=>
    simp only[rdN]at h;split at h
    · cases h;simp
    ·
     split at h
     · cases h
     ·
      cases hk:rdK f rest with
      |mk o r'=>
       rw[hk]at h;cases o with
       |none=>cases h
       |some p=>
        cases h;have:=ihK _ _ _ hk;simp only[List.length_cons];omega
  ·
   simp only[rdK]at h;split at h
   ·
    rename_i he;cases h;cases ls with
    |nil=>simp[eH]at he
    |cons w rest=>simp
   ·
    cases h1:rdN f ls with
    |mk o r1=>
     rw[h1]at h;cases o with
     |none=>cases h
     |some t=>
      simp only at h;cases h2:rdK f r1 with
      |mk o2 r2=>
       rw[h2]at h;cases o2 with
       |none=>cases h
       |some q=>
        cases h;have a:=ihN _ _ _ h1;have b:=ihK _ _ _ h2;omega
theorem bump_len (t:List Nd)(i:Nat):(pF t i).length=t.length:=by simp[pF]
def aQ2 (t:List Nd)(i:Nat)(c:Int):List Nd:=t.set i {t.getD i nd0 with c:=(t.getD i nd0).c+c}
theorem bJ7 (h:i<t.length):aQ2 t i 0=t:=by
 unfold aQ2;have:({t.getD i nd0 with c:=(t.getD i nd0).c+0}:Nd)=t[i]:=by
  rw[List.getD_eq_getElem?_getD,List.getElem?_eq_getElem h,Option.getD_some,Int.add_zero]
 rw[this,List.set_getElem_self]
theorem bJ8 {c:Int}(h:i<t.length):aQ2 (pF t i++u) i c=aQ2 t i (c+1)++u:=by
 unfold aQ2;rw[List.set_append_left _ _ (by rw[bump_len];exact h)];congr 1;have e:(pF t i++u).getD i nd0={t.getD i nd0 with c:=(t.getD i nd0).c+1}:=by
  rw[List.getD_eq_getElem?_getD,List.getElem?_append_left (by rw[bump_len];exact h)];unfold pF;rw[List.getElem?_set_self h];rfl
 rw[e];unfold pF;rw[List.set_set];congr 1;simp only[Nd.mk.injEq,true_and,and_true];omega
theorem innR_c {n:Nd}(h:dW w=some n):n.c=0∧eH w=false:=by
 refine⟨?_,?_⟩
 ·
  unfold dW at h;split at h
  · cases h;rfl
  split at h
  · cases h;rfl
  split at h
  ·
   cases hv:bK (wd w 1)with
   |none=>rw[hv]at h;cases h
   |some m=>rw[hv]at h;cases h;rfl
  · cases h
 ·
  cases he:eH w with
  |false=>rfl
  |true=>rw[aB7 he]at h;cases h
theorem bJ9 (h:r≠[]):qB r (fE r)=r:=by
 obtain⟨q,x,rfl⟩: ∃q x,r=q++[x]:=⟨r.dropLast,r.getLast h,(List.dropLast_concat_getLast h).symm⟩;rw[qC,tN]
theorem aX6 (t:List Nd)(o:List Nat)(i:Nat):iT t (o++[i])=pF t i:=by simp[iT]
theorem bumpO_len (t:List Nd)(o:List Nat):(iT t o).length=t.length:=by
 unfold iT;split
 · exact bump_len _ _
 · rfl
theorem bT3 : ∀(f:Nat),(∀ls (x:Ms),2*ls.length+1≤f→(x.d=true∨x.o≠[])→(∀i∈x.o,i<(fE x.r).length)→(x.o≠[]→eH (ls.headD [])=false)→match rdN f ls with
   |(some t,r)=>goM ls x=goM r {x with r:=qB x.r (iT (fE x.r) x.o++t),d:=false}
   |(none,[])=> ∃y,goM ls x=(some y,[])∧(y.d=true∨y.o≠[])
   |(none,w::r)=>goM ls x=(none,w::r))∧
  (∀ls (x:Ms) (o:List Nat) (i:Nat),2*ls.length+2≤f→x.o=o++[i]→x.d=false→(∀j∈x.o,j<(fE x.r).length)→match rdK f ls with
   |(some (ts,c),r)=>goM ls x=goM r {x with r:=qB x.r (aQ2 (fE x.r) i c++ts),o:=o}
   |(none,[])=> ∃y,goM ls x=(some y,[])∧(y.d=true∨y.o≠[])
   |(none,w::r)=>goM ls x=(none,w::r))
 |0=>⟨fun ls x hf _ _ _=>by omega,fun ls x o i hf _ _ _=>by omega⟩
 |f+1=>by
  obtain⟨ihN,ihK⟩:=bT3 f;refine⟨fun ls x hf hx hb hend=>?_,fun ls x o i hf ho hd hb=>?_⟩
  ·
   cases ls with
   |nil=>simp only[rdN];exact⟨x,rfl,hx⟩
   |cons w rest=>
    have hx': ¬(x.d=false∧x.o=[]):=fun h=>by
     rcases hx with h1|h1
     · rw[h.1]at h1;cases h1
     · exact h1 h.2
    have hne: ¬(eH w=true∧x.o≠[]):=fun h=>by
     have:=hend h.2;rw[List.headD_cons,h.1]at this;cases this
    simp only[rdN];cases hq:dD w with
    |some q=>
     simp only;have hs:cS w false x=some {x with r:=qB x.r (iT (fE x.r) x.o++[⟨1,0,0,q⟩]),d:=false}:=by
      unfold cS;rw[if_neg (by simp),if_neg hx',if_neg hne];unfold dB;rw[hq];rfl
     rw[xR hs]
    |none=>
     simp only;cases hn:dW w with
     |none=>
      simp only;have hs:cS w false x=none:=by
       unfold cS;rw[if_neg (by simp),if_neg hx',if_neg hne];unfold dB;rw[hq,hn];rfl
      exact aG9 hs
     |some n=>
      obtain⟨hc,-⟩:=innR_c hn;have hk:=(aP8 hn 0).2;obtain⟨y,hy⟩: ∃y:Ms,y={x with r:=qB x.r (iT (fE x.r) x.o++[n]),o:=x.o++[(fE x.r).length],d:=false}:=⟨_,rfl⟩;have hs:cS w false x=some y:=by
       unfold cS;rw[if_neg (by simp),if_neg hx',if_neg hne];unfold dB;rw[hq,hn];simp only[Option.map_some];rw[if_neg hk,hy]
      have hT:fE y.r=iT (fE x.r) x.o++[n]:=by rw[hy];exact aB9
      have ih:=ihK rest y x.o (fE x.r).length (by simp only[List.length_cons]at hf;omega) (by rw[hy]) (by rw[hy]) (fun j hj=>by
       rw[hT,List.length_append,bumpO_len,List.length_singleton];rw[hy]at hj;simp only[List.mem_append,List.mem_singleton]at hj;rcases hj with hj|rfl
       · have:=hb j hj;omega
       · omega)
      simp only;rw[xR hs];cases hr:rdK f rest with
      |mk p r'=>
       rw[hr]at ih;cases p with
       |none=>
        cases r' with
        |nil=>exact ih
        |cons _ _=>exact ih
       |some p=>
        obtain⟨ts,c⟩:=p;simp only at ih⊢;rw[ih,hT];have e:aQ2 (iT (fE x.r) x.o++[n]) (fE x.r).length c=iT (fE x.r) x.o++[{n with c:=c}]:=by
         unfold aQ2;have hl:=bumpO_len (fE x.r) x.o;rw[←hl,List.set_append_right _ _ (Nat.le_refl _),Nat.sub_self];simp only[List.getD_eq_getElem?_getD,List.getElem?_append_right (Nat.le_refl _),Nat.sub_self,List.getElem?_cons_zero,Option.getD_some,hc,Int.zero_add,List.set_cons_zero]
        rw[e,hy];simp only[aQ1,List.append_assoc,List.singleton_append]
  ·
   simp only[rdK];have hon:x.o≠[]:=by rw[ho];simp
   have hi:i<(fE x.r).length:=hb i (by rw[ho];simp);have hrn:x.r≠[]:=fun h=>by rw[h]at hi;simp[fE]at hi
   by_cases he:eH (ls.headD [])=true
   ·
    rw[if_pos he];cases ls with
    |nil=>simp[eH]at he
    |cons w rest=>
     simp only[List.headD_cons]at he;have hs:cS w false x=some {x with o:=o}:=by
      unfold cS;rw[if_neg (by simp),if_neg (fun h=>hon h.2),if_pos ⟨he,hon⟩,ho];simp
     rw[xR hs];simp only[List.tail_cons,bJ7 hi,List.append_nil,bJ9 hrn]
   ·
    rw[if_neg he];have he':eH (ls.headD [])=false:=Bool.eq_false_iff.2 he;have ih:=ihN ls x (by omega) (.inr hon) hb (fun _=>he');cases h1:rdN f ls with
    |mk p r1=>
     rw[h1]at ih;cases p with
     |none=>
      cases r1 with
      |nil=>exact ih
      |cons _ _=>exact ih
     |some t=>
      simp only at ih⊢;have hlen:=(aH0 f).1 _ _ _ h1;obtain⟨x1,hx1⟩: ∃x1:Ms,x1={x with r:=qB x.r (iT (fE x.r) x.o++t),d:=false}:=⟨_,rfl⟩;rw[←hx1]at ih;have hT:fE x1.r=pF (fE x.r) i++t:=by rw[hx1];simp only;rw[aB9,ho,aX6]
      have ih2:=ihK r1 x1 o i (by omega) (by rw[hx1];exact ho) (by rw[hx1]) (fun j hj=>by
       rw[hT,List.length_append,bump_len];rw[hx1]at hj;have:=hb j hj;omega)
      rw[ih];cases h2:rdK f r1 with
      |mk p2 r2=>
       rw[h2]at ih2;cases p2 with
       |none=>
        cases r2 with
        |nil=>exact ih2
        |cons _ _=>exact ih2
       |some q=>
        obtain⟨ts,c⟩:=q;simp only at ih2⊢;rw[ih2,hT,bJ8 hi,hx1];simp only[aQ1,List.append_assoc];rw[hd]
theorem bT4 {x:Ms}(hd:x.d=false)(ho:x.o=[]):match rdR ls with
   |(some p,r)=>ls≠[]∧goM ls x=goM r {x with r:=x.r++[p]}
   |(none,[])=>ls=[]∨ ∃y,goM ls x=(some y,[])∧(y.d=true∨y.o≠[])
   |(none,w::r)=>goM ls x=(none,w::r):=by
 cases ls with
 |nil=>simp[rdR]
 |cons w rest=>
  simp only[rdR];by_cases h1:w.length=5∧wd w 0=wRule
  ·
   rw[if_pos h1];cases hg:bK (wd w 4)with
   |none=>
    simp only;refine aG9 ?_;unfold cS;rw[if_neg (by simp),if_pos ⟨hd,ho⟩,if_pos h1,hg];rfl
   |some g=>
    simp only;have hs:cS w false x=some {x with r:=x.r++[⟨wd w 1,wd w 2,wd w 3,g,[]⟩],d:=true}:=by
     unfold cS;rw[if_neg (by simp),if_pos ⟨hd,ho⟩,if_pos h1,hg];rfl
    have ih:=(bT3 (2*rest.length+2)).1 rest {x with r:=x.r++[⟨wd w 1,wd w 2,wd w 3,g,[]⟩],d:=true} (by omega) (.inl rfl) (fun i hi=>by simp only at hi;rw[ho]at hi;cases hi) (fun h=>absurd ho h);rw[xR hs];unfold rdT;cases ht:rdN (2*rest.length+2) rest with
    |mk p r'=>
     rw[ht]at ih;cases p with
     |none=>
      cases r' with
      |nil=>exact .inr ih
      |cons _ _=>exact ih
     |some t=>
      simp only at ih⊢;refine⟨by simp,?_⟩;rw[ih,qC,tN,ho];simp only[iT,List.getLast?_nil,List.nil_append];rw[←hd,←ho]
  · rw[if_neg h1];simp only;refine aG9 ?_;unfold cS;rw[if_neg (by simp),if_pos ⟨hd,ho⟩,if_neg h1]
theorem aC0 : ∀(f:Nat) (ls:List (List aF)) (x:Ms),ls.length<f→x.d=false→x.o=[]→match jL f ls x.r with
   |(some l,r)=>goM ls x=(some {x with r:=l},[])∧r=[]
   |(none,[])=> ∃y,goM ls x=(some y,[])∧(y.d=true∨y.o≠[])
   |(none,w::r)=>goM ls x=(none,w::r)
 |0,ls,x,h,_,_=>by omega
 |f+1,ls,x,hf,hd,ho=>by
  simp only[jL];by_cases h0:ls=[]
  · subst h0;rw[if_pos rfl];exact⟨rfl,rfl⟩
  ·
   rw[if_neg h0];have ih:=bT4 (ls:=ls) hd ho;cases h1:rdR ls with
   |mk p r=>
    rw[h1]at ih;cases p with
    |none=>
     cases r with
     |nil=>exact ih.resolve_left h0
     |cons _ _=>exact ih
    |some q=>
     simp only at ih⊢;have hlen:r.length<ls.length:=by
      cases ls with
      |nil=>exact absurd rfl h0
      |cons w rest=>
       simp only[rdR]at h1;split at h1
       ·
        split at h1
        · cases h1
        ·
         cases ht:rdT rest with
         |mk o r'=>
          rw[ht]at h1;cases o with
          |none=>cases h1
          |some t=>
           cases h1;have:=(aH0 _).1 _ _ _ ht;simp only[List.length_cons];omega
       · cases h1
     have ih2:=aC0 f r {x with r:=x.r++[q]} (by omega) hd ho;rw[ih.2];exact ih2
def bT5 (ls:List (List aF)):Option Po×List (List aF):=match ls with
 |[]=>(none,[])
 |w::r=>match cS w true ⟨[],0,[],[],false⟩with
  |none=>(none,w::r)
  |some x=>match goM r x with
   |(none,r')=>(none,r')
   |(some y,_)=>if y.d=true∨y.o≠[]then(none,[])else(some ⟨y.n,y.v,y.r⟩,[])
theorem aH1 (ls:List (List aF)):bT5 ls=rdP ls:=by
 cases ls with
 |nil=>rfl
 |cons w r=>
  unfold bT5 rdP;simp only;by_cases h1:w.length=3∧wd w 0=wPolicy
  ·
   rw[if_pos h1];have hs:cS w true ⟨[],0,[],[],false⟩=(bK (wd w 2)).map fun v=>⟨wd w 1,v,[],[],false⟩:=by
    unfold cS;rw[if_pos rfl,if_pos h1]
   rw[hs];cases hv:bK (wd w 2)with
   |none=>rfl
   |some v=>
    simp only[Option.map_some];have ih:=aC0 (r.length+1) r ⟨wd w 1,v,[],[],false⟩ (by omega) rfl rfl;simp only at ih;cases hr:jL (r.length+1) r []with
    |mk o r'=>
     rw[hr]at ih;cases o with
     |some l=>
      simp only at ih;obtain⟨e,rfl⟩:=ih;rw[e];simp
     |none=>
      cases r' with
      |nil=>
       simp only at ih;obtain⟨y,e,hy⟩:=ih;rw[e];simp only;rw[if_pos hy]
      |cons a b=>
       simp only at ih;rw[ih]
  ·
   rw[if_neg h1];have hs:cS w true ⟨[],0,[],[],false⟩=none:=by
    unfold cS;rw[if_pos rfl,if_neg h1]
   rw[hs]
theorem xS {w:aF}(h:dR w=true):1≤w.length∧w.length≤64:=by
 cases w with
 |nil=>cases h
 |cons c r=>
  simp_all[dR,Bool.and_eq_true,decide_eq_true_eq]
def bT6 (p:Po):Prop:=eR p=true∧p.r.length≤2∧ ∀r∈p.r,r.b.length≤80∧r.c.length≤80∧r.t.length≤40
def aC1 (ns im:aF)(r:Pr):Bool:=mG r.b ns&&mG r.c im
def bT7 (p:Po)(ns im:aF):Int:=if eR p then match p.r.findIdx? (aC1 ns im)with|some i=>(i:Int)|none=> -1 else-1
theorem bT8 {ns im:aF}(hp:eR p=false):bT7 p ns im= -1:=by
 unfold bT7;rw[if_neg (by rw[hp];simp)]
def aQ3 (n:Int):Nd:=⟨1,0,0,⟨1,n,0,[]⟩⟩
def awT :List Nd:=[⟨4,2,3,rq0⟩,aQ3 1,aQ3 2,aQ3 3]
def awP :Po:=⟨[112],1,[⟨[114],[112,114,111,100,47,42,42],[42],5,awT⟩]⟩
theorem cJ6 :dS awT=true:=by decide
theorem cJ7 :eR awP=true:=by decide+kernel
theorem bT9 :xK awT [true,false,true]=true:=by decide
theorem bU0 :xK awT [true]=false:=by decide
theorem lQ :(jK awT).length=3:=by decide
theorem rV :(tJ awT 0).length=3:=by decide
theorem cJ8 :bT7 awP [112,114,111,100,47,101,117] [119,101,98]=0:=by decide+kernel
theorem bEq {c d:UInt8}(h:((c.toNat:Int)==(d.toNat:Int))=true):c=d:=by
 have h1:=eq_of_beq h;exact UInt8.toNat_inj.1 (by omega)
theorem bNe {c d:UInt8}(h:((c.toNat:Int)==(d.toNat:Int))=false):c≠d:=by
 intro e;subst e;simp at h
variable {c:UInt8}
theorem aQ4 {l:List UInt8}(h: ¬dO l c<0):c∈l:=by
 unfold dO at h;cases e:l.findIdx? (· ==c)with
 |none=>rw[e]at h;simp at h
 |some i=>
  obtain⟨hi,h1,_⟩:=List.findIdx?_eq_some_iff_getElem.1 e;have:=eq_of_beq h1;rw[←this];exact List.getElem_mem hi
theorem uR {l:List UInt8}(h:dO l c<0):c∉l:=by
 unfold dO at h;cases e:l.findIdx? (· ==c)with
 |none=>
  intro hc;have:=List.findIdx?_eq_none_iff.1 e c hc;simp at this
 |some i=>rw[e]at h;simp only at h;omega
theorem rW {p:aF}(h:p.length<1∨200<p.length):fJ p=none:=by unfold fJ;rw[if_pos h]
theorem aH2 {p:aF}(h1:1≤p.length)(h2:p.length≤200):fJ p=patP p:=by unfold fJ;rw[if_neg (by omega)]
end Go.Pl
