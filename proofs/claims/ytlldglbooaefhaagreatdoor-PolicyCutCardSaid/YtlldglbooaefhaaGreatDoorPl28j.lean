/- Plain Lean: the rule that is selected (28.7); the policy of the sanity check. By an AI agent. -/
import Derived.Test.YtlldglbooaefhaaGreatDoorPl11u
import Derived.Test.YtlldglbooaefhaaGreatDoorHzU1
import Derived.Test.YtlldglbooaefhaaGreatDoorHlZb
import Derived.Test.YtlldglbooaefhaaGreatDoorHlTlaw
import Derived.Sort.Grow
import Derived.Sort.EncStr
set_option linter.unusedSimpArgs false
set_option linter.unusedVariables false
set_option linter.defProp false
namespace Go.Pl
open Go Go.Hl
def bY7 (c:UInt8):Nat:=if 48≤c.toNat∧c.toNat≤57 then c.toNat-48 else if 97≤c.toNat∧c.toNat≤102 then c.toNat-87 else 16
def hX (s:aJ)(i:Nat):UInt8:=s.getD (2*i) 0
def hY (s:aJ)(i:Nat):UInt8:=s.getD (2*i+1) 0
def hB (s:aJ)(i:Nat):UInt8:=UInt8.ofNat (16*bY7 (hX s i)+bY7 (hY s i))
def hOk (s:aJ)(i:Nat):Bool:=decide (bY7 (hX s i)<16)&&decide (bY7 (hY s i)<16)
def nT (s:aJ)(n:Nat):Option (List UInt8):=if s.length=2*n∧(List.range n).all (hOk s)=true then some ((List.range n).map (hB s))else none
def UhSt (s:aJ)(n i:Nat)(l:List UInt8):Prop:=l.length=n∧i≤n∧l.take i=(List.range i).map (hB s)∧ ∀j,j<i→hOk s j=true
variable {l:List UInt8}{n:Nat}
theorem UhSt.init (s:aJ)(h:l.length=n):UhSt s n 0 l:=⟨h,Nat.zero_le _,by simp,fun j hj=>by omega⟩
variable {i:Nat}{s:aJ}
theorem UhSt.next (h:UhSt s n i l)(hi:i<n)(hk:hOk s i=true):UhSt s n (i+1) (l.set i (hB s i)):=by
 obtain⟨h1,h2,h3,h4⟩:=h;refine⟨by simpa using h1,hi,?_,fun j hj=>?_⟩
 · rw[List.take_succ_eq_append_getElem (by rw[List.length_set];omega),List.getElem_set_self,List.take_set_of_le (Nat.le_refl _),h3,List.range_succ,List.map_append];rfl
 ·
  rcases Nat.lt_or_ge j i with h'|h'
  · exact h4 j h'
  ·
   have:j=i:=by omega
   rw[this];exact hk
theorem UhSt.fin (h:UhSt s n n l)(hs:s.length=2*n):nT s n=some l:=by
 obtain⟨h1,h2,h3,h4⟩:=h;unfold nT;rw[if_pos ⟨hs,by rw[List.all_eq_true];intro j hj;exact h4 j (List.mem_range.1 hj)⟩,←h3,List.take_of_length_le (by omega)]
theorem UhSt.bad (_:UhSt s n i l)(hi:i<n)(hk:hOk s i=false):nT s n=none:=by
 unfold nT;rw[if_neg];rintro⟨_,h⟩;have:=List.all_eq_true.1 h i (List.mem_range.2 hi);rw[hk]at this;cases this
theorem pE (h:nT s n=some l):l.length=n:=by
 unfold nT at h;split at h
 · cases h;simp
 · cases h
def cL3 (s p:aJ):Bool:=decide (p.length≤s.length)&&(s.take p.length==p)
def cL4 (s:aJ):Option yJ:=match h:nT s 16 with|some l=>some ⟨l,pE h⟩|none=>none
def cO7 :aJ:=[115,104,97,50,53,54,58]
def cO8 (s:aJ):Option Dig:=if cL3 s cO7 then match h:nT (s.drop 7) 32 with|some l=>some ⟨l,pE h⟩|none=>none else none
def wd (l:List aJ)(i:Nat):aJ:=l.getD i []
theorem xG {l:List aJ}(h:i<l.length):nth (l.map CV.str) i= .str (wd l i):=by
 rw[bL h,wd,List.getD_eq_getElem?_getD,List.getElem?_eq_getElem h];rfl
def bP6 (l:List aJ)(x:Rt):Option Rt:=
 if l.length=3 then match bK (wd l 2)with|some n=>some {x with q:=x.q++[⟨wd l 1,n⟩]}|none=>none else none
def cL5 (l:List aJ)(x:Rt):Option Rt:=
 if l.length<6 then none else match bK (wd l 1),cL4 (wd l 2),bK (wd l 4),bK (wd l 5)with
  |some h,some r,some a,some b=>some {x with k:=x.k++[⟨⟨h,r⟩,wd l 3,l.drop 6,a,b⟩]}
  |_,_,_,_=>none
def cL6 (l:List aJ)(x:Rt):Option Rt:=
 if l.length=3 then match cO8 (wd l 1),bK (wd l 2)with|some d,some t=>some {x with x:=x.x++[⟨d,t⟩]}|_,_=>none else none
end Go.Pl
namespace Go.Hl
open Go Go.RowKit Go.Sort Go.Proofs
end Go.Hl
namespace Go.Pl
open Go Go.Hl
def rMid (r:Rt):Prop:=(r.q.length≤12∧ ∀q∈r.q,q.r.length≤300)∧(r.k.length≤32∧ ∀k∈r.k,k.o.length≤300∧k.rs.length≤30∧ ∀w∈k.rs,w.length≤300)∧r.x.length≤65
theorem rMid.sz {r:Rt}(h:rMid r):rSz r:=by
 obtain⟨⟨h1,h2⟩,⟨h3,h4⟩,h5⟩:=h;refine⟨⟨by omega,fun q hq=>by have:=h2 q hq;omega⟩,⟨by omega,fun k hk=>?_⟩,by omega⟩;obtain⟨k1,k2,k3⟩:=h4 k hk;exact⟨by omega,by omega,fun w hw=>by have:=k3 w hw;omega⟩
def aU5 (j:Nat):aJ:=([[113,117,111,116,97],[107,101,121],[114,101,118,111,107,101,100]]:List aJ).getD j []
def bG5 (j:Nat)(l:List aJ)(x:Rt):Option Rt:=if j=0 then bP6 l x else if j=1 then cL5 l x else cL6 l x
def aN8 (j:Nat):List (List aJ)→Rt→Option (List (List aJ)×Rt)
 |[],x=>some ([],x)
 |l::ls,x=>if wd l 0=aU5 j then match bG5 j l x with|some y=>aN8 j ls y|none=>none else some (l::ls,x)
def tD :Nat→Nat→List (List aJ)→Rt→Option (List (List aJ)×Rt)
 |0,_,ls,x=>some (ls,x)
 |n+1,j,ls,x=>match aN8 j ls x with|some (ls',y)=>tD n (j+1) ls' y|none=>none
section
variable {l0:List aJ}{ls:List (List aJ)}{x:Rt}
end
variable {x:Rt}{ls:List (List aJ)}{j:Nat}
theorem bP7 {l:List aJ}{y:Rt}(h:wd l 0=aU5 j)(hy:bG5 j l x=some y):aN8 j (l::ls) x=aN8 j ls y:=by
 rw[aN8,if_pos h,hy]
theorem bG6 {l:List aJ}(h:wd l 0≠aU5 j):aN8 j (l::ls) x=some (l::ls,x):=by
 rw[aN8,if_neg h]
theorem bP8 {n:Nat}{l:List aJ}{y:Rt}(h:wd l 0=aU5 j)(hy:bG5 j l x=some y):tD (n+1) j (l::ls) x=tD (n+1) j ls y:=by grind[tD,bP7]
theorem bG7 {n:Nat}{l:List aJ}(h:wd l 0≠aU5 j):tD (n+1) j (l::ls) x=tD n (j+1) (l::ls) x:=by
 simp only[tD,bG6 h]
theorem bP9 {n:Nat}:tD (n+1) j [] x=tD n (j+1) [] x:=by
 simp only[tD,aN8]
def wOk (l:List aJ):Prop:=l≠[]∧l.length≤120∧ ∀w∈l,w.length≤32768
theorem wOk.wd {l:List aJ}(h:wOk l)(i:Nat):(wd l i).length≤32768:=by
 unfold Pl.wd;rw[List.getD_eq_getElem?_getD];rcases Nat.lt_or_ge i l.length with h'|h'
 · rw[List.getElem?_eq_getElem h'];exact h.2.2 _ (List.getElem_mem h')
 grind
def rRead (m:Nat)(x:Rt):Prop:=x.q.length+x.k.length+x.x.length≤m∧(∀q∈x.q,q.r.length≤32768)∧ ∀k∈x.k,k.o.length≤32768∧k.rs.length≤120∧ ∀w∈k.rs,w.length≤32768
variable {m:Nat}
theorem bG8 {l:List aJ}{y:Rt}(hl:wOk l)(h:bG5 j l x=some y)(hx:rRead m x):rRead (m+1) y:=by
 obtain⟨h1,h2,h3⟩:=hx;unfold bG5 at h;split at h
 ·
  unfold bP6 at h;split at h
  ·
   split at h
   ·
    cases h;refine⟨by grind,fun q hq=>?_,h3⟩;rcases List.mem_append.1 hq with hq|hq
    · grind
    · simp only[List.mem_singleton]at hq;subst hq;exact hl.wd 1
   grind
  grind
 ·
  split at h
  ·
   unfold cL5 at h;split at h
   · cases h
   ·
    split at h
    ·
     cases h;refine⟨by grind,h2,fun k hk=>?_⟩;rcases List.mem_append.1 hk with hk|hk
     · exact h3 k hk
     · simp only[List.mem_singleton]at hk;subst hk;exact⟨hl.wd 3,by show(l.drop 6).length≤120;rw[List.length_drop];have:=hl.2.1;omega,fun w hw=>hl.2.2 w (List.mem_of_mem_drop hw)⟩
    grind
  ·
   unfold cL6 at h;split at h
   ·
    split at h
    · cases h;exact⟨by grind,h2,h3⟩
    grind
   grind
theorem rRead.sz (h:rRead m x)(hm:m≤100000):rSz x:=by
 obtain⟨h1,h2,h3⟩:=h;refine⟨⟨by omega,fun q hq=>by grind⟩,⟨by omega,fun k hk=>?_⟩,by omega⟩;obtain⟨k1,k2,k3⟩:=h3 k hk;exact⟨by omega,by omega,fun w hw=>by grind⟩
def RtSt (ls0:List (List aJ))(x0:Rt)(j:Nat)(rest:List (List aJ))(x:Rt):Prop:=
 j≤3∧tD 3 0 ls0 x0=tD (3-j) j rest x∧(∀l∈rest,wOk l)∧rest.length≤ls0.length∧rRead (ls0.length-rest.length) x
section
variable {ls0 rest:List (List aJ)}{x0 x:Rt}{j:Nat}{l:List aJ}
theorem RtSt.init (h: ∀l∈ls0,wOk l)(hx:rRead 0 x0):RtSt ls0 x0 0 ls0 x0:=⟨by omega,rfl,h,Nat.le_refl _,by grind⟩
theorem RtSt.hit {y:Rt}(h:RtSt ls0 x0 j (l::rest) x)(hj:j<3)(hw:wd l 0=aU5 j)(hy:bG5 j l x=some y):RtSt ls0 x0 j rest y:=by
 obtain⟨h1,h2,h3,h4,h5⟩:=h;obtain⟨n,hn⟩: ∃n,3-j=n+1:=⟨2-j,by omega⟩;simp only[List.length_cons]at h4 h5;refine⟨h1,by rw[h2,hn,bP8 hw hy],fun l hl=>h3 l (List.mem_cons_of_mem _ hl),by omega,?_⟩;have:=bG8 (h3 l List.mem_cons_self) hy h5;grind
theorem RtSt.next (h:RtSt ls0 x0 j rest x)(hj:j<3)(hw: ∀l ls,rest=l::ls→wd l 0≠aU5 j):RtSt ls0 x0 (j+1) rest x:=by
 obtain⟨h1,h2,h3,h4,h5⟩:=h;obtain⟨n,hn⟩: ∃n,3-j=n+1:=⟨2-j,by omega⟩;have hn2:3-(j+1)=n:=by omega
 refine⟨by omega,?_,h3,h4,h5⟩;rw[h2,hn,hn2];cases rest with
 |nil=>exact bP9
 |cons l ls=>exact bG7 (hw l ls rfl)
theorem RtSt.fin (h:RtSt ls0 x0 3 rest x):tD 3 0 ls0 x0=some (rest,x):=by rw[h.2.1];rfl
end
variable {b:aJ}
theorem bY8 : ∀l∈eD b,wOk l:=by
 intro l hl;unfold eD at hl;split at hl
 ·
  cases hv:fQ b with
  |none=>grind
  |some ls=>
   rw[hv]at hl;simp only[Option.getD_some]at hl;unfold fQ at hv;split at hv
   · grind
   ·
    split at hv
    ·
     have key: ∀{rs:List aJ} {ls:List (List aJ)},rs.mapM unR=some ls→ ∀l∈ls,okL l=true:=by
      intro rs;induction rs with
      |nil=>grind
      |cons r rs ih=>
       intro ls h l hl;rw[List.mapM_cons]at h;cases hr:unR r with
       |none=>grind
       |some a=>
        rw[hr]at h;cases hm:rs.mapM unR with
        |none=>grind
        |some m=>
         rw[hm]at h;cases h;rcases List.mem_cons.1 hl with rfl|hl
         ·
          unfold unR at hr;split at hr
          ·
           split at hr
           · rename_i hk;cases hr;exact hk
           · cases hr
          · cases hr
         · exact ih hm l hl
     exact(jH l).1 (key hv l hl)
    grind
 grind
theorem bQ0 :(eD b).length≤1000:=by
 unfold eD;split
 · grind[eC,fQ]
 · simp
theorem gA :qK=1099511627776:=rfl
theorem xH : ∀(a b:aJ) (n m:Nat),dK a n=some m→dK (a++b) n=dK b m
 |[],b,n,m,h=>by simp only[dK,Option.some.injEq]at h;subst h;rfl
 |c::a,b,n,m,h=>by
  simp only[List.cons_append,dK]at h⊢;split at h
  · rename_i hc;rw[if_pos hc];exact xH a b _ _ h
  · cases h
variable {k:Nat}
theorem aZ7 (h:k<10):nQ (UInt8.ofNat (48+k))=true∧(UInt8.ofNat (48+k)).toNat-48=k:=by
 have e:(UInt8.ofNat (48+k)).toNat=48+k:=by simp;omega
 rw[nQ,e];exact⟨by simp;omega,by omega⟩
theorem aU6 (u:Nat):dK (Lib.decDigits u) 0=some u:=by
 induction u using Nat.strongRecOn with
 |ind u ih=>
  rw[Lib.decDigits];split
  · rename_i h;obtain⟨h1,h2⟩:=aZ7 h;simp only[dK,h1,if_true,h2];simp
  · rw[xH _ _ 0 (u/10) (ih _ (by omega))];obtain⟨h1,h2⟩:=aZ7 (k:=u%10) (by omega);simp only[dK,h1,if_true,h2];congr 1;omega
theorem aZ8 : ∀(k u:Nat),u<10^(k+1)→(Lib.decDigits u).length≤k+1
 |0,u,h=>by rw[Lib.decDigits,dif_pos (by omega)];simp
 |k+1,u,h=>by
  rw[Lib.decDigits];split
  · simp
  · have:=aZ8 k (u/10) (by rw[Nat.pow_succ]at h;omega);simp only[List.length_append,List.length_singleton];omega
theorem bQ1 {u:Nat}(h:1≤u): ∃c l,Lib.decDigits u=c::l∧c≠48:=by
 induction u using Nat.strongRecOn with
 |ind u ih=>
  rw[Lib.decDigits];split
  · rename_i hu;refine⟨_,_,rfl,fun hc=>?_⟩;have:=congrArg UInt8.toNat hc;simp at this;omega
  · obtain⟨c,l,h1,h2⟩:=ih (u/10) (by omega) (by omega);exact⟨c,l++[UInt8.ofNat (48+u%10)],by rw[h1];rfl,h2⟩
variable {n:Int}
theorem iN (h0:0≤n)(h1:n≤1099511627776):bK (numW n)=some n:=by
 rw[rF h0];have hd:=aU6 n.natAbs;have hl:=aZ8 12 n.natAbs (by omega);have hb:gY (Lib.decDigits n.natAbs)=false:=by
  unfold gY;by_cases hz:n.natAbs=0
  · rw[hz,Lib.decDigits_one (by omega)];simp
  ·
   obtain⟨c,l,h2,h3⟩:=bQ1 (u:=n.natAbs) (by omega);rw[h2]at hl⊢;have e:((c::l).getD 0 0==(48:UInt8))=false:=by simpa using h3
   rw[e,Bool.and_false,Bool.or_false,Bool.or_eq_false_iff];exact⟨by simp,decide_eq_false (by omega)⟩
 rw[aZ3 hb hd (by omega)];congr 1;omega
theorem aZ9 (h:gM ls=0):eC (iK ls)=0∧eD (iK ls)=ls:=by
 rw[qS h];unfold gM at h;split at h
 · cases h
 ·
  rename_i h1;split at h
  · rename_i l hl;have:=List.find?_some hl;simp only[Bool.not_eq_true']at this;exact absurd h (aY0 this)
  ·
   rename_i hn;split at h
   · cases h
   ·
    rename_i h2;have hok: ∀l∈ls,okL l=true:=fun l hl=>by
     have:=List.find?_eq_none.1 hn l hl;simpa using this
    have hv:=bG1 hok;have hE:eC (eW ls)=0:=by unfold eC;rw[if_neg h2,hv];simp only;rw[if_neg h1]
    exact⟨hE,by unfold eD;rw[if_pos hE,hv];rfl⟩
def iW (r:Pr):Bool:=cW r.a&&((eL r.b).isSome&&((eL r.c).isSome&&(inB r.g 0 qK&&dH r.t)))
def fS :List Pr→Bool
 |[]=>true
 |r::l=>!(l.map Pr.a).contains r.a&&fS l
def eK (p:Po):Bool:=cW p.n&&(inB p.v 1 qK&&(decide (p.r.length≤16)&&(p.r.all iW&&fS p.r)))
theorem nU (l:List Pr)(r:Pr):fS (l++[r])=(fS l&&!(l.map Pr.a).contains r.a):=by
 induction l with
 |nil=>simp[fS]
 |cons x l ih=>
  simp only[List.cons_append,fS,ih,List.map_append,List.map_cons,List.map_nil,List.contains_append,List.contains_cons,List.contains_nil,Bool.or_false];rw[show(x.a==r.a)=(r.a==x.a)from Bool.beq_comm];grind
def dI :aJ:=[114,101,108,101,97,115,101,100]
def dX :aJ:=[99,104,97,105,110,101,100]
def dR :aJ:=[97,112,112,114,111,118,101,100]
def eQ :aJ:=[114,101,98,117,105,108,116]
def gE :aJ:=[108,105,115,116,101,100]
def jY :aJ:=[99,108,101,97,110]
def kY :aJ:=[102,114,101,115,104]
def gZ :aJ:=[115,101,116,116,108,101,100]
def lN :aJ:=[97,108,108]
def lO :aJ:=[97,110,121]
def cO :aJ:=[97,116,108,101,97,115,116]
def wEnd :aJ:=[101,110,100]
def wPolicy :aJ:=[112,111,108,105,99,121]
def wRule :aJ:=[114,117,108,101]
def wlR (q:Rq):List aJ:=
 if q.k=1 then [dI,numW q.n]else if q.k=2 then [dX,q.t]else if q.k=3 then [dR,numW q.n]
 else if q.k=4 then [eQ,numW q.n,numW q.m]else if q.k=5 then [gE,numW q.n]else if q.k=6 then [jY,numW q.n]
 else if q.k=7 then [kY,numW q.n]else [gZ]
def wlN (n:Nd):List aJ:=if n.k=2 then [lN]else if n.k=3 then [lO]else [cO,numW n.n]
def cC :Nat→Nat→List Nd→List (List aJ)
 |0,_,_=>[]
 |_+1,0,_=>[]
 |_+1,_+1,[]=>[]
 |f+1,m+1,n::l=>if n.k=1 then wlR n.q::cC f m l else wlN n::(cC f n.c.toNat l++([wEnd]::cC f m ((skip n.c.toNat l).getD [])))
variable {l:List Nd}
theorem rG {r:List Nd}(h:skip m l=some r):r.length≤l.length:=by
 obtain⟨j,h1,rfl,_,_⟩:=fN l m r h;grind
theorem eH : ∀(f:Nat) (m:Nat) (l r:List Nd),l.length<f→skip m l=some r→(∀n∈l,bG n=true)→ ∀g,f≤g→cC g m l=cC f m l
 |0,_,_,_,h,_,_,_,_=>by omega
 |f+1,0,l,r,_,_,_,g,hg=>by obtain⟨q,rfl⟩: ∃q,g=q+1:=⟨g-1,by omega⟩;cases l<;>rfl
 |f+1,m+1,[],r,_,h,_,_,_=>by cases h
 |f+1,m+1,n::l,r,hf,h,hn,g,hg=>by
  obtain⟨q,rfl⟩: ∃q,g=q+1:=⟨g-1,by omega⟩;have h':skip (m+n.c.toNat) l=some r:=h;have hn': ∀x∈l,bG x=true:=fun x hx=>hn x (List.mem_cons_of_mem _ hx);have hl:l.length<f:=by simpa using hf
  obtain⟨c1,c2,c3,c4⟩:=dG (hn n List.mem_cons_self);simp only[cC];split
  · rename_i hk;rw[c3 hk]at h';rw[eH f m l r hl (by grind) hn' q (by omega)]
  ·
   rw[Nat.add_comm,eG]at h';cases hs:skip n.c.toNat l with
   |none=>grind
   |some r1=>
    rw[hs]at h';have h2:skip m r1=some r:=h';have hr1:=rG hs;obtain⟨j,_,hj,_,_⟩:=fN l _ _ hs;rw[eH f _ l r1 hl hs hn' q (by omega),Option.getD_some,eH f m r1 r (by omega) h2 (fun x hx=>hn' x (by grind)) q (by omega)]
theorem lP : ∀(f:Nat) (a b:Nat) (l r:List Nd),l.length<f→skip a l=some r→(∀n∈l,bG n=true)→ ∀s,skip b r=some s→cC f (a+b) l=cC f a l++cC f b r
 |0,_,_,_,_,h,_,_,_,_=>by omega
 |f+1,0,b,l,r,_,h,_,_,_=>by simp_all[cL,Nat.zero_add,cC]
 |f+1,a+1,b,[],r,_,h,_,_,_=>by cases h
 |f+1,a+1,b,n::l,r,hf,h,hn,s,hs=>by
  have h':skip (a+n.c.toNat) l=some r:=h;have hn': ∀x∈l,bG x=true:=fun x hx=>hn x (List.mem_cons_of_mem _ hx);have hl:l.length<f:=by simpa using hf
  obtain⟨c1,c2,c3,c4⟩:=dG (hn n List.mem_cons_self);have hrl:=rG h';have hrn: ∀x∈r,bG x=true:=fun x hx=>by grind[fN,List.mem_of_mem_drop]
  have hfb:cC (f+1) b r=cC f b r:=eH f b r s (by omega) hs hrn (f+1) (by omega);rw[show a+1+b=a+b+1 from by omega,hfb];simp only[cC];split
  · rename_i hk;rw[c3 hk]at h';rw[lP f a b l r hl (by grind) hn' s hs];rfl
  ·
   rw[Nat.add_comm,eG]at h';cases hs1:skip n.c.toNat l with
   |none=>grind
   |some r1=>
    rw[hs1]at h';have h2:skip a r1=some r:=h';have hr1:=rG hs1;obtain⟨j,_,hj,_,_⟩:=fN l _ _ hs1;rw[Option.getD_some,lP f a b r1 r (by omega) h2 (fun x hx=>hn' x (by rw[hj]at hx;exact List.mem_of_mem_drop hx)) s hs];simp
def mQ (t:List Nd):List (List aJ):=cC (t.length+1) 1 t
def gB (r:Pr):List (List aJ):=[wRule,r.a,r.b,r.c,numW r.g]::mQ r.t
def dS (p:Po):List (List aJ):=[wPolicy,p.n,numW p.v]::p.r.flatMap gB
def kZ (p:Po):aJ:=if eK p then iK (dS p)else []
def oW (p:Po):Int:=if eK p then gM (dS p)else 1
def eR (l:List Nd)(i:Nat):List (List aJ):=cC (l.length+1) 1 (l.drop i)
variable {i:Nat}
theorem pP (hi:i<l.length)(hk:l[i].k=1):eR l i=[wlR l[i].q]:=by
 unfold eR;rw[List.drop_eq_getElem_cons hi,cC,if_pos hk];cases l.length<;>simp[cC]
def cU (l:List Nd)(i k:Nat):List (List aJ):=cC (l.length+1) k (l.drop (i+1))
theorem iA (l:List Nd)(i:Nat):cU l i 0=[]:=by unfold cU;cases l.drop (i+1)<;>rfl
theorem nV (ht:IsTree l)(hi:i<l.length)(hk:l[i].k≠1):eR l i=wlN l[i]::(cU l i l[i].c.toNat++[[wEnd]]):=by
 have ha:=(iM ht hi).2.2;rw[List.drop_eq_getElem_cons hi]at ha;have ha':skip (0+l[i].c.toNat) (l.drop (i+1))=some (l.drop (aft l i)):=ha;rw[Nat.zero_add]at ha';have hn': ∀x∈l.drop (i+1),bG x=true:=fun x hx=>ht.node x (List.mem_of_mem_drop hx);unfold eR cU;rw[List.drop_eq_getElem_cons hi];simp only[cC];rw[if_neg hk,ha',eH l.length _ _ _ (by grind) ha' hn' (l.length+1) (by omega)];have: ∀f (x:List Nd),cC f 0 x=[]:=fun f x=>by cases f<;>cases x<;>rfl
 grind
theorem mK (ht:IsTree l)(hi:i<l.length)(hk:k<l[i].c.toNat):cU l i (k+1)=cU l i k++eR l (cX l k (i+1)):=by
 have key: ∀k,k≤l[i].c.toNat→skip k (l.drop (i+1))=some (l.drop (cX l k (i+1))):=by
  intro k;induction k with
  |zero=>intro _;rw[cL];rfl
  |succ k ih=>
   grind[eG,fJ,iM,lK]
 unfold cU eR;exact lP _ k 1 _ _ (by grind) (key k (by omega)) (fun x hx=>ht.node x (List.mem_of_mem_drop hx)) _ (iM ht (lK ht hi hk)).2.2
def fK (w:List aJ):Option Rq:=
 if w.length=2∧wd w 0=dI then(bK (wd w 1)).map (⟨1,·,0,[]⟩)
 else if w.length=2∧wd w 0=dX then some ⟨2,0,0,wd w 1⟩
 else if w.length=2∧wd w 0=dR then(bK (wd w 1)).map (⟨3,·,0,[]⟩)
 else if w.length=3∧wd w 0=eQ then match bK (wd w 1),bK (wd w 2)with|some n,some m=>some ⟨4,n,m,[]⟩|_,_=>none
 else if w.length=2∧wd w 0=gE then(bK (wd w 1)).map (⟨5,·,0,[]⟩)
 else if w.length=2∧wd w 0=jY then(bK (wd w 1)).map (⟨6,·,0,[]⟩)
 else if w.length=2∧wd w 0=kY then(bK (wd w 1)).map (⟨7,·,0,[]⟩)
 else if w.length=1∧wd w 0=gZ then some ⟨8,0,0,[]⟩else none
def jZ (w:List aJ):Option Nd:=
 if w.length=1∧wd w 0=lN then some ⟨2,0,0,rq0⟩else if w.length=1∧wd w 0=lO then some ⟨3,0,0,rq0⟩
 else if w.length=2∧wd w 0=cO then(bK (wd w 1)).map (⟨4,·,0,rq0⟩)else none
def gR (w:List aJ):Bool:=w.length==1&&wd w 0==wEnd
mutual
def rdN :Nat→List (List aJ)→Option (List Nd)×List (List aJ)
 |0,ls=>(none,ls)
 |_+1,[]=>(none,[])
 |f+1,w::r=>match fK w with
  |some q=>(some [⟨1,0,0,q⟩],r)
  |none=>match jZ w with
   |none=>(none,w::r)
   |some n=>match rdK f r with
    |(none,r')=>(none,r')
    |(some (ts,c),r')=>(some ({n with c:=c}::ts),r')
def rdK :Nat→List (List aJ)→Option (List Nd×Int)×List (List aJ)
 |0,ls=>(none,ls)
 |f+1,ls=>if gR (ls.headD [])then(some ([],0),ls.tail)else match rdN f ls with
  |(none,r)=>(none,r)
  |(some t,r)=>match rdK f r with
   |(none,r')=>(none,r')
   |(some (ts,c),r')=>(some (t++ts,c+1),r')
end
def rdT (ls:List (List aJ)):Option (List Nd)×List (List aJ):=rdN (2*ls.length+2) ls
def rdR (ls:List (List aJ)):Option Pr×List (List aJ):=match ls with
 |[]=>(none,[])
 |w::r=>if w.length=5∧wd w 0=wRule then match bK (wd w 4)with
   |none=>(none,w::r)
   |some g=>match rdT r with|(none,r')=>(none,r')|(some t,r')=>(some ⟨wd w 1,wd w 2,wd w 3,g,t⟩,r')
  else(none,w::r)
def kI :Nat→List (List aJ)→List Pr→Option (List Pr)×List (List aJ)
 |0,ls,_=>(none,ls)
 |f+1,ls,a=>if ls=[]then(some a,[])else match rdR ls with
  |(none,r)=>(none,r)
  |(some x,r)=>kI f r (a++[x])
def rdP (ls:List (List aJ)):Option Po×List (List aJ):=match ls with
 |[]=>(none,[])
 |w::r=>if w.length=3∧wd w 0=wPolicy then match bK (wd w 2)with
   |none=>(none,w::r)
   |some v=>match kI (r.length+1) r []with|(none,r')=>(none,r')|(some l,r')=>(some ⟨wd w 1,v,l⟩,r')
  else(none,w::r)
def dpE (b:aJ):Int:=if eC b≠0 then eC b else match(rdP (eD b)).1 with|none=>2|some p=>if eK p then 0 else 1
def dpL (b:aJ):Nat:=if eC b≠0 then 0 else match rdP (eD b)with|(none,r)=>(eD b).length-r.length|(some _,_)=>0
def po0 :Po:=⟨[],0,[]⟩
def dpO (b:aJ):Po:=if dpE b=0 then((rdP (eD b)).1).getD po0 else po0
theorem uH : ∀(a:aJ) (c:UInt8) (n k:Nat),dK (a++[c]) n=some k→ ∃k',dK a n=some k'∧nQ c=true∧k=10*k'+(c.toNat-48)
 |[],c,n,k,h=>by
  simp only[List.nil_append,dK]at h;split at h
  · rename_i hc;cases h;exact⟨n,rfl,hc,rfl⟩
  · cases h
 |b::a,c,n,k,h=>by
  simp only[List.cons_append,dK]at h⊢;split at h
  · rename_i hb;rw[if_pos hb];exact uH a c _ k h
  · cases h
theorem bA0 : ∀(m:Nat) (s:aJ) (k:Nat),s.length≤m→s≠[]→(1<s.length→s.head? ≠some 48)→dK s 0=some k→Lib.decDigits k=s
 |0,s,_,hm,h0,_,_=>absurd (List.eq_nil_of_length_eq_zero (by omega)) h0
 |m+1,s,k,hm,h0,h1,h=>by
  obtain⟨a,c,rfl⟩: ∃a c,s=a++[c]:=⟨s.dropLast,s.getLast h0,(List.dropLast_concat_getLast h0).symm⟩;obtain⟨k',hk',hc,rfl⟩:=uH a c 0 k h;simp only[nQ,Bool.and_eq_true,decide_eq_true_eq]at hc;have hcc:UInt8.ofNat (48+(c.toNat-48))=c:=by
   refine UInt8.toNat_inj.1 ?_;rw[UInt8.toNat_ofNat'];omega
  by_cases ha:a=[]
  · subst ha;simp only[dK,Option.some.injEq]at hk';subst hk';rw[Lib.decDigits_one (by omega)];grind
  ·
   have hlen:1<(a++[c]).length:=by
    have:=List.length_pos_iff.2 ha;simp;omega
   have hh:(a++[c]).head? =a.head? :=by
    cases a with
    |nil=>grind
    |cons x a=>rfl
   have ih:=bA0 m a k' (by grind) ha (fun _=>by grind) hk';have hk0:k'≠0:=by
    rintro rfl;rw[Lib.decDigits_one (by omega)]at ih;have:=h1 hlen;rw[hh,←ih]at this;exact this rfl
   rw[Lib.decDigits,dif_neg (by omega),show(10*k'+(c.toNat-48))/10=k' from by omega,ih,show 48+(10*k'+(c.toNat-48))%10=48+(c.toNat-48)from by omega,hcc]
theorem lQ {s:aJ}(h:bK s=some n):numW n=s:=by
 have hr:=aU0 h;unfold bK at h;split at h
 · cases h
 ·
  rename_i hb;have hb':gY s=false:=by simpa using hb
  simp only[gY,Bool.or_eq_false_iff,decide_eq_false_iff_not,Bool.and_eq_false_iff,beq_eq_false_iff_ne]at hb';split at h
  ·
   rename_i k hk;split at h
   · cases h
   · cases h;rw[rF hr.1];refine bA0 s.length s _ (Nat.le_refl _) (fun e=>by grind) (fun hl=>?_) (by grind);grind[List.head?_eq_getElem?]
  grind
variable {w:List aJ}
theorem bY9 (h:w.length=1):w=[wd w 0]:=by
 match w,h with
 |[a],_=>rfl
theorem cG2 (h:w.length=2):w=[wd w 0,wd w 1]:=by
 match w,h with
 |[a,b],_=>rfl
theorem cL7 (h:w.length=3):w=[wd w 0,wd w 1,wd w 2]:=by
 match w,h with
 |[a,b,c],_=>rfl
theorem cO9 (h:w.length=5):w=[wd w 0,wd w 1,wd w 2,wd w 3,wd w 4]:=by
 match w,h with
 |[a,b,c,d,e],_=>rfl
variable {q:Rq}
theorem bQ2 (h:fK w=some q):wlR q=w:=by
 have num: ∀{k:Int} {nm:aJ},(∀n:Int,wlR ⟨k,n,0,[]⟩=[nm,numW n])→w.length=2∧wd w 0=nm→(bK (wd w 1)).map (⟨k,·,0,[]⟩)=some q→wlR q=w:=by
  intro k nm h1 h2 h3;cases hv:bK (wd w 1)with
  |none=>grind
  |some n=>
   grind[lQ,cG2]
 unfold fK at h;split at h
 · rename_i h1;exact num (fun n=>rfl) h1 h
 split at h
 · rename_i h1;cases h;rw[cG2 h1.1,h1.2];rfl
 split at h
 · rename_i h1;exact num (fun n=>rfl) h1 h
 split at h
 ·
  rename_i h1;split at h
  · rename_i n m hn hm;cases h;show [eQ,numW n,numW m]=w;grind[lQ,cL7]
  grind
 split at h
 · rename_i h1;exact num (fun n=>rfl) h1 h
 split at h
 · rename_i h1;exact num (fun n=>rfl) h1 h
 split at h
 · rename_i h1;exact num (fun n=>rfl) h1 h
 split at h
 · rename_i h1;cases h;rw[bY9 h1.1,h1.2];rfl
 grind
theorem bQ3 {n:Nd}(h:jZ w=some n)(c:Int):wlN {n with c:=c}=w∧n.k≠1:=by
 unfold jZ at h;split at h
 · rename_i h1;cases h;exact⟨by rw[bY9 h1.1,h1.2];rfl,by decide⟩
 split at h
 · rename_i h1;cases h;exact⟨by rw[bY9 h1.1,h1.2];rfl,by decide⟩
 split at h
 ·
  rename_i h1;cases hv:bK (wd w 1)with
  |none=>grind
  |some m=>
   rw[hv]at h;cases h;refine⟨?_,by grind⟩;show [cO,numW m]=w;grind[lQ,cG2]
 grind
theorem iX : ∀(t x r:List Nd) (m:Nat),skip m t=some r→skip m (t++x)=some (r++x)
 |t,x,r,0,h=>by grind[cL]
 |[],x,r,m+1,h=>by cases h
 |n::t,x,r,m+1,h=>by
  have h':skip (m+n.c.toNat) t=some r:=h;exact iX t x r _ h'
theorem fL : ∀(f m:Nat) (t x r:List Nd),(t++x).length<f→skip m t=some r→(∀n∈t,bG n=true)→cC f m (t++x)=cC f m t
 |0,_,_,_,_,h,_,_=>by omega
 |f+1,0,t,x,r,_,_,_=>by cases t<;>cases x<;>rfl
 |f+1,m+1,[],x,r,_,h,_=>by cases h
 |f+1,m+1,n::t,x,r,hf,h,hn=>by
  have h':skip (m+n.c.toNat) t=some r:=h;have hn': ∀y∈t,bG y=true:=fun y hy=>hn y (List.mem_cons_of_mem _ hy);have hl:(t++x).length<f:=by simpa using hf
  obtain⟨c1,c2,c3,c4⟩:=dG (hn n List.mem_cons_self);simp only[List.cons_append,cC];split
  · rename_i hk;rw[c3 hk]at h';rw[fL f m t x r hl (by grind) hn']
  ·
   rw[Nat.add_comm,eG]at h';cases hs:skip n.c.toNat t with
   |none=>grind
   |some r1=>
    rw[hs]at h';have h2:skip m r1=some r:=h';obtain⟨j,_,hj,_,_⟩:=fN t _ _ hs;have hr1:=rG hs;rw[fL f _ t x r1 hl hs hn',iX t x r1 _ hs,Option.getD_some,Option.getD_some,
     fL f m r1 x r (by grind) h2 (fun y hy=>hn' y (by grind))]
theorem aA7 (h:gR w=true):w=[wEnd]:=by
 unfold gR at h;simp only[Bool.and_eq_true,beq_iff_eq]at h;rw[bY9 h.1,h.2]
theorem bQ4 : ∀(f:Nat),(∀ls t r,rdN f ls=(some t,r)→(∀n∈t,bG n=true)→skip 1 t=some []∧ls=cC (t.length+1) 1 t++r)∧
  (∀ls ts c r,rdK f ls=(some (ts,c),r)→(∀n∈ts,bG n=true)→0≤c∧skip c.toNat ts=some []∧ls=cC (ts.length+1) c.toNat ts++([wEnd]::r))
 |0=>⟨fun ls t r h _=>(by grind[rdN]),fun ls ts c r h _=>(by grind[rdK])⟩
 |f+1=>by
  obtain⟨ihN,ihK⟩:=bQ4 f;have z0: ∀f (x:List Nd),cC f 0 x=[]:=fun f x=>by cases f<;>cases x<;>rfl
  refine⟨fun ls t r h hn=>?_,fun ls ts c r h hn=>?_⟩
  ·
   cases ls with
   |nil=>grind[rdN]
   |cons w rest=>
    simp only[rdN]at h;split at h
    · rename_i q hq;cases h;refine⟨rfl,?_⟩;simp only[List.length_singleton,cC];rw[if_pos trivial,bQ2 hq];grind
    ·
     split at h
     · cases h
     ·
      rename_i n hin;cases hk:rdK f rest with
      |mk o r'=>
       rw[hk]at h;cases o with
       |none=>cases h
       |some p=>
        obtain⟨ts,c⟩:=p;simp only[Prod.mk.injEq,Option.some.injEq]at h;obtain⟨rfl,rfl⟩:=h;obtain⟨g1,g2,g3⟩:=ihK _ _ _ _ hk fun x hx=>hn x (List.mem_cons_of_mem _ hx);obtain⟨e1,e2⟩:=bQ3 hin c;refine⟨?_,?_⟩
        · show skip (0+c.toNat) ts=some [];rw[Nat.zero_add];exact g2
        · simp only[List.length_cons,cC];rw[if_neg e2,e1,g3];simp[z0]
  ·
   simp only[rdK]at h;split at h
   ·
    rename_i he;cases h;cases ls with
    |nil=>simp[gR]at he
    |cons w rest=>
     have:=aA7 he;simp only[List.headD_cons]at this;subst this;exact⟨by omega,rfl,rfl⟩
   ·
    cases h1:rdN f ls with
    |mk o r1=>
     rw[h1]at h;cases o with
     |none=>cases h
     |some t=>
      simp only at h;cases h2:rdK f r1 with
      |mk o2 r2=>
       rw[h2]at h;cases o2 with
       |none=>cases h
       |some p=>
        obtain⟨ts2,c2⟩:=p;simp only[Prod.mk.injEq,Option.some.injEq]at h;obtain⟨⟨rfl,rfl⟩,rfl⟩:=h;obtain⟨a1,a2⟩:=ihN _ _ _ h1 fun x hx=>hn x (List.mem_append_left _ hx);have hn2: ∀n∈ts2,bG n=true:=fun x hx=>hn x (List.mem_append_right _ hx);obtain⟨b1,b2,b3⟩:=ihK _ _ _ _ h2 hn2;have e:(c2+1).toNat=1+c2.toNat:=by omega
        have s1:=iX t ts2 [] 1 a1;rw[List.nil_append]at s1;refine⟨by omega,?_,?_⟩
        · rw[e,eG,s1];exact b2
        ·
         rw[a2,b3,e,lP ((t++ts2).length+1) 1 c2.toNat (t++ts2) ts2 (Nat.lt_succ_self _) s1 hn _ b2,
          fL _ 1 t ts2 [] (Nat.lt_succ_self _) a1 (fun x hx=>hn x (List.mem_append_left _ hx)),
          eH (t.length+1) 1 t [] (by omega) a1 (fun x hx=>hn x (List.mem_append_left _ hx)) ((t++ts2).length+1) (by simp),
          eH (ts2.length+1) _ ts2 [] (by omega) b2 hn2 ((t++ts2).length+1) (by simp)]
         simp
variable {r:List (List aJ)}
theorem bZ0 {x:Pr}(h:rdR ls=(some x,r))(hv:dH x.t=true):ls=gB x++r∧r.length<ls.length:=by
 cases ls with
 |nil=>grind[rdR]
 |cons w rest=>
  simp only[rdR]at h;split at h
  ·
   rename_i h1;split at h
   · cases h
   ·
    rename_i g hg;cases ht:rdT rest with
    |mk o r'=>
     rw[ht]at h;cases o with
     |none=>cases h
     |some t=>
      simp only[Prod.mk.injEq,Option.some.injEq]at h;obtain⟨rfl,rfl⟩:=h;obtain⟨-,g2⟩:=(bQ4 _).1 _ _ _ ht (lG hv).node;have hw:=cO9 h1.1;rw[h1.2]at hw;refine⟨?_,?_⟩
      · show w::rest=([wRule,wd w 1,wd w 2,wd w 3,numW g]::mQ t)++r';rw[lQ hg,←hw,g2];rfl
      grind
  grind
theorem aN9 : ∀(f:Nat) (ls:List (List aJ)) (a l:List Pr) (r:List (List aJ)),kI f ls a=(some l,r)→(∀x∈l,dH x.t=true)→ ∃m,l=a++m∧ls=m.flatMap gB∧r=[]
 |0,ls,a,l,r,h,_=>by grind[kI]
 |f+1,ls,a,l,r,h,hv=>by
  simp only[kI]at h;split at h
  · simp_all
  ·
   cases hr:rdR ls with
   |mk o r1=>
    rw[hr]at h;cases o with
    |none=>cases h
    |some x=>
     obtain⟨m,rfl,hm,hr0⟩:=aN9 f r1 (a++[x]) l r h hv;obtain⟨g1,g2⟩:=bZ0 hr (hv x (by simp));grind
variable {p:Po}
theorem bZ1 (h:rdP ls=(some p,r))(hv:eK p=true):ls=dS p:=by
 have ht: ∀x∈p.r,dH x.t=true:=fun x hx=>by simp_all[eK,Bool.and_eq_true,List.all_eq_true,iW]
 cases ls with
 |nil=>grind[rdP]
 |cons w rest=>
  simp only[rdP]at h;split at h
  ·
   rename_i h1;split at h
   · cases h
   ·
    rename_i v hg;cases hr:kI (rest.length+1) rest []with
    |mk o r'=>
     rw[hr]at h;cases o with
     |none=>cases h
     |some l=>
      simp only[Prod.mk.injEq,Option.some.injEq]at h;obtain⟨rfl,rfl⟩:=h;obtain⟨m,rfl,hm,-⟩:=aN9 _ _ _ _ _ hr ht;have hw:=cL7 h1.1;rw[h1.2]at hw;show w::rest=[wPolicy,wd w 1,numW v]::_;rw[lQ hg,←hw,hm]
  grind
theorem bQ5 (h:eC b=0):gM (eD b)=0∧iK (eD b)=b:=by
 have hO:eD b=(fQ b).getD []:=by unfold eD;grind
 unfold eC at h;split at h
 · cases h
 ·
  rename_i hb;cases hv:fQ b with
  |none=>grind
  |some ls=>
   rw[hv]at h hO;simp only at h;split at h
   · cases h
   ·
    rename_i hl;rw[hO,Option.getD_some];by_cases hne:b=[]
    · grind[fQ,gM,eW,iK]
    ·
     have hlast: ∃m,b=m++[10]:=by
      unfold fQ at hv;rw[if_neg hne]at hv;split at hv
      · grind[kR]
      · grind
     obtain⟨m,rfl⟩:=hlast;rw[oP]at hv;cases hu:(aP 10 m).mapM unL with
     |none=>grind[pD]
     |some ls'=>
      rw[aN6 hu]at hv;split at hv
      ·
       rename_i hall;cases hv;have hd:=aA6 hu;have hE:gM ls=0:=by simp_all[qR,List.all_eq_true,if_neg]
       grind[qS]
      grind
theorem cG3 (h0:eC b=0)(h:rdP (eD b)=(some p,r)):(oW p=0∧kZ p=b)↔eK p=true:=by
 constructor
 · grind[oW]
 · intro hv;have hl:=bZ1 h hv;obtain⟨e1,e2⟩:=bQ5 h0;simp_all[oW,kZ,if_pos]
theorem jJ {a b:Int}:inB n a b=true↔a≤n∧n≤b:=by unfold inB;simp
theorem bQ6 (h:dC q=true):fK (wlR q)=some q:=by
 obtain⟨k,n,m,t⟩:=q;have hv: ∀{a b:Int},inB n a b=true→0≤a→b≤1099511627776→bK (numW n)=some n:=fun h h1 h2=>by grind[jJ,iN]
 unfold dC at h;simp only at h;split at h
 ·
  rename_i h1;simp only[Bool.and_eq_true,beq_iff_eq]at h;obtain⟨h2,rfl,rfl⟩:=h;have hn:=hv h2 (by omega) (by omega);rcases h1 with rfl|rfl|rfl
  · show(bK (numW n)).map _=_;grind
  · show(bK (numW n)).map _=_;grind
  · show(bK (numW n)).map _=_;grind
 split at h
 · rename_i h1;subst h1;simp only[Bool.and_eq_true,beq_iff_eq]at h;obtain⟨h2,h3,rfl⟩:=h;have hn:=hv h2 (by omega) (by omega);rw[jJ]at h3;have hm:bK (numW m)=some m:=iN (by omega) (by omega);show(match bK (numW n),bK (numW m)with|some n,some m=>some (⟨4,n,m,[]⟩:Rq)|_,_=>none)=_;grind
 split at h
 · rename_i h1;subst h1;simp only[Bool.and_eq_true,beq_iff_eq]at h;obtain⟨-,rfl,rfl⟩:=h;rfl
 split at h
 · rename_i h1;subst h1;simp only[Bool.and_eq_true,beq_iff_eq]at h;obtain⟨h2,rfl,rfl⟩:=h;have hn:=hv h2 (by omega) (by omega);show(bK (numW n)).map _=_;grind
 split at h
 · rename_i h1;subst h1;simp only[Bool.and_eq_true,beq_iff_eq]at h;obtain⟨h2,rfl,rfl⟩:=h;have hn:=hv h2 (by omega) (by rw[gA];omega);show(bK (numW n)).map _=_;grind
 split at h
 · rename_i h1;subst h1;simp only[Bool.and_eq_true,beq_iff_eq]at h;obtain⟨rfl,rfl,rfl⟩:=h;rfl
 grind
theorem aO0 {n:Nd}(h:bG n=true)(hk:n.k≠1):jZ (wlN n)=some {n with c:=0}∧fK (wlN n)=none:=by
 obtain⟨k,a,c,q⟩:=n;unfold bG at h;simp only at h hk;rw[if_neg hk]at h;split at h
 · rename_i h1;simp only[Bool.and_eq_true,beq_iff_eq,wL]at h;obtain⟨-,rfl,rfl⟩:=h;rcases h1 with rfl|rfl<;>exact⟨rfl,rfl⟩
 split at h
 · rename_i h1;subst h1;simp only[Bool.and_eq_true,wL,jJ]at h;obtain⟨⟨c1,c2⟩,rfl,a1,a2⟩:=h;refine⟨?_,rfl⟩;show(bK (numW a)).map _=_;grind[iN]
 grind
theorem pQ {r:List Nd}(h:skip m l=some r): ∃t,l=t++r∧skip m t=some []:=by
 induction l generalizing m with
 |nil=>
  cases m with
  |zero=>rw[cL]at h;cases h;exact⟨[],rfl,rfl⟩
  |succ m=>cases h
 |cons n l ih=>
  cases m with
  |zero=>rw[cL]at h;cases h;exact⟨[],rfl,rfl⟩
  |succ m=>
   obtain⟨t,h1,h2⟩:=ih (m:=m+n.c.toNat) h;exact⟨n::t,by rw[h1];rfl,h2⟩
theorem xI {n:Nd}(h:bG n=true)(hk:n.k≠1):gR (wlN n)=false:=by
 unfold wlN;split
 · rfl
 ·
  split
  · rfl
  · rfl
theorem xJ (q:Rq):gR (wlR q)=false:=by
 unfold wlR
 repeat' split
 all_goals rfl
theorem aU7 : ∀(f:Nat),(∀t rest,skip 1 t=some []→(∀n∈t,bG n=true)→2*t.length≤f→rdN f (cC (t.length+1) 1 t++rest)=(some t,rest))∧
  (∀ts c rest,skip c ts=some []→(∀n∈ts,bG n=true)→2*ts.length+1≤f→rdK f (cC (ts.length+1) c ts++([wEnd]::rest))=(some (ts,(c:Int)),rest))
 |0=>⟨fun t rest h _ hf=>(by
   have:t=[]:=List.eq_nil_of_length_eq_zero (by omega);subst this;cases h),fun ts c rest _ _ hf=>by omega⟩
 |f+1=>by
  obtain⟨ihN,ihK⟩:=aU7 f;have z0: ∀f (x:List Nd),cC f 0 x=[]:=fun f x=>by cases f<;>cases x<;>rfl
  refine⟨fun t rest h hn hf=>?_,fun ts c rest h hn hf=>?_⟩
  ·
   cases t with
   |nil=>cases h
   |cons n ts=>
    have hnn:=hn n List.mem_cons_self;have hn': ∀x∈ts,bG x=true:=fun x hx=>hn x (List.mem_cons_of_mem _ hx);have h':skip (0+n.c.toNat) ts=some []:=h;rw[Nat.zero_add]at h';obtain⟨c1,c2,c3,c4⟩:=dG hnn;simp only[List.length_cons,cC];by_cases hk:n.k=1
    ·
     rw[if_pos hk];rw[c3 hk]at h';have:ts=[]:=by
      cases ts with
      |nil=>rfl
      |cons a b=>grind[skip,cL]
     subst this;have hq:dC n.q=true∧n.n=0:=by
      unfold bG at hnn;rw[if_pos hk]at hnn;simp only[Bool.and_eq_true,beq_iff_eq]at hnn;exact⟨hnn.2.2,hnn.2.1⟩
     simp only[List.cons_append,List.nil_append,rdN,bQ6 hq.1];obtain⟨k,a,c,q⟩:=n;simp only at hk hq c3;rw[hk,hq.2,c3 hk]
    ·
     rw[if_neg hk];obtain⟨e1,e2⟩:=aO0 hnn hk;have:=ihK ts n.c.toNat rest h' hn' (by grind);simp only[List.cons_append,List.append_assoc,List.nil_append,rdN,e2,e1,this];have:((n.c.toNat:Nat):Int)=n.c:=by omega
     rw[this]
  ·
   cases c with
   |zero=>
    rw[cL]at h;cases h;rw[z0];simp only[List.nil_append,rdK,List.headD_cons,show gR [wEnd]=true from rfl,if_true,List.tail_cons];rfl
   |succ c=>
    rw[Nat.add_comm,eG]at h;cases h1:skip 1 ts with
    |none=>grind
    |some r=>
     rw[h1]at h;have h2:skip c r=some []:=h;obtain⟨t,rfl,ht⟩:=pQ h1;have hnt: ∀x∈t,bG x=true:=fun x hx=>hn x (List.mem_append_left _ hx);have hnr: ∀x∈r,bG x=true:=fun x hx=>hn x (List.mem_append_right _ hx);have ht1:1≤t.length:=by
      cases t with
      |nil=>cases ht
      |cons _ _=>simp
     simp only[List.length_append]at hf;have e:cC ((t++r).length+1) (c+1) (t++r)=cC (t.length+1) 1 t++cC (r.length+1) c r:=by
      rw[Nat.add_comm c 1,lP _ 1 c (t++r) r (Nat.lt_succ_self _) h1 hn _ h2,fL _ 1 t r [] (Nat.lt_succ_self _) ht hnt,
       eH (t.length+1) 1 t [] (by omega) ht hnt ((t++r).length+1) (by simp),eH (r.length+1) c r [] (by omega) h2 hnr ((t++r).length+1) (by simp)]
     rw[e,List.append_assoc];have a1:=ihN t (cC (r.length+1) c r++[wEnd]::rest) ht hnt (by omega);have a2:=ihK r c rest h2 hnr (by omega);have hne:gR ((cC (t.length+1) 1 t++(cC (r.length+1) c r++[wEnd]::rest)).headD [])=false:=by
      cases t with
      |nil=>cases ht
      |cons n t=>
       simp only[List.length_cons,cC];split
       · exact xJ _
       · rename_i hk;exact xI (hnt n List.mem_cons_self) hk
     simp only[rdK];rw[hne];simp only[Bool.false_eq_true,if_false,a1,a2];have:((c:Nat):Int)+1=((c+1:Nat):Int):=by omega
     rw[this]
theorem oQ : ∀(f m:Nat) (l:List Nd),l.length<f→skip m l=some []→(∀n∈l,bG n=true)→l.length≤(cC f m l).length
 |0,_,_,h,_,_=>by omega
 |f+1,m,[],_,_,_=>by simp
 |f+1,0,n::l,_,h,_=>by rw[cL]at h;cases h
 |f+1,m+1,n::l,hf,h,hn=>by
  have h':skip (m+n.c.toNat) l=some []:=h;have hn': ∀y∈l,bG y=true:=fun y hy=>hn y (List.mem_cons_of_mem _ hy);have hl:l.length<f:=by simpa using hf
  obtain⟨c1,c2,c3,c4⟩:=dG (hn n List.mem_cons_self);simp only[cC];split
  · rename_i hk;rw[c3 hk]at h';have:=oQ f m l hl (by simpa using h') hn';simp only[List.length_cons];omega
  ·
   rw[Nat.add_comm,eG]at h';cases hs:skip n.c.toNat l with
   |none=>rw[hs]at h';cases h'
   |some r1=>
    rw[hs]at h';have h2:skip m r1=some []:=h';obtain⟨t,rfl,ht⟩:=pQ hs;simp only[List.length_append]at hl;have hnt: ∀x∈t,bG x=true:=fun x hx=>hn' x (List.mem_append_left _ hx);have a1:=oQ f _ t (by omega) ht hnt;have a2:=oQ f m r1 (by omega) h2 (fun x hx=>hn' x (List.mem_append_right _ hx));rw[Option.getD_some,fL f _ t r1 [] (by simp;omega) ht hnt];simp only[List.length_cons,List.length_append];omega
variable {t:List Nd}
theorem bZ2 (h:IsTree t)(rest:List (List aJ)):rdT (mQ t++rest)=(some t,rest):=by
 have:=oQ (t.length+1) 1 t (by omega) h.skip h.node;exact(aU7 _).1 t rest h.skip h.node (by simp only[mQ,List.length_append];omega)
theorem iB {r:Pr}(h:iW r=true):(0≤r.g∧r.g≤1099511627776)∧IsTree r.t∧cW r.a=true∧(eL r.b).isSome=true∧(eL r.c).isSome=true:=by
 unfold iW at h;simp only[Bool.and_eq_true,jJ]at h;obtain⟨h1,h2,h3,⟨h4,h5⟩,h6⟩:=h;rw[gA]at h5;exact⟨⟨h4,h5⟩,lG h6,h1,h2,h3⟩
theorem bZ3 {r:Pr}(h:iW r=true)(rest:List (List aJ)):rdR (gB r++rest)=(some r,rest):=by
 obtain⟨⟨g0,g1⟩,ht,-⟩:=iB h;show rdR ([wRule,r.a,r.b,r.c,numW r.g]::(mQ r.t++rest))=_;unfold rdR;simp only;rw[if_pos ⟨rfl,rfl⟩];have:bK (wd [wRule,r.a,r.b,r.c,numW r.g] 4)=some r.g:=iN g0 g1;rw[this];simp only;rw[bZ2 ht];rfl
theorem aO1 : ∀(l a:List Pr) (f:Nat),(∀r∈l,iW r=true)→l.length<f→kI f (l.flatMap gB) a=(some (a++l),[])
 |[],a,f,_,hf=>by
  obtain⟨g,rfl⟩: ∃g,f=g+1:=⟨f-1,by simp at hf;omega⟩;simp[kI]
 |r::l,a,f,h,hf=>by
  obtain⟨g,rfl⟩: ∃g,f=g+1:=⟨f-1,by simp at hf;omega⟩;simp only[List.flatMap_cons,kI];rw[if_neg (by simp[gB]),bZ3 (h r List.mem_cons_self)];simp only;rw[aO1 l (a++[r]) g (fun x hx=>h x (List.mem_cons_of_mem _ hx)) (by simp at hf;omega)];simp
theorem bA1 : ∀l:List Pr,l.length≤(l.flatMap gB).length
 |[]=>by simp
 |r::l=>by have:=bA1 l;simp[gB]at this⊢;omega
theorem oR (h:eK p=true):(1≤p.v∧p.v≤1099511627776)∧p.r.length≤16∧cW p.n=true∧ ∀r∈p.r,iW r=true:=by
 unfold eK at h;simp only[Bool.and_eq_true,jJ,decide_eq_true_eq,List.all_eq_true]at h;obtain⟨h1,⟨h2,h3⟩,h4,h5,-⟩:=h;rw[gA]at h3;exact⟨⟨h2,h3⟩,h4,h1,h5⟩
theorem bZ4 (h:eK p=true):rdP (dS p)=(some p,[]):=by
 obtain⟨⟨v0,v1⟩,-,-,hr⟩:=oR h;show rdP ([wPolicy,p.n,numW p.v]::p.r.flatMap gB)=_;unfold rdP;simp only;rw[if_pos ⟨rfl,rfl⟩];have:bK (wd [wPolicy,p.n,numW p.v] 2)=some p.v:=iN (by omega) v1;rw[this];simp only;rw[aO1 p.r [] _ hr (by have:=bA1 p.r;omega)];rfl
theorem bG9 (h:oW p=0):dpE (kZ p)=0∧dpO (kZ p)=p∧dpL (kZ p)=0:=by
 have hv:eK p=true:=by
  unfold oW at h;split at h
  · assumption
  · cases h
 have he:gM (dS p)=0:=by unfold oW at h;rw[if_pos hv]at h;exact h
 have hb:kZ p=iK (dS p):=by unfold kZ;rw[if_pos hv]
 obtain⟨h1,h2⟩:=aZ9 he;have hr:=bZ4 hv;rw[hb];have hE:dpE (iK (dS p))=0:=by unfold dpE;rw[if_neg (by rw[h1];simp),h2,hr];simp only;rw[if_pos hv]
 exact⟨hE,by unfold dpO;rw[if_pos hE,h2,hr];rfl,by unfold dpL;rw[if_neg (by rw[h1];simp),h2,hr]⟩
theorem bA2 : ∀(l:List Nd) (m:Nat) (v:Int),skip m l=some []→(∀n∈l,bG n=true)→qL l m v=some (0,v+lv l)
 |[],0,v,_,_=>by simp[qL,lv]
 |[],m+1,v,h,_=>by cases h
 |n::l,0,v,h,_=>by grind[cL]
 |n::l,m+1,v,h,hn=>by
  have h':skip (m+n.c.toNat) l=some []:=h;have hnn:=hn n List.mem_cons_self;obtain⟨c1,c2,c3,c4⟩:=dG hnn;have e:((m+1:Nat):Int)+(n.c-1)=((m+n.c.toNat:Nat):Int):=by omega
  rw[qL,if_neg (by omega),if_pos hnn,e,bA2 l _ _ h' (fun x hx=>hn x (List.mem_cons_of_mem _ hx)),lv];grind
theorem aO2 (h:IsTree l):dH l=true:=by
 unfold dH;have:=bA2 l 1 0 h.skip h.node;rw[show((1:Nat):Int)=1 from rfl]at this;rw[this];have:=h.lv;simp[h.ne,h.len];omega
def uni (l:List (Nat×Nat)):List (Nat×Nat):=l.eraseDups
def xK (f:Nat→List (Nat×Nat)):Nat→Nat→Nat×Nat→List (Nat×Nat)
 |0,_,p=>[p]
 |c+1,n,p=>uni ((f n).flatMap fun q=>xK f c (n+q.1) (p.1+q.1,p.2+q.2))
def pos :Nat→Nat→List (Nat×Nat)
 |0,_=>[(1,1)]
 |d+1,n=>uni ((1,1)::if n≤8 then(List.range 3).flatMap fun c=>xK (pos d) (c+1) (n+1) (1,0)else [])
theorem oS {l:List (Nat×Nat)}{p:Nat×Nat}:p∈uni l↔p∈l:=by unfold uni;simp_all
theorem aA8 {f:Nat→List (Nat×Nat)}: ∀{c n:Nat} {p q r:Nat×Nat},q∈xK f c n p→r∈f (n+(q.1-p.1))→p.1≤q.1→(q.1+r.1,q.2+r.2)∈xK f (c+1) n p
 |0,n,p,q,r,hq,hr,_=>by simp_all[xK,List.mem_singleton,Nat.sub_self,Nat.add_zero,oS,List.mem_flatMap]
 |c+1,n,p,q,r,hq,hr,hpq=>by
  unfold xK at hq⊢;rw[oS,List.mem_flatMap]at hq⊢;obtain⟨s,hs,hq⟩:=hq;have hle:p.1+s.1≤q.1:=by
   have key: ∀(c n:Nat) (p q:Nat×Nat),q∈xK f c n p→p.1≤q.1:=by
    intro c;induction c with
    |zero=>simp_all[xK,List.mem_singleton,Nat.le_refl]
    |succ c ih=>
     grind[xK,oS]
   exact key _ _ _ _ hq
  refine⟨s,hs,aA8 hq ?_ hle⟩;grind
structure Made (d n:Nat)(t:List Nd):Prop where
 skip:skip 1 t=some []
 node: ∀n∈t,bG n=true
 pos:(t.length,lv t)∈pos d n
theorem vB (h:Made 3 0 t):IsTree t:=by
 have hb: ∀p∈pos 3 0,1≤p.1∧p.1≤60∧p.2≤16:=by decide+kernel
 obtain⟨h1,h2,h3⟩:=hb _ h.pos;exact⟨h1,h2,h.skip,h.node,h3⟩
variable {d:Nat}
theorem aA9 {n:Nat}(h:dC q=true):Made d n [⟨1,0,0,q⟩]:=by
 refine⟨rfl,fun x hx=>?_,?_⟩
 · simp only[List.mem_singleton]at hx;subst hx;unfold bG;rw[if_pos rfl,h];rfl
 ·
  cases d with
  |zero=>simp[pos,lv]
  |succ d=>rw[pos,oS];exact List.mem_cons_self
structure MadeK (d n k:Nat)(ts:List Nd):Prop where
 skip:skip k ts=some []
 node: ∀n∈ts,bG n=true
 pos:(1+ts.length,lv ts)∈xK (pos d) k (n+1) (1,0)
theorem MadeK.zero (d n:Nat):MadeK d n 0 []:=⟨rfl,by simp,by simp[xK,lv]⟩
variable {ts:List Nd}
theorem MadeK.next {n:Nat}(h:MadeK d n k ts)(ht:Made d (n+1+ts.length) t):MadeK d n (k+1) (ts++t):=by
 refine⟨?_,fun x hx=>?_,?_⟩
 · rw[eG,iX ts t [] k h.skip];exact ht.skip
 ·
  rcases List.mem_append.1 hx with hx|hx
  · exact h.node x hx
  · exact ht.node x hx
 ·
  have:=aA8 (r:=(t.length,lv t)) h.pos (by
   rw[show n+1+(1+ts.length-1)=n+1+ts.length from by omega];exact ht.pos) (by simp)
  grind[sM,Nat.add_assoc]
variable {c:Nat}
theorem MadeK.fin {n:Nat}{x:Nd}(h:MadeK d n c ts)(hn:n≤8)(hx:bG x=true)(hk:x.k≠1)(hc:x.c=c)(h1:1≤c)(h3:c≤3):Made (d+1) n (x::ts):=by
 refine⟨?_,fun y hy=>?_,?_⟩
 · show Pl.skip (0+x.c.toNat) ts=some [];rw[hc,Nat.zero_add];exact h.skip
 ·
  rcases List.mem_cons.1 hy with rfl|hy
  · grind
  · exact h.node y hy
 · rw[Pl.pos,oS];refine List.mem_cons_of_mem _ ?_;rw[if_pos hn,List.mem_flatMap];refine⟨c-1,List.mem_range.2 (by omega),?_⟩;rw[show c-1+1=c from by omega];have:=h.pos;simp_all[lv,if_neg,List.length_cons,Nat.add_comm]
theorem xL (h: ∀l∈ls,l.length≤6∧ ∀w∈l,w.length≤80):(eW ls).length≤1500*ls.length:=by
 induction ls with
 |nil=>simp_all
 |cons l ls ih=>
  have:=ih fun x hx=>h x (List.mem_cons_of_mem _ hx);obtain⟨h1,h2⟩:=h l List.mem_cons_self;have e:(uT l).length≤1500:=by
   have h3:=aE5 l;have key: ∀l:List aJ,(∀w∈l,w.length≤80)→iF l≤242*l.length:=by
    intro l;induction l with
    |nil=>simp_all
    |cons w l ih=>
     grind[List.mem_cons_of_mem,List.mem_cons_self,lH,iF,List.length_cons]
   have h4:=key l h2;simp only[uT,List.length_append,List.length_singleton];omega
  grind[eW,List.length_append,List.length_cons]
theorem xM (h: ∀l∈ls,1≤l.length∧l.length≤6∧ ∀w∈l,w.length≤80)(hl:ls.length≤170):gM ls=0:=by
 have h1: ∀l∈ls,okL l=true:=fun l hx=>(jH l).2 ⟨fun e=>by grind,by grind,fun w hw=>by grind⟩;have:=xL fun l hx=>(h l hx).2;rw[qR (by omega) h1,if_neg (by omega)]
structure Ms where
 n:aJ
 v:Int
 r:List Pr
 o:List Nat
 d:Bool
theorem aU8 : ∀(f:Nat),(∀ls t r,rdN f ls=(some t,r)→r.length<ls.length)∧(∀ls p r,rdK f ls=(some p,r)→r.length<ls.length)
 |0=>⟨fun ls t r h=>(by simp only[rdN]at h;cases h),fun ls p r h=>(by simp only[rdK]at h;cases h)⟩
 |f+1=>by
  obtain⟨ihN,ihK⟩:=aU8 f;refine⟨fun ls t r h=>?_,fun ls p r h=>?_⟩
  ·
   cases ls with
   |nil=>simp only[rdN]at h;cases h
   |cons w rest=>
    simp only[rdN]at h;split at h
    · cases h;simp
    ·
     split at h
     · cases h
     ·
      cases hk:rdK f rest with
      |mk o r'=>
       rw[hk]at h;cases o with
       |none=>cases h
       |some p=>
        cases h;have:=ihK _ _ _ hk;simp only[List.length_cons];omega
  ·
   simp only[rdK]at h;split at h
   ·
    rename_i he;cases h;cases ls with
    |nil=>simp[gR]at he
    |cons w rest=>simp
   ·
    cases h1:rdN f ls with
    |mk o r1=>
     rw[h1]at h;cases o with
     |none=>cases h
     |some t=>
      simp only at h;cases h2:rdK f r1 with
      |mk o2 r2=>
       rw[h2]at h;cases o2 with
       |none=>cases h
       |some q=>
        cases h;have a:=ihN _ _ _ h1;have b:=ihK _ _ _ h2;omega
theorem innR_c {n:Nd}(h:jZ w=some n):n.c=0∧gR w=false:=by
 refine⟨?_,?_⟩
 ·
  unfold jZ at h;split at h
  · cases h;rfl
  split at h
  · cases h;rfl
  split at h
  ·
   cases hv:bK (wd w 1)with
   |none=>rw[hv]at h;cases h
   |some m=>rw[hv]at h;cases h;rfl
  · cases h
 ·
  cases he:gR w with
  |false=>rfl
  |true=>rw[aA7 he]at h;cases h
theorem tE (f:Nat)(x:List Nd):cC f 0 x=[]:=by cases f<;>cases x<;>rfl
theorem bQ7 {n:Nd}(h:skip n.c.toNat ts=some []):cC ((n::ts).length+1) 1 (n::ts)=if n.k=1 then [wlR n.q]else wlN n::(cC (ts.length+1) n.c.toNat ts++[[wEnd]]):=by
 simp only[List.length_cons,cC]
theorem bH0 {r:List Nd}(ht:skip 1 t=some [])(h2:skip c r=some [])(hn: ∀n∈t++r,bG n=true):cC ((t++r).length+1) (c+1) (t++r)=cC (t.length+1) 1 t++cC (r.length+1) c r:=by
 have hnt: ∀x∈t,bG x=true:=fun x hx=>hn x (List.mem_append_left _ hx);have hnr: ∀x∈r,bG x=true:=fun x hx=>hn x (List.mem_append_right _ hx);have h1:=iX t r [] 1 ht;rw[List.nil_append]at h1;rw[Nat.add_comm c 1,lP _ 1 c (t++r) r (Nat.lt_succ_self _) h1 hn _ h2,fL _ 1 t r [] (Nat.lt_succ_self _) ht hnt,
  eH (t.length+1) 1 t [] (by omega) ht hnt ((t++r).length+1) (by simp),eH (r.length+1) c r [] (by omega) h2 hnr ((t++r).length+1) (by simp)]
theorem bH1 (h:skip 1 t=some [])(hn: ∀n∈t,bG n=true): ∃w ls,cC (t.length+1) 1 t=w::ls∧gR w=false:=by
 cases t with
 |nil=>cases h
 |cons n ts=>
  simp only[List.length_cons,cC];split
  · exact⟨_,_,rfl,xJ _⟩
  · rename_i hk;exact⟨_,_,rfl,xI (hn n List.mem_cons_self) hk⟩
theorem vC (f:Nat):rdN f []=(none,[]):=by cases f<;>simp[rdN]
theorem bZ5 (f:Nat):rdK f []=(none,[]):=by
 cases f with
 |zero=>simp[rdK]
 |succ f=>simp[rdK,gR,vC]
theorem bQ8 : ∀(f:Nat),(∀t j,skip 1 t=some []→(∀n∈t,bG n=true)→2*t.length≤f→j<(cC (t.length+1) 1 t).length→rdN f ((cC (t.length+1) 1 t).take j)=(none,[]))∧
  (∀ts c j,skip c ts=some []→(∀n∈ts,bG n=true)→2*ts.length+1≤f→j≤(cC (ts.length+1) c ts).length→rdK f ((cC (ts.length+1) c ts++[[wEnd]]).take j)=(none,[]))
 |0=>⟨fun t j h _ hf _=>(by
   have:t=[]:=List.eq_nil_of_length_eq_zero (by omega);subst this;cases h),fun ts c j _ _ hf=>by omega⟩
 |f+1=>by
  obtain⟨ihN,ihK⟩:=bQ8 f;obtain⟨okN,okK⟩:=aU7 f;refine⟨fun t j h hn hf hj=>?_,fun ts c j h hn hf hj=>?_⟩
  ·
   cases t with
   |nil=>cases h
   |cons n ts=>
    have hnn:=hn n List.mem_cons_self;have hn': ∀x∈ts,bG x=true:=fun x hx=>hn x (List.mem_cons_of_mem _ hx);have h':skip (0+n.c.toNat) ts=some []:=h;rw[Nat.zero_add]at h';rw[bQ7 h']at hj⊢;cases j with
    |zero=>rw[List.take_zero,vC]
    |succ j=>
     by_cases hk:n.k=1
     · grind
     · rw[if_neg hk]at hj⊢;grind[aO0,List.length_cons,rdN]
  ·
   cases j with
   |zero=>rw[List.take_zero,bZ5]
   |succ j=>
    cases c with
    |zero=>grind[tE]
    |succ c=>
     rw[Nat.add_comm,eG]at h;cases h1:skip 1 ts with
     |none=>grind
     |some r=>
      rw[h1]at h;have h2:skip c r=some []:=h;obtain⟨t,rfl,ht⟩:=pQ h1;have hnt: ∀x∈t,bG x=true:=fun x hx=>hn x (List.mem_append_left _ hx);have hnr: ∀x∈r,bG x=true:=fun x hx=>hn x (List.mem_append_right _ hx);have ht1:1≤t.length:=by
       cases t with
       |nil=>cases ht
       |cons _ _=>simp
      simp only[List.length_append]at hf;rw[bH0 ht h2 hn]at hj⊢;obtain⟨w,ls,hw,he⟩:=bH1 ht hnt;have hhd:gR (((cC (t.length+1) 1 t++cC (r.length+1) c r++[[wEnd]]).take (j+1)).headD [])=false:=by
       rw[hw];simpa using he
      rw[rdK,hhd];simp only[Bool.false_eq_true,if_false];rcases Nat.lt_or_ge (j+1) (cC (t.length+1) 1 t).length with hlt|hge
      ·
       have e:(cC (t.length+1) 1 t++cC (r.length+1) c r++[[wEnd]]).take (j+1)=(cC (t.length+1) 1 t).take (j+1):=by
        rw[List.append_assoc,List.take_append_of_le_length (by omega)]
       rw[e,ihN t (j+1) ht hnt (by omega) hlt]
      ·
       have e:(cC (t.length+1) 1 t++cC (r.length+1) c r++[[wEnd]]).take (j+1)=cC (t.length+1) 1 t++(cC (r.length+1) c r++[[wEnd]]).take (j+1-(cC (t.length+1) 1 t).length):=by
        rw[List.append_assoc,List.take_append,List.take_of_length_le hge]
       rw[e,okN t _ ht hnt (by omega)];simp only;rw[ihK r c _ h2 hnr (by omega) (by grind)]
theorem bA3 : ∀(f:Nat),(∀ls,2*ls.length+1≤f→ ∀g,f≤g→rdN g ls=rdN f ls)∧(∀ls,2*ls.length+2≤f→ ∀g,f≤g→rdK g ls=rdK f ls)
 |0=>⟨fun ls h=>by omega,fun ls h=>by omega⟩
 |f+1=>by
  obtain⟨ihN,ihK⟩:=bA3 f;refine⟨fun ls h g hg=>?_,fun ls h g hg=>?_⟩
  ·
   obtain⟨q,rfl⟩: ∃q,g=q+1:=⟨g-1,by omega⟩;cases ls with
   |nil=>rw[vC,vC]
   |cons w rest=>
    simp only[rdN];grind
  ·
   obtain⟨q,rfl⟩: ∃q,g=q+1:=⟨g-1,by omega⟩;simp only[rdK];rw[ihN ls (by omega) q (by omega)];cases h1:rdN f ls with
   |mk o r=>
    cases o with
    |none=>rfl
    |some t=>
     have:=(aU8 f).1 ls t r h1;grind
theorem bZ6 {r:Pr}(hp:eK p=true)(hr:p.r=[r])(h2:2≤k)(hk:k<(dS p).length):rdP ((dS p).take k)=(none,[]):=by
 obtain⟨⟨v0,v1⟩,-,-,hrr⟩:=oR hp;have hrb:=hrr r (by grind);obtain⟨⟨g0,g1⟩,ht,-⟩:=iB hrb;have e:dS p=[wPolicy,p.n,numW p.v]::[wRule,r.a,r.b,r.c,numW r.g]::mQ r.t:=by
  unfold dS;rw[hr];simp[gB]
 rw[e]at hk⊢;obtain⟨j,rfl⟩: ∃j,k=j+2:=⟨k-2,by omega⟩;simp only[List.take_succ_cons];have hv:bK (wd [wPolicy,p.n,numW p.v] 2)=some p.v:=iN (by omega) v1;have hg:bK (wd [wRule,r.a,r.b,r.c,numW r.g] 4)=some r.g:=iN g0 g1;have hge:=oQ (r.t.length+1) 1 r.t (by omega) ht.skip ht.node;have hT: ∀f,2*r.t.length≤f→rdN f ((mQ r.t).take j)=(none,[]):=fun f hf=>(bQ8 f).1 r.t j ht.skip ht.node hf (by grind[List.length_cons,mQ]);have hR:rdR ([wRule,r.a,r.b,r.c,numW r.g]::(mQ r.t).take j)=(none,[]):=by
  unfold rdR;simp only;rw[if_pos ⟨rfl,rfl⟩,hg];simp only;unfold rdT;have:rdN (2*((mQ r.t).take j).length+2) ((mQ r.t).take j)=(none,[]):=by
   have:=hT (2*r.t.length+(2*((mQ r.t).take j).length+2)) (by omega);rw[←(bA3 (2*((mQ r.t).take j).length+2)).1 _ (by omega) (2*r.t.length+(2*((mQ r.t).take j).length+2)) (by omega)];exact this
  grind
 unfold rdP;simp only;rw[if_pos ⟨rfl,rfl⟩,hv];simp_all[List.length_cons,kI,if_neg]
theorem lR {w:aJ}(h:cW w=true):1≤w.length∧w.length≤64:=by
 cases w with
 |nil=>cases h
 |cons c r=>
  simp_all[cW,Bool.and_eq_true,decide_eq_true_eq]
theorem vD : ∀(f m:Nat) (l r:List Nd),l.length<f→skip m l=some r→(∀n∈l,bG n=true)→(cC f m l).length+2*r.length≤2*l.length
 |0,_,_,_,h,_,_=>by omega
 |f+1,0,l,r,_,h,_=>by grind[cL,tE]
 |f+1,m+1,[],r,_,h,_=>by cases h
 |f+1,m+1,n::l,r,hf,h,hn=>by
  have h':skip (m+n.c.toNat) l=some r:=h;have hn': ∀y∈l,bG y=true:=fun y hy=>hn y (List.mem_cons_of_mem _ hy);have hl:l.length<f:=by simpa using hf
  obtain⟨c1,c2,c3,c4⟩:=dG (hn n List.mem_cons_self);simp only[cC];split
  · rename_i hk;rw[c3 hk]at h';have:=vD f m l r hl (by grind) hn';grind
  ·
   rw[Nat.add_comm,eG]at h';cases hs:skip n.c.toNat l with
   |none=>grind
   |some r1=>
    rw[hs]at h';have h2:skip m r1=some r:=h';obtain⟨j,_,hj,_,_⟩:=fN l _ _ hs;have a1:=vD f _ l r1 hl hs hn';have a2:=vD f m r1 r (by grind) h2 (fun x hx=>hn' x (by grind));grind
def pR (l:List aJ):Prop:=1≤l.length∧l.length≤6∧ ∀w∈l,w.length≤80
theorem iO (h0:0≤n)(h1:n≤1099511627776):(numW n).length≤80:=by grind[bP3]
theorem cG4 (h:dC q=true):pR (wlR q):=by
 obtain⟨k,n,m,t⟩:=q;have hb: ∀{a b:Int},inB n a b=true→0≤a→b≤1099511627776→(numW n).length≤80:=fun h h1 h2=>by grind[jJ,iO]
 have two: ∀{a:aJ},a.length≤80→(numW n).length≤80→pR [a,numW n]:=fun h1 h2=>⟨by simp,by simp,fun w hw=>by
  grind⟩
 unfold dC at h;simp only at h;split at h
 ·
  rename_i h1;simp only[Bool.and_eq_true]at h;have hn:=hb h.1 (by omega) (by omega);rcases h1 with rfl|rfl|rfl
  · exact two (by decide) hn
  · exact two (by decide) hn
  · exact two (by decide) hn
 split at h
 ·
  rename_i h1;subst h1;simp only[Bool.and_eq_true,jJ]at h;have hn:=iO (n:=n) (by omega) (by omega);have hm:=iO (n:=m) (by omega) (by omega);refine⟨by show 1≤3;omega,by show 3≤6;omega,fun w hw=>?_⟩;have hw:w∈[eQ,numW n,numW m]:=hw;simp only[List.mem_cons,List.not_mem_nil,or_false]at hw;rcases hw with rfl|rfl|rfl
  · decide
  all_goals grind
 split at h
 ·
  rename_i h1;subst h1;simp only[Bool.and_eq_true]at h;have ht:=lR h.1;refine⟨by show 1≤2;omega,by show 2≤6;omega,fun w hw=>?_⟩;have hw:w∈[dX,t]:=hw;simp only[List.mem_cons,List.not_mem_nil,or_false]at hw;rcases hw with rfl|rfl
  · decide
  grind
 split at h
 · rename_i h1;subst h1;simp only[Bool.and_eq_true]at h;exact two (by decide) (hb h.1 (by omega) (by omega))
 split at h
 · rename_i h1;subst h1;simp only[Bool.and_eq_true]at h;exact two (by decide) (hb h.1 (by omega) (by rw[gA];omega))
 split at h
 · rename_i h1;subst h1;refine⟨by show 1≤1;omega,by show 1≤6;omega,fun w hw=>?_⟩;have hw:w∈[gZ]:=hw;simp only[List.mem_singleton]at hw;subst hw;decide
 grind
theorem cG5 {n:Nd}(h:bG n=true)(hk:n.k≠1):pR (wlN n):=by
 obtain⟨k,a,c,q⟩:=n;unfold bG at h;simp only at h hk;rw[if_neg hk]at h;have one: ∀{a:aJ},a.length≤80→pR [a]:=fun h1=>⟨by simp,by simp,fun w hw=>by
  grind⟩
 split at h
 ·
  rename_i h1;rcases h1 with rfl|rfl
  · exact one (by decide)
  · exact one (by decide)
 split at h
 ·
  rename_i h1;subst h1;simp only[Bool.and_eq_true,jJ]at h;have hn:=iO (n:=a) (by omega) (by omega);refine⟨by show 1≤2;omega,by show 2≤6;omega,fun w hw=>?_⟩;have hw:w∈[cO,numW a]:=hw;simp only[List.mem_cons,List.not_mem_nil,or_false]at hw;rcases hw with rfl|rfl
  · decide
  grind
 grind
theorem vE : ∀(f m:Nat) (l:List Nd),(∀n∈l,bG n=true)→ ∀x∈cC f m l,pR x
 |0,_,_,_,x,hx=>by simp[cC]at hx
 |f+1,0,l,_,x,hx=>by grind[tE]
 |f+1,m+1,[],_,x,hx=>by simp[cC]at hx
 |f+1,m+1,n::l,hn,x,hx=>by
  have hnn:=hn n List.mem_cons_self;have hn': ∀y∈l,bG y=true:=fun y hy=>hn y (List.mem_cons_of_mem _ hy);simp only[cC]at hx;split at hx
  ·
   rename_i hk;rcases List.mem_cons.1 hx with rfl|hx
   · simp_all[bG,if_pos,Bool.and_eq_true,cG4]
   · exact vE f m l hn' x hx
  ·
   rename_i hk;rcases List.mem_cons.1 hx with rfl|hx
   · exact cG5 hnn hk
   ·
    rcases List.mem_append.1 hx with hx|hx
    · exact vE f _ l hn' x hx
    ·
     rcases List.mem_cons.1 hx with rfl|hx
     · exact⟨by simp,by simp,fun w hw=>by simp only[List.mem_singleton]at hw;subst hw;decide⟩
     ·
      refine vE f m _ (fun y hy=>hn' y ?_) x hx;cases hs:skip n.c.toNat l with
      |none=>grind
      |some r=>
       grind[fN,List.mem_of_mem_drop]
def lS (p:Po):Prop:=eK p=true∧p.r.length≤2∧ ∀r∈p.r,r.b.length≤80∧r.c.length≤80∧r.t.length≤40
theorem vF (h:lS p):(∀l∈dS p,pR l)∧(dS p).length≤170:=by
 obtain⟨hv,h2,h3⟩:=h;obtain⟨⟨v0,v1⟩,-,hn,hr⟩:=oR hv;constructor
 ·
  intro l hl;simp only[dS,List.mem_cons,List.mem_flatMap]at hl;rcases hl with rfl|⟨r,hrm,hl⟩
  ·
   have:=lR hn;have hnv:=iO (n:=p.v) (by omega) v1;refine⟨by simp,by simp,fun w hw=>?_⟩;simp only[List.mem_cons,List.not_mem_nil,or_false]at hw;rcases hw with rfl|rfl|rfl
   · decide
   all_goals grind
  ·
   obtain⟨⟨g0,g1⟩,ht,hna,-⟩:=iB (hr r hrm);have:=lR hna;have hg:=iO g0 g1;obtain⟨hb,hc,-⟩:=h3 r hrm;simp only[gB,List.mem_cons]at hl;rcases hl with rfl|hl
   ·
    refine⟨by simp,by simp,fun w hw=>?_⟩;simp only[List.mem_cons,List.not_mem_nil,or_false]at hw;rcases hw with rfl|rfl|rfl|rfl|rfl
    · decide
    all_goals grind
   · exact vE _ _ _ ht.node l hl
 ·
  have key: ∀l:List Pr,(∀r∈l,r∈p.r)→(l.flatMap gB).length≤81*l.length:=by
   intro l;induction l with
   |nil=>grind
   |cons r l ih=>
    intro h;have:=ih fun x hx=>h x (List.mem_cons_of_mem _ hx);have hrm:=h r List.mem_cons_self;obtain⟨-,ht,-⟩:=iB (hr r hrm);have hle:=vD (r.t.length+1) 1 r.t [] (by omega) ht.skip ht.node;obtain⟨-,-,h40⟩:=h3 r hrm;simp only[List.flatMap_cons,List.length_append,gB,List.length_cons,mQ];grind
  grind[dS,List.length_cons]
theorem bH2 (h:lS p):oW p=0:=by
 obtain⟨h1,h2⟩:=vF h;unfold oW;rw[if_pos h.1];exact xM h1 h2
def aB0 (ns im:aJ)(r:Pr):Bool:=mG r.b ns&&mG r.c im
def bQ9 (p:Po)(ns im:aJ):Int:=if eK p then match p.r.findIdx? (aB0 ns im)with|some i=>(i:Int)|none=> -1 else-1
theorem bR0 {ns im:aJ}(hp:eK p=false):bQ9 p ns im= -1:=by
 unfold bQ9;rw[if_neg (by rw[hp];simp)]
def aO3 (n:Int):Nd:=⟨1,0,0,⟨1,n,0,[]⟩⟩
def awT :List Nd:=[⟨4,2,3,rq0⟩,aO3 1,aO3 2,aO3 3]
def awP :Po:=⟨[112],1,[⟨[114],[112,114,111,100,47,42,42],[42],5,awT⟩]⟩
theorem cG6 :dH awT=true:=by decide
theorem cG7 :eK awP=true:=by decide+kernel
theorem bR1 :xC awT [true,false,true]=true:=by decide
theorem bR2 :xC awT [true]=false:=by decide
theorem lT :(jI awT).length=3:=by decide
theorem rH :(tB awT 0).length=3:=by decide
theorem cG8 :bQ9 awP [112,114,111,100,47,101,117] [119,101,98]=0:=by decide+kernel
end Go.Pl
