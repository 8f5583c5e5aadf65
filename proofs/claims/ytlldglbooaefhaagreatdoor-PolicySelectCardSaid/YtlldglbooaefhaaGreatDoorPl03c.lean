/- Plain Lean: bytes that are compared as numbers; what a search for a byte says. By an AI agent. -/
import Derived.Test.YtlldglbooaefhaaGreatDoorHlZb
import Derived.Test.YtlldglbooaefhaaGreatDoorHzU1
import Derived.Test.YtlldglbooaefhaaGreatDoorPlShd
import Derived.Lib.ItoaLen
import Derived.Test.YtlldglbooaefhaaGreatDoorHlTlaw
import Derived.Sort.Grow
import Derived.Sort.EncStr
set_option linter.unusedSimpArgs false
set_option linter.unusedVariables false
set_option linter.defProp false
namespace Go.Pl
open Go Go.Hl
def cL7 (h:vH):aH:=cD2 h.1
def cL8 (d:Dig):aH:=[115,104,97,50,53,54,58]++cD2 d.1
theorem eI (b:UInt8):iJ [CV.int .u8 b.toNat]=some [b]:=bytesC_map [b]
def numW (n:Int):aH:=Lib.itoa n
theorem aL6 {n:Int}(h:0≤n):numW n=Lib.decDigits n.natAbs:=by unfold numW Lib.itoa;rw[if_neg (by omega)];congr 1;omega
inductive Av where
 |i (n:Int)
 |l (n:Int)
 |h (x:vH)
 |d (x:Dig)
 |s (w:aH)
def Av.w :Av→aH
 | .i n=>numW n
 | .l n=>numW n
 | .h x=>cL7 x
 | .d x=>cL8 x
 | .s w=>w
def Av.ok :Av→Prop
 | .i n=> -9223372036854775808≤n∧n≤9223372036854775807
 | .l n=> -9223372036854775808≤n∧n≤9223372036854775807
 |_=>True
def bW5 (c:UInt8):Nat:=if 48≤c.toNat∧c.toNat≤57 then c.toNat-48 else if 97≤c.toNat∧c.toNat≤102 then c.toNat-87 else 16
def hX (s:aH)(i:Nat):UInt8:=s.getD (2*i) 0
def hY (s:aH)(i:Nat):UInt8:=s.getD (2*i+1) 0
def hB (s:aH)(i:Nat):UInt8:=UInt8.ofNat (16*bW5 (hX s i)+bW5 (hY s i))
def hOk (s:aH)(i:Nat):Bool:=decide (bW5 (hX s i)<16)&&decide (bW5 (hY s i)<16)
def nF (s:aH)(n:Nat):Option (List UInt8):=if s.length=2*n∧(List.range n).all (hOk s)=true then some ((List.range n).map (hB s))else none
def UhSt (s:aH)(n i:Nat)(l:List UInt8):Prop:=l.length=n∧i≤n∧l.take i=(List.range i).map (hB s)∧ ∀j,j<i→hOk s j=true
variable {l:List UInt8}{n:Nat}
theorem UhSt.init (s:aH)(h:l.length=n):UhSt s n 0 l:=⟨h,Nat.zero_le _,by simp,fun j hj=>by omega⟩
variable {i:Nat}{s:aH}
theorem UhSt.next (h:UhSt s n i l)(hi:i<n)(hk:hOk s i=true):UhSt s n (i+1) (l.set i (hB s i)):=by
 obtain⟨h1,h2,h3,h4⟩:=h;refine⟨by simpa using h1,hi,?_,fun j hj=>?_⟩
 · rw[List.take_succ_eq_append_getElem (by rw[List.length_set];omega),List.getElem_set_self,List.take_set_of_le (Nat.le_refl _),h3,List.range_succ,List.map_append];rfl
 ·
  rcases Nat.lt_or_ge j i with h'|h'
  · exact h4 j h'
  ·
   have:j=i:=by omega
   rw[this];exact hk
theorem UhSt.fin (h:UhSt s n n l)(hs:s.length=2*n):nF s n=some l:=by
 obtain⟨h1,h2,h3,h4⟩:=h;unfold nF;rw[if_pos ⟨hs,by rw[List.all_eq_true];intro j hj;exact h4 j (List.mem_range.1 hj)⟩,←h3,List.take_of_length_le (by omega)]
theorem UhSt.bad (_:UhSt s n i l)(hi:i<n)(hk:hOk s i=false):nF s n=none:=by
 unfold nF;rw[if_neg];rintro⟨_,h⟩;have:=List.all_eq_true.1 h i (List.mem_range.2 hi);rw[hk]at this;cases this
theorem oO (h:nF s n=some l):l.length=n:=by
 unfold nF at h;split at h
 · cases h;simp
 · cases h
def cI5 (s p:aH):Bool:=decide (p.length≤s.length)&&(s.take p.length==p)
def h00 :vH:=⟨List.replicate 16 0,by simp⟩
def cI6 (s:aH):Option vH:=match h:nF s 16 with|some l=>some ⟨l,oO h⟩|none=>none
def cL9 :aH:=[115,104,97,50,53,54,58]
def cM0 (s:aH):Option Dig:=if cI5 s cL9 then match h:nF (s.drop 7) 32 with|some l=>some ⟨l,oO h⟩|none=>none else none
def wd (l:List aH)(i:Nat):aH:=l.getD i []
theorem wM {l:List aH}(h:i<l.length):nth (l.map CV.str) i= .str (wd l i):=by
 rw[bR h,wd,List.getD_eq_getElem?_getD,List.getElem?_eq_getElem h];rfl
def bM5 (l:List aH)(x:Rt):Option Rt:=
 if l.length=3 then match bL (wd l 2)with|some n=>some {x with q:=x.q++[⟨wd l 1,n⟩]}|none=>none else none
def cI7 (l:List aH)(x:Rt):Option Rt:=
 if l.length<6 then none else match bL (wd l 1),cI6 (wd l 2),bL (wd l 4),bL (wd l 5)with
  |some h,some r,some a,some b=>some {x with k:=x.k++[⟨⟨h,r⟩,wd l 3,l.drop 6,a,b⟩]}
  |_,_,_,_=>none
def cI8 (l:List aH)(x:Rt):Option Rt:=
 if l.length=3 then match cM0 (wd l 1),bL (wd l 2)with|some d,some t=>some {x with x:=x.x++[⟨d,t⟩]}|_,_=>none else none
end Go.Pl
namespace Go.Hl
open Go Go.RowKit Go.Sort Go.Proofs
end Go.Hl
namespace Go.Pl
open Go Go.Hl
def rMid (r:Rt):Prop:=(r.q.length≤12∧ ∀q∈r.q,q.r.length≤300)∧(r.k.length≤32∧ ∀k∈r.k,k.o.length≤300∧k.rs.length≤30∧ ∀w∈k.rs,w.length≤300)∧r.x.length≤65
theorem rMid.sz {r:Rt}(h:rMid r):rSz r:=by
 obtain⟨⟨h1,h2⟩,⟨h3,h4⟩,h5⟩:=h;refine⟨⟨by omega,fun q hq=>by have:=h2 q hq;omega⟩,⟨by omega,fun k hk=>?_⟩,by omega⟩;obtain⟨k1,k2,k3⟩:=h4 k hk;exact⟨by omega,by omega,fun w hw=>by have:=k3 w hw;omega⟩
def aT0 (j:Nat):aH:=([[113,117,111,116,97],[107,101,121],[114,101,118,111,107,101,100]]:List aH).getD j []
def bE6 (j:Nat)(l:List aH)(x:Rt):Option Rt:=if j=0 then bM5 l x else if j=1 then cI7 l x else cI8 l x
def aL7 (j:Nat):List (List aH)→Rt→Option (List (List aH)×Rt)
 |[],x=>some ([],x)
 |l::ls,x=>if wd l 0=aT0 j then match bE6 j l x with|some y=>aL7 j ls y|none=>none else some (l::ls,x)
def rV :Nat→Nat→List (List aH)→Rt→Option (List (List aH)×Rt)
 |0,_,ls,x=>some (ls,x)
 |n+1,j,ls,x=>match aL7 j ls x with|some (ls',y)=>rV n (j+1) ls' y|none=>none
section
variable {l0:List aH}{ls:List (List aH)}{x:Rt}
end
variable {x:Rt}{ls:List (List aH)}{j:Nat}
theorem bM6 {l:List aH}{y:Rt}(h:wd l 0=aT0 j)(hy:bE6 j l x=some y):aL7 j (l::ls) x=aL7 j ls y:=by
 rw[aL7,if_pos h,hy]
theorem bE7 {l:List aH}(h:wd l 0≠aT0 j):aL7 j (l::ls) x=some (l::ls,x):=by
 rw[aL7,if_neg h]
variable {n:Nat}
theorem bM7 {l:List aH}{y:Rt}(h:wd l 0=aT0 j)(hy:bE6 j l x=some y):rV (n+1) j (l::ls) x=rV (n+1) j ls y:=by grind[rV,bM6]
theorem bE8 {l:List aH}(h:wd l 0≠aT0 j):rV (n+1) j (l::ls) x=rV n (j+1) (l::ls) x:=by
 simp only[rV,bE7 h]
theorem bM8 :rV (n+1) j [] x=rV n (j+1) [] x:=by
 simp only[rV,aL7]
def wOk (l:List aH):Prop:=l≠[]∧l.length≤120∧ ∀w∈l,w.length≤32768
theorem wOk.wd {l:List aH}(h:wOk l)(i:Nat):(wd l i).length≤32768:=by
 unfold Pl.wd;rw[List.getD_eq_getElem?_getD];rcases Nat.lt_or_ge i l.length with h'|h'
 · rw[List.getElem?_eq_getElem h'];exact h.2.2 _ (List.getElem_mem h')
 grind
def rRead (m:Nat)(x:Rt):Prop:=x.q.length+x.k.length+x.x.length≤m∧(∀q∈x.q,q.r.length≤32768)∧ ∀k∈x.k,k.o.length≤32768∧k.rs.length≤120∧ ∀w∈k.rs,w.length≤32768
variable {m:Nat}
theorem bE9 {l:List aH}{y:Rt}(hl:wOk l)(h:bE6 j l x=some y)(hx:rRead m x):rRead (m+1) y:=by
 obtain⟨h1,h2,h3⟩:=hx;unfold bE6 at h;split at h
 ·
  unfold bM5 at h;split at h
  ·
   split at h
   ·
    cases h;refine⟨by grind,fun q hq=>?_,h3⟩;rcases List.mem_append.1 hq with hq|hq
    · grind
    · simp only[List.mem_singleton]at hq;subst hq;exact hl.wd 1
   grind
  grind
 ·
  split at h
  ·
   unfold cI7 at h;split at h
   · cases h
   ·
    split at h
    ·
     cases h;refine⟨by grind,h2,fun k hk=>?_⟩;rcases List.mem_append.1 hk with hk|hk
     · exact h3 k hk
     · simp only[List.mem_singleton]at hk;subst hk;exact⟨hl.wd 3,by show(l.drop 6).length≤120;rw[List.length_drop];have:=hl.2.1;omega,fun w hw=>hl.2.2 w (List.mem_of_mem_drop hw)⟩
    grind
  ·
   unfold cI8 at h;split at h
   ·
    split at h
    · cases h;exact⟨by grind,h2,h3⟩
    grind
   grind
theorem rRead.sz (h:rRead m x)(hm:m≤100000):rSz x:=by
 obtain⟨h1,h2,h3⟩:=h;refine⟨⟨by omega,fun q hq=>by grind⟩,⟨by omega,fun k hk=>?_⟩,by omega⟩;obtain⟨k1,k2,k3⟩:=h3 k hk;exact⟨by omega,by omega,fun w hw=>by grind⟩
def RtSt (ls0:List (List aH))(x0:Rt)(j:Nat)(rest:List (List aH))(x:Rt):Prop:=
 j≤3∧rV 3 0 ls0 x0=rV (3-j) j rest x∧(∀l∈rest,wOk l)∧rest.length≤ls0.length∧rRead (ls0.length-rest.length) x
section
variable {ls0 rest:List (List aH)}{x0 x:Rt}{j:Nat}{l:List aH}
theorem RtSt.init (h: ∀l∈ls0,wOk l)(hx:rRead 0 x0):RtSt ls0 x0 0 ls0 x0:=⟨by omega,rfl,h,Nat.le_refl _,by grind⟩
theorem RtSt.hit {y:Rt}(h:RtSt ls0 x0 j (l::rest) x)(hj:j<3)(hw:wd l 0=aT0 j)(hy:bE6 j l x=some y):RtSt ls0 x0 j rest y:=by
 obtain⟨h1,h2,h3,h4,h5⟩:=h;obtain⟨n,hn⟩: ∃n,3-j=n+1:=⟨2-j,by omega⟩;simp only[List.length_cons]at h4 h5;refine⟨h1,by rw[h2,hn,bM7 hw hy],fun l hl=>h3 l (List.mem_cons_of_mem _ hl),by omega,?_⟩;have:=bE9 (h3 l List.mem_cons_self) hy h5;grind
theorem RtSt.next (h:RtSt ls0 x0 j rest x)(hj:j<3)(hw: ∀l ls,rest=l::ls→wd l 0≠aT0 j):RtSt ls0 x0 (j+1) rest x:=by
 obtain⟨h1,h2,h3,h4,h5⟩:=h;obtain⟨n,hn⟩: ∃n,3-j=n+1:=⟨2-j,by omega⟩;have hn2:3-(j+1)=n:=by omega
 refine⟨by omega,?_,h3,h4,h5⟩;rw[h2,hn,hn2];cases rest with
 |nil=>exact bM8
 |cons l ls=>exact bE8 (hw l ls rfl)
theorem RtSt.fin (h:RtSt ls0 x0 3 rest x):rV 3 0 ls0 x0=some (rest,x):=by rw[h.2.1];rfl
end
variable {b:aH}
theorem bW6 : ∀l∈fI b,wOk l:=by
 intro l hl;unfold fI at hl;split at hl
 ·
  cases hv:gA b with
  |none=>grind
  |some ls=>
   rw[hv]at hl;simp only[Option.getD_some]at hl;unfold gA at hv;split at hv
   · grind
   ·
    split at hv
    ·
     have key: ∀{rs:List aH} {ls:List (List aH)},rs.mapM unR=some ls→ ∀l∈ls,okL l=true:=by
      intro rs;induction rs with
      |nil=>grind
      |cons r rs ih=>
       intro ls h l hl;rw[List.mapM_cons]at h;cases hr:unR r with
       |none=>grind
       |some a=>
        rw[hr]at h;cases hm:rs.mapM unR with
        |none=>grind
        |some m=>
         rw[hm]at h;cases h;rcases List.mem_cons.1 hl with rfl|hl
         ·
          unfold unR at hr;split at hr
          ·
           split at hr
           · rename_i hk;cases hr;exact hk
           · cases hr
          · cases hr
         · exact ih hm l hl
     exact(nY l).1 (key hv l hl)
    grind
 grind
theorem bM9 :(fI b).length≤1000:=by
 unfold fI;split
 · grind[iK,gA]
 · simp
theorem fP :rF=1099511627776:=rfl
theorem wN : ∀(a b:aH) (n m:Nat),dD a n=some m→dD (a++b) n=dD b m
 |[],b,n,m,h=>by simp only[dD,Option.some.injEq]at h;subst h;rfl
 |c::a,b,n,m,h=>by
  simp only[List.cons_append,dD]at h⊢;split at h
  · rename_i hc;rw[if_pos hc];exact wN a b _ _ h
  · cases h
variable {k:Nat}
theorem aY2 (h:k<10):nA (UInt8.ofNat (48+k))=true∧(UInt8.ofNat (48+k)).toNat-48=k:=by
 have e:(UInt8.ofNat (48+k)).toNat=48+k:=by simp;omega
 rw[nA,e];exact⟨by simp;omega,by omega⟩
theorem aT1 (u:Nat):dD (Lib.decDigits u) 0=some u:=by
 induction u using Nat.strongRecOn with
 |ind u ih=>
  rw[Lib.decDigits];split
  · rename_i h;obtain⟨h1,h2⟩:=aY2 h;simp only[dD,h1,if_true,h2];simp
  · rw[wN _ _ 0 (u/10) (ih _ (by omega))];obtain⟨h1,h2⟩:=aY2 (k:=u%10) (by omega);simp only[dD,h1,if_true,h2];congr 1;omega
theorem aY3 : ∀(k u:Nat),u<10^(k+1)→(Lib.decDigits u).length≤k+1
 |0,u,h=>by rw[Lib.decDigits,dif_pos (by omega)];simp
 |k+1,u,h=>by
  rw[Lib.decDigits];split
  · simp
  · have:=aY3 k (u/10) (by rw[Nat.pow_succ]at h;omega);simp only[List.length_append,List.length_singleton];omega
theorem bN0 {u:Nat}(h:1≤u): ∃c l,Lib.decDigits u=c::l∧c≠48:=by
 induction u using Nat.strongRecOn with
 |ind u ih=>
  rw[Lib.decDigits];split
  · rename_i hu;refine⟨_,_,rfl,fun hc=>?_⟩;have:=congrArg UInt8.toNat hc;simp at this;omega
  · obtain⟨c,l,h1,h2⟩:=ih (u/10) (by omega) (by omega);exact⟨c,l++[UInt8.ofNat (48+u%10)],by rw[h1];rfl,h2⟩
theorem kV {n:Int}(h0:0≤n)(h1:n≤1099511627776):bL (numW n)=some n:=by
 rw[aL6 h0];have hd:=aT1 n.natAbs;have hl:=aY3 12 n.natAbs (by omega);have hb:gN (Lib.decDigits n.natAbs)=false:=by
  unfold gN;by_cases hz:n.natAbs=0
  · rw[hz,Lib.decDigits_one (by omega)];simp
  ·
   obtain⟨c,l,h2,h3⟩:=bN0 (u:=n.natAbs) (by omega);rw[h2]at hl⊢;have e:((c::l).getD 0 0==(48:UInt8))=false:=by simpa using h3
   rw[e,Bool.and_false,Bool.or_false,Bool.or_eq_false_iff];exact⟨by simp,decide_eq_false (by omega)⟩
 rw[aX9 hb hd (by omega)];congr 1;omega
theorem bW7 (h:lJ ls=0):iK (pS ls)=0∧fI (pS ls)=ls:=by
 rw[aC5 h];unfold lJ at h;split at h
 · cases h
 ·
  rename_i h1;split at h
  · rename_i l hl;have:=List.find?_some hl;simp only[Bool.not_eq_true']at this;exact absurd h (bU2 this)
  ·
   rename_i hn;split at h
   · cases h
   ·
    rename_i h2;have hok: ∀l∈ls,okL l=true:=fun l hl=>by
     have:=List.find?_eq_none.1 hn l hl;simpa using this
    have hv:=bE4 hok;have hE:iK (gT ls)=0:=by unfold iK;rw[if_neg h2,hv];simp only;rw[if_neg h1]
    exact⟨hE,by unfold fI;rw[if_pos hE,hv];rfl⟩
def iE (r:Pr):Bool:=cU r.a&&((eB r.b).isSome&&((eB r.c).isSome&&(inB r.g 0 rF&&cW r.t)))
def gC :List Pr→Bool
 |[]=>true
 |r::l=>!(l.map Pr.a).contains r.a&&gC l
def eJ (p:Po):Bool:=cU p.n&&(inB p.v 1 rF&&(decide (p.r.length≤16)&&(p.r.all iE&&gC p.r)))
theorem nG (l:List Pr)(r:Pr):gC (l++[r])=(gC l&&!(l.map Pr.a).contains r.a):=by
 induction l with
 |nil=>simp[gC]
 |cons x l ih=>
  simp only[List.cons_append,gC,ih,List.map_append,List.map_cons,List.map_nil,List.contains_append,List.contains_cons,List.contains_nil,Bool.or_false];rw[show(x.a==r.a)=(r.a==x.a)from Bool.beq_comm];grind
def dL :aH:=[114,101,108,101,97,115,101,100]
def eD :aH:=[99,104,97,105,110,101,100]
def dT :aH:=[97,112,112,114,111,118,101,100]
def fQ :aH:=[114,101,98,117,105,108,116]
def gO :aH:=[108,105,115,116,101,100]
def kH :aH:=[99,108,101,97,110]
def lQ :aH:=[102,114,101,115,104]
def jE :aH:=[115,101,116,116,108,101,100]
def oW :aH:=[97,108,108]
def oX :aH:=[97,110,121]
def dE :aH:=[97,116,108,101,97,115,116]
def wEnd :aH:=[101,110,100]
def wPolicy :aH:=[112,111,108,105,99,121]
def wRule :aH:=[114,117,108,101]
def wlR (q:Rq):List aH:=
 if q.k=1 then [dL,numW q.n]else if q.k=2 then [eD,q.t]else if q.k=3 then [dT,numW q.n]
 else if q.k=4 then [fQ,numW q.n,numW q.m]else if q.k=5 then [gO,numW q.n]else if q.k=6 then [kH,numW q.n]
 else if q.k=7 then [lQ,numW q.n]else [jE]
def wlN (n:Nd):List aH:=if n.k=2 then [oW]else if n.k=3 then [oX]else [dE,numW n.n]
def dQ :Nat→Nat→List Nd→List (List aH)
 |0,_,_=>[]
 |_+1,0,_=>[]
 |_+1,_+1,[]=>[]
 |f+1,m+1,n::l=>if n.k=1 then wlR n.q::dQ f m l else wlN n::(dQ f n.c.toNat l++([wEnd]::dQ f m ((skip n.c.toNat l).getD [])))
variable {l:List Nd}
theorem qE {r:List Nd}(h:skip m l=some r):r.length≤l.length:=by
 obtain⟨j,h1,rfl,_,_⟩:=gS l m r h;grind
theorem fH : ∀(f:Nat) (m:Nat) (l r:List Nd),l.length<f→skip m l=some r→(∀n∈l,bP n=true)→ ∀g,f≤g→dQ g m l=dQ f m l
 |0,_,_,_,h,_,_,_,_=>by omega
 |f+1,0,l,r,_,_,_,g,hg=>by obtain⟨q,rfl⟩: ∃q,g=q+1:=⟨g-1,by omega⟩;cases l<;>rfl
 |f+1,m+1,[],r,_,h,_,_,_=>by cases h
 |f+1,m+1,n::l,r,hf,h,hn,g,hg=>by
  obtain⟨q,rfl⟩: ∃q,g=q+1:=⟨g-1,by omega⟩;have h':skip (m+n.c.toNat) l=some r:=h;have hn': ∀x∈l,bP x=true:=fun x hx=>hn x (List.mem_cons_of_mem _ hx);have hl:l.length<f:=by simpa using hf
  obtain⟨c1,c2,c3,c4⟩:=dO (hn n List.mem_cons_self);simp only[dQ];split
  · rename_i hk;rw[c3 hk]at h';rw[fH f m l r hl (by grind) hn' q (by omega)]
  ·
   rw[Nat.add_comm,eZ]at h';cases hs:skip n.c.toNat l with
   |none=>grind
   |some r1=>
    rw[hs]at h';have h2:skip m r1=some r:=h';have hr1:=qE hs;obtain⟨j,_,hj,_,_⟩:=gS l _ _ hs;rw[fH f _ l r1 hl hs hn' q (by omega),Option.getD_some,fH f m r1 r (by omega) h2 (fun x hx=>hn' x (by grind)) q (by omega)]
theorem nH : ∀(f:Nat) (a b:Nat) (l r:List Nd),l.length<f→skip a l=some r→(∀n∈l,bP n=true)→ ∀s,skip b r=some s→dQ f (a+b) l=dQ f a l++dQ f b r
 |0,_,_,_,_,h,_,_,_,_=>by omega
 |f+1,0,b,l,r,_,h,_,_,_=>by simp_all[cM,Nat.zero_add,dQ]
 |f+1,a+1,b,[],r,_,h,_,_,_=>by cases h
 |f+1,a+1,b,n::l,r,hf,h,hn,s,hs=>by
  have h':skip (a+n.c.toNat) l=some r:=h;have hn': ∀x∈l,bP x=true:=fun x hx=>hn x (List.mem_cons_of_mem _ hx);have hl:l.length<f:=by simpa using hf
  obtain⟨c1,c2,c3,c4⟩:=dO (hn n List.mem_cons_self);have hrl:=qE h';have hrn: ∀x∈r,bP x=true:=fun x hx=>by grind[gS,List.mem_of_mem_drop]
  have hfb:dQ (f+1) b r=dQ f b r:=fH f b r s (by omega) hs hrn (f+1) (by omega);rw[show a+1+b=a+b+1 from by omega,hfb];simp only[dQ];split
  · rename_i hk;rw[c3 hk]at h';rw[nH f a b l r hl (by grind) hn' s hs];rfl
  ·
   rw[Nat.add_comm,eZ]at h';cases hs1:skip n.c.toNat l with
   |none=>grind
   |some r1=>
    rw[hs1]at h';have h2:skip a r1=some r:=h';have hr1:=qE hs1;obtain⟨j,_,hj,_,_⟩:=gS l _ _ hs1;rw[Option.getD_some,nH f a b r1 r (by omega) h2 (fun x hx=>hn' x (by rw[hj]at hx;exact List.mem_of_mem_drop hx)) s hs];simp
def aT2 (t:List Nd):List (List aH):=dQ (t.length+1) 1 t
def jF (r:Pr):List (List aH):=[wRule,r.a,r.b,r.c,numW r.g]::aT2 r.t
def oY (p:Po):List (List aH):=[wPolicy,p.n,numW p.v]::p.r.flatMap jF
def rW (p:Po):aH:=if eJ p then pS (oY p)else []
def xQ (p:Po):Int:=if eJ p then lJ (oY p)else 1
def jG (l:List Nd)(i:Nat):List (List aH):=dQ (l.length+1) 1 (l.drop i)
variable {i:Nat}
theorem wO (hi:i<l.length)(hk:l[i].k=1):jG l i=[wlR l[i].q]:=by
 unfold jG;rw[List.drop_eq_getElem_cons hi,dQ,if_pos hk];cases l.length<;>simp[dQ]
def dX (l:List Nd)(i k:Nat):List (List aH):=dQ (l.length+1) k (l.drop (i+1))
theorem lR (l:List Nd)(i:Nat):dX l i 0=[]:=by unfold dX;cases l.drop (i+1)<;>rfl
theorem tF (ht:IsTree l)(hi:i<l.length)(hk:l[i].k≠1):jG l i=wlN l[i]::(dX l i l[i].c.toNat++[[wEnd]]):=by
 have ha:=(kG ht hi).2.2;rw[List.drop_eq_getElem_cons hi]at ha;have ha':skip (0+l[i].c.toNat) (l.drop (i+1))=some (l.drop (aft l i)):=ha;rw[Nat.zero_add]at ha';have hn': ∀x∈l.drop (i+1),bP x=true:=fun x hx=>ht.node x (List.mem_of_mem_drop hx);unfold jG dX;rw[List.drop_eq_getElem_cons hi];simp only[dQ];rw[if_neg hk,ha',fH l.length _ _ _ (by grind) ha' hn' (l.length+1) (by omega)];have: ∀f (x:List Nd),dQ f 0 x=[]:=fun f x=>by cases f<;>cases x<;>rfl
 grind
theorem qF (ht:IsTree l)(hi:i<l.length)(hk:k<l[i].c.toNat):dX l i (k+1)=dX l i k++jG l (dW l k (i+1)):=by
 have key: ∀k,k≤l[i].c.toNat→skip k (l.drop (i+1))=some (l.drop (dW l k (i+1))):=by
  intro k;induction k with
  |zero=>intro _;rw[cM];rfl
  |succ k ih=>
   grind[eZ,gB,kG,nB]
 unfold dX jG;exact nH _ k 1 _ _ (by grind) (key k (by omega)) (fun x hx=>ht.node x (List.mem_of_mem_drop hx)) _ (kG ht (nB ht hi hk)).2.2
def fC (w:List aH):Option Rq:=
 if w.length=2∧wd w 0=dL then(bL (wd w 1)).map (⟨1,·,0,[]⟩)
 else if w.length=2∧wd w 0=eD then some ⟨2,0,0,wd w 1⟩
 else if w.length=2∧wd w 0=dT then(bL (wd w 1)).map (⟨3,·,0,[]⟩)
 else if w.length=3∧wd w 0=fQ then match bL (wd w 1),bL (wd w 2)with|some n,some m=>some ⟨4,n,m,[]⟩|_,_=>none
 else if w.length=2∧wd w 0=gO then(bL (wd w 1)).map (⟨5,·,0,[]⟩)
 else if w.length=2∧wd w 0=kH then(bL (wd w 1)).map (⟨6,·,0,[]⟩)
 else if w.length=2∧wd w 0=lQ then(bL (wd w 1)).map (⟨7,·,0,[]⟩)
 else if w.length=1∧wd w 0=jE then some ⟨8,0,0,[]⟩else none
def jH (w:List aH):Option Nd:=
 if w.length=1∧wd w 0=oW then some ⟨2,0,0,rq0⟩else if w.length=1∧wd w 0=oX then some ⟨3,0,0,rq0⟩
 else if w.length=2∧wd w 0=dE then(bL (wd w 1)).map (⟨4,·,0,rq0⟩)else none
def iF (w:List aH):Bool:=w.length==1&&wd w 0==wEnd
mutual
def rdN :Nat→List (List aH)→Option (List Nd)×List (List aH)
 |0,ls=>(none,ls)
 |_+1,[]=>(none,[])
 |f+1,w::r=>match fC w with
  |some q=>(some [⟨1,0,0,q⟩],r)
  |none=>match jH w with
   |none=>(none,w::r)
   |some n=>match rdK f r with
    |(none,r')=>(none,r')
    |(some (ts,c),r')=>(some ({n with c:=c}::ts),r')
def rdK :Nat→List (List aH)→Option (List Nd×Int)×List (List aH)
 |0,ls=>(none,ls)
 |f+1,ls=>if iF (ls.headD [])then(some ([],0),ls.tail)else match rdN f ls with
  |(none,r)=>(none,r)
  |(some t,r)=>match rdK f r with
   |(none,r')=>(none,r')
   |(some (ts,c),r')=>(some (t++ts,c+1),r')
end
def rdT (ls:List (List aH)):Option (List Nd)×List (List aH):=rdN (2*ls.length+2) ls
def rdR (ls:List (List aH)):Option Pr×List (List aH):=match ls with
 |[]=>(none,[])
 |w::r=>if w.length=5∧wd w 0=wRule then match bL (wd w 4)with
   |none=>(none,w::r)
   |some g=>match rdT r with|(none,r')=>(none,r')|(some t,r')=>(some ⟨wd w 1,wd w 2,wd w 3,g,t⟩,r')
  else(none,w::r)
def kI :Nat→List (List aH)→List Pr→Option (List Pr)×List (List aH)
 |0,ls,_=>(none,ls)
 |f+1,ls,a=>if ls=[]then(some a,[])else match rdR ls with
  |(none,r)=>(none,r)
  |(some x,r)=>kI f r (a++[x])
def rdP (ls:List (List aH)):Option Po×List (List aH):=match ls with
 |[]=>(none,[])
 |w::r=>if w.length=3∧wd w 0=wPolicy then match bL (wd w 2)with
   |none=>(none,w::r)
   |some v=>match kI (r.length+1) r []with|(none,r')=>(none,r')|(some l,r')=>(some ⟨wd w 1,v,l⟩,r')
  else(none,w::r)
def dpE (b:aH):Int:=if iK b≠0 then iK b else match(rdP (fI b)).1 with|none=>2|some p=>if eJ p then 0 else 1
def dpL (b:aH):Nat:=if iK b≠0 then 0 else match rdP (fI b)with|(none,r)=>(fI b).length-r.length|(some _,_)=>0
def po0 :Po:=⟨[],0,[]⟩
def dpO (b:aH):Po:=if dpE b=0 then((rdP (fI b)).1).getD po0 else po0
theorem tG : ∀(a:aH) (c:UInt8) (n k:Nat),dD (a++[c]) n=some k→ ∃k',dD a n=some k'∧nA c=true∧k=10*k'+(c.toNat-48)
 |[],c,n,k,h=>by
  simp only[List.nil_append,dD]at h;split at h
  · rename_i hc;cases h;exact⟨n,rfl,hc,rfl⟩
  · cases h
 |b::a,c,n,k,h=>by
  simp only[List.cons_append,dD]at h⊢;split at h
  · rename_i hb;rw[if_pos hb];exact tG a c _ k h
  · cases h
theorem aY4 : ∀(m:Nat) (s:aH) (k:Nat),s.length≤m→s≠[]→(1<s.length→s.head? ≠some 48)→dD s 0=some k→Lib.decDigits k=s
 |0,s,_,hm,h0,_,_=>absurd (List.eq_nil_of_length_eq_zero (by omega)) h0
 |m+1,s,k,hm,h0,h1,h=>by
  obtain⟨a,c,rfl⟩: ∃a c,s=a++[c]:=⟨s.dropLast,s.getLast h0,(List.dropLast_concat_getLast h0).symm⟩;obtain⟨k',hk',hc,rfl⟩:=tG a c 0 k h;simp only[nA,Bool.and_eq_true,decide_eq_true_eq]at hc;have hcc:UInt8.ofNat (48+(c.toNat-48))=c:=by
   refine UInt8.toNat_inj.1 ?_;rw[UInt8.toNat_ofNat'];omega
  by_cases ha:a=[]
  · subst ha;simp only[dD,Option.some.injEq]at hk';subst hk';rw[Lib.decDigits_one (by omega)];grind
  ·
   have hlen:1<(a++[c]).length:=by
    have:=List.length_pos_iff.2 ha;simp;omega
   have hh:(a++[c]).head? =a.head? :=by
    cases a with
    |nil=>grind
    |cons x a=>rfl
   have ih:=aY4 m a k' (by grind) ha (fun _=>by grind) hk';have hk0:k'≠0:=by
    rintro rfl;rw[Lib.decDigits_one (by omega)]at ih;have:=h1 hlen;rw[hh,←ih]at this;exact this rfl
   rw[Lib.decDigits,dif_neg (by omega),show(10*k'+(c.toNat-48))/10=k' from by omega,ih,show 48+(10*k'+(c.toNat-48))%10=48+(c.toNat-48)from by omega,hcc]
theorem kW {s:aH}{n:Int}(h:bL s=some n):numW n=s:=by
 have hr:=aS6 h;unfold bL at h;split at h
 · cases h
 ·
  rename_i hb;have hb':gN s=false:=by simpa using hb
  simp only[gN,Bool.or_eq_false_iff,decide_eq_false_iff_not,Bool.and_eq_false_iff,beq_eq_false_iff_ne]at hb';split at h
  ·
   rename_i k hk;split at h
   · cases h
   · cases h;rw[aL6 hr.1];refine aY4 s.length s _ (Nat.le_refl _) (fun e=>by grind) (fun hl=>?_) (by grind);grind[List.head?_eq_getElem?]
  grind
variable {w:List aH}
theorem bW8 (h:w.length=1):w=[wd w 0]:=by
 match w,h with
 |[a],_=>rfl
theorem cE1 (h:w.length=2):w=[wd w 0,wd w 1]:=by
 match w,h with
 |[a,b],_=>rfl
theorem cI9 (h:w.length=3):w=[wd w 0,wd w 1,wd w 2]:=by
 match w,h with
 |[a,b,c],_=>rfl
theorem cM1 (h:w.length=5):w=[wd w 0,wd w 1,wd w 2,wd w 3,wd w 4]:=by
 match w,h with
 |[a,b,c,d,e],_=>rfl
variable {q:Rq}
theorem bN1 (h:fC w=some q):wlR q=w:=by
 have num: ∀{k:Int} {nm:aH},(∀n:Int,wlR ⟨k,n,0,[]⟩=[nm,numW n])→w.length=2∧wd w 0=nm→(bL (wd w 1)).map (⟨k,·,0,[]⟩)=some q→wlR q=w:=by
  intro k nm h1 h2 h3;cases hv:bL (wd w 1)with
  |none=>grind
  |some n=>
   grind[kW,cE1]
 unfold fC at h;split at h
 · rename_i h1;exact num (fun n=>rfl) h1 h
 split at h
 · rename_i h1;cases h;rw[cE1 h1.1,h1.2];rfl
 split at h
 · rename_i h1;exact num (fun n=>rfl) h1 h
 split at h
 ·
  rename_i h1;split at h
  · rename_i n m hn hm;cases h;show [fQ,numW n,numW m]=w;grind[kW,cI9]
  grind
 split at h
 · rename_i h1;exact num (fun n=>rfl) h1 h
 split at h
 · rename_i h1;exact num (fun n=>rfl) h1 h
 split at h
 · rename_i h1;exact num (fun n=>rfl) h1 h
 split at h
 · rename_i h1;cases h;rw[bW8 h1.1,h1.2];rfl
 grind
theorem bN2 {n:Nd}(h:jH w=some n)(c:Int):wlN {n with c:=c}=w∧n.k≠1:=by
 unfold jH at h;split at h
 · rename_i h1;cases h;exact⟨by rw[bW8 h1.1,h1.2];rfl,by decide⟩
 split at h
 · rename_i h1;cases h;exact⟨by rw[bW8 h1.1,h1.2];rfl,by decide⟩
 split at h
 ·
  rename_i h1;cases hv:bL (wd w 1)with
  |none=>grind
  |some m=>
   rw[hv]at h;cases h;refine⟨?_,by grind⟩;show [dE,numW m]=w;grind[kW,cE1]
 grind
theorem jW : ∀(t x r:List Nd) (m:Nat),skip m t=some r→skip m (t++x)=some (r++x)
 |t,x,r,0,h=>by grind[cM]
 |[],x,r,m+1,h=>by cases h
 |n::t,x,r,m+1,h=>by
  have h':skip (m+n.c.toNat) t=some r:=h;exact jW t x r _ h'
theorem gH : ∀(f m:Nat) (t x r:List Nd),(t++x).length<f→skip m t=some r→(∀n∈t,bP n=true)→dQ f m (t++x)=dQ f m t
 |0,_,_,_,_,h,_,_=>by omega
 |f+1,0,t,x,r,_,_,_=>by cases t<;>cases x<;>rfl
 |f+1,m+1,[],x,r,_,h,_=>by cases h
 |f+1,m+1,n::t,x,r,hf,h,hn=>by
  have h':skip (m+n.c.toNat) t=some r:=h;have hn': ∀y∈t,bP y=true:=fun y hy=>hn y (List.mem_cons_of_mem _ hy);have hl:(t++x).length<f:=by simpa using hf
  obtain⟨c1,c2,c3,c4⟩:=dO (hn n List.mem_cons_self);simp only[List.cons_append,dQ];split
  · rename_i hk;rw[c3 hk]at h';rw[gH f m t x r hl (by grind) hn']
  ·
   rw[Nat.add_comm,eZ]at h';cases hs:skip n.c.toNat t with
   |none=>grind
   |some r1=>
    rw[hs]at h';have h2:skip m r1=some r:=h';obtain⟨j,_,hj,_,_⟩:=gS t _ _ hs;have hr1:=qE hs;rw[gH f _ t x r1 hl hs hn',jW t x r1 _ hs,Option.getD_some,Option.getD_some,
     gH f m r1 x r (by grind) h2 (fun y hy=>hn' y (by grind))]
theorem zK (h:iF w=true):w=[wEnd]:=by
 unfold iF at h;simp only[Bool.and_eq_true,beq_iff_eq]at h;rw[bW8 h.1,h.2]
theorem bN3 : ∀(f:Nat),(∀ls t r,rdN f ls=(some t,r)→(∀n∈t,bP n=true)→skip 1 t=some []∧ls=dQ (t.length+1) 1 t++r)∧
  (∀ls ts c r,rdK f ls=(some (ts,c),r)→(∀n∈ts,bP n=true)→0≤c∧skip c.toNat ts=some []∧ls=dQ (ts.length+1) c.toNat ts++([wEnd]::r))
 |0=>⟨fun ls t r h _=>(by grind[rdN]),fun ls ts c r h _=>(by grind[rdK])⟩
 |f+1=>by
  obtain⟨ihN,ihK⟩:=bN3 f;have z0: ∀f (x:List Nd),dQ f 0 x=[]:=fun f x=>by cases f<;>cases x<;>rfl
  refine⟨fun ls t r h hn=>?_,fun ls ts c r h hn=>?_⟩
  ·
   cases ls with
   |nil=>grind[rdN]
   |cons w rest=>
    simp only[rdN]at h;split at h
    · rename_i q hq;cases h;refine⟨rfl,?_⟩;simp only[List.length_singleton,dQ];rw[if_pos trivial,bN1 hq];grind
    ·
     split at h
     · cases h
     ·
      rename_i n hin;cases hk:rdK f rest with
      |mk o r'=>
       rw[hk]at h;cases o with
       |none=>cases h
       |some p=>
        obtain⟨ts,c⟩:=p;simp only[Prod.mk.injEq,Option.some.injEq]at h;obtain⟨rfl,rfl⟩:=h;obtain⟨g1,g2,g3⟩:=ihK _ _ _ _ hk fun x hx=>hn x (List.mem_cons_of_mem _ hx);obtain⟨e1,e2⟩:=bN2 hin c;refine⟨?_,?_⟩
        · show skip (0+c.toNat) ts=some [];rw[Nat.zero_add];exact g2
        · simp only[List.length_cons,dQ];rw[if_neg e2,e1,g3];simp[z0]
  ·
   simp only[rdK]at h;split at h
   ·
    rename_i he;cases h;cases ls with
    |nil=>simp[iF]at he
    |cons w rest=>
     have:=zK he;simp only[List.headD_cons]at this;subst this;exact⟨by omega,rfl,rfl⟩
   ·
    cases h1:rdN f ls with
    |mk o r1=>
     rw[h1]at h;cases o with
     |none=>cases h
     |some t=>
      simp only at h;cases h2:rdK f r1 with
      |mk o2 r2=>
       rw[h2]at h;cases o2 with
       |none=>cases h
       |some p=>
        obtain⟨ts2,c2⟩:=p;simp only[Prod.mk.injEq,Option.some.injEq]at h;obtain⟨⟨rfl,rfl⟩,rfl⟩:=h;obtain⟨a1,a2⟩:=ihN _ _ _ h1 fun x hx=>hn x (List.mem_append_left _ hx);have hn2: ∀n∈ts2,bP n=true:=fun x hx=>hn x (List.mem_append_right _ hx);obtain⟨b1,b2,b3⟩:=ihK _ _ _ _ h2 hn2;have e:(c2+1).toNat=1+c2.toNat:=by omega
        have s1:=jW t ts2 [] 1 a1;rw[List.nil_append]at s1;refine⟨by omega,?_,?_⟩
        · rw[e,eZ,s1];exact b2
        ·
         rw[a2,b3,e,nH ((t++ts2).length+1) 1 c2.toNat (t++ts2) ts2 (Nat.lt_succ_self _) s1 hn _ b2,
          gH _ 1 t ts2 [] (Nat.lt_succ_self _) a1 (fun x hx=>hn x (List.mem_append_left _ hx)),
          fH (t.length+1) 1 t [] (by omega) a1 (fun x hx=>hn x (List.mem_append_left _ hx)) ((t++ts2).length+1) (by simp),
          fH (ts2.length+1) _ ts2 [] (by omega) b2 hn2 ((t++ts2).length+1) (by simp)]
         simp
variable {r:List (List aH)}
theorem bW9 {x:Pr}(h:rdR ls=(some x,r))(hv:cW x.t=true):ls=jF x++r∧r.length<ls.length:=by
 cases ls with
 |nil=>grind[rdR]
 |cons w rest=>
  simp only[rdR]at h;split at h
  ·
   rename_i h1;split at h
   · cases h
   ·
    rename_i g hg;cases ht:rdT rest with
    |mk o r'=>
     rw[ht]at h;cases o with
     |none=>cases h
     |some t=>
      simp only[Prod.mk.injEq,Option.some.injEq]at h;obtain⟨rfl,rfl⟩:=h;obtain⟨-,g2⟩:=(bN3 _).1 _ _ _ ht (kP hv).node;have hw:=cM1 h1.1;rw[h1.2]at hw;refine⟨?_,?_⟩
      · show w::rest=([wRule,wd w 1,wd w 2,wd w 3,numW g]::aT2 t)++r';rw[kW hg,←hw,g2];rfl
      grind
  grind
theorem aL8 : ∀(f:Nat) (ls:List (List aH)) (a l:List Pr) (r:List (List aH)),kI f ls a=(some l,r)→(∀x∈l,cW x.t=true)→ ∃m,l=a++m∧ls=m.flatMap jF∧r=[]
 |0,ls,a,l,r,h,_=>by grind[kI]
 |f+1,ls,a,l,r,h,hv=>by
  simp only[kI]at h;split at h
  · simp_all
  ·
   cases hr:rdR ls with
   |mk o r1=>
    rw[hr]at h;cases o with
    |none=>cases h
    |some x=>
     obtain⟨m,rfl,hm,hr0⟩:=aL8 f r1 (a++[x]) l r h hv;obtain⟨g1,g2⟩:=bW9 hr (hv x (by simp));grind
variable {p:Po}
theorem bX0 (h:rdP ls=(some p,r))(hv:eJ p=true):ls=oY p:=by
 have ht: ∀x∈p.r,cW x.t=true:=fun x hx=>by simp_all[eJ,Bool.and_eq_true,List.all_eq_true,iE]
 cases ls with
 |nil=>grind[rdP]
 |cons w rest=>
  simp only[rdP]at h;split at h
  ·
   rename_i h1;split at h
   · cases h
   ·
    rename_i v hg;cases hr:kI (rest.length+1) rest []with
    |mk o r'=>
     rw[hr]at h;cases o with
     |none=>cases h
     |some l=>
      simp only[Prod.mk.injEq,Option.some.injEq]at h;obtain⟨rfl,rfl⟩:=h;obtain⟨m,rfl,hm,-⟩:=aL8 _ _ _ _ _ hr ht;have hw:=cI9 h1.1;rw[h1.2]at hw;show w::rest=[wPolicy,wd w 1,numW v]::_;rw[kW hg,←hw,hm]
  grind
theorem bN4 (h:iK b=0):lJ (fI b)=0∧pS (fI b)=b:=by
 have hO:fI b=(gA b).getD []:=by unfold fI;grind
 unfold iK at h;split at h
 · cases h
 ·
  rename_i hb;cases hv:gA b with
  |none=>grind
  |some ls=>
   rw[hv]at h hO;simp only at h;split at h
   · cases h
   ·
    rename_i hl;rw[hO,Option.getD_some];by_cases hne:b=[]
    · grind[gA,lJ,gT,pS]
    ·
     have hlast: ∃m,b=m++[10]:=by
      unfold gA at hv;rw[if_neg hne]at hv;split at hv
      · grind[nC]
      · grind
     obtain⟨m,rfl⟩:=hlast;rw[zJ]at hv;cases hu:(aR 10 m).mapM unL with
     |none=>grind[xP]
     |some ls'=>
      rw[bM4 hu]at hv;split at hv
      ·
       rename_i hall;cases hv;have hd:=bE5 hu;have hE:lJ ls=0:=by simp_all[aW7,List.all_eq_true,if_neg]
       grind[aC5]
      grind
theorem cE2 (h0:iK b=0)(h:rdP (fI b)=(some p,r)):(xQ p=0∧rW p=b)↔eJ p=true:=by
 constructor
 · grind[xQ]
 · intro hv;have hl:=bX0 h hv;obtain⟨e1,e2⟩:=bN4 h0;simp_all[xQ,rW,if_pos]
theorem lS {n a b:Int}:inB n a b=true↔a≤n∧n≤b:=by unfold inB;simp
theorem bN5 (h:dB q=true):fC (wlR q)=some q:=by
 obtain⟨k,n,m,t⟩:=q;have hv: ∀{a b:Int},inB n a b=true→0≤a→b≤1099511627776→bL (numW n)=some n:=fun h h1 h2=>by grind[lS,kV]
 unfold dB at h;simp only at h;split at h
 ·
  rename_i h1;simp only[Bool.and_eq_true,beq_iff_eq]at h;obtain⟨h2,rfl,rfl⟩:=h;have hn:=hv h2 (by omega) (by omega);rcases h1 with rfl|rfl|rfl
  · show(bL (numW n)).map _=_;grind
  · show(bL (numW n)).map _=_;grind
  · show(bL (numW n)).map _=_;grind
 split at h
 · rename_i h1;subst h1;simp only[Bool.and_eq_true,beq_iff_eq]at h;obtain⟨h2,h3,rfl⟩:=h;have hn:=hv h2 (by omega) (by omega);rw[lS]at h3;have hm:bL (numW m)=some m:=kV (by omega) (by omega);show(match bL (numW n),bL (numW m)with|some n,some m=>some (⟨4,n,m,[]⟩:Rq)|_,_=>none)=_;grind
 split at h
 · rename_i h1;subst h1;simp only[Bool.and_eq_true,beq_iff_eq]at h;obtain⟨-,rfl,rfl⟩:=h;rfl
 split at h
 · rename_i h1;subst h1;simp only[Bool.and_eq_true,beq_iff_eq]at h;obtain⟨h2,rfl,rfl⟩:=h;have hn:=hv h2 (by omega) (by omega);show(bL (numW n)).map _=_;grind
 split at h
 · rename_i h1;subst h1;simp only[Bool.and_eq_true,beq_iff_eq]at h;obtain⟨h2,rfl,rfl⟩:=h;have hn:=hv h2 (by omega) (by rw[fP];omega);show(bL (numW n)).map _=_;grind
 split at h
 · rename_i h1;subst h1;simp only[Bool.and_eq_true,beq_iff_eq]at h;obtain⟨rfl,rfl,rfl⟩:=h;rfl
 grind
theorem bN6 {n:Nd}(h:bP n=true)(hk:n.k≠1):jH (wlN n)=some {n with c:=0}∧fC (wlN n)=none:=by
 obtain⟨k,a,c,q⟩:=n;unfold bP at h;simp only at h hk;rw[if_neg hk]at h;split at h
 · rename_i h1;simp only[Bool.and_eq_true,beq_iff_eq,vI]at h;obtain⟨-,rfl,rfl⟩:=h;rcases h1 with rfl|rfl<;>exact⟨rfl,rfl⟩
 split at h
 · rename_i h1;subst h1;simp only[Bool.and_eq_true,vI,lS]at h;obtain⟨⟨c1,c2⟩,rfl,a1,a2⟩:=h;refine⟨?_,rfl⟩;show(bL (numW a)).map _=_;grind[kV]
 grind
theorem wP {r:List Nd}(h:skip m l=some r): ∃t,l=t++r∧skip m t=some []:=by
 induction l generalizing m with
 |nil=>
  cases m with
  |zero=>rw[cM]at h;cases h;exact⟨[],rfl,rfl⟩
  |succ m=>cases h
 |cons n l ih=>
  cases m with
  |zero=>rw[cM]at h;cases h;exact⟨[],rfl,rfl⟩
  |succ m=>
   obtain⟨t,h1,h2⟩:=ih (m:=m+n.c.toNat) h;exact⟨n::t,by rw[h1];rfl,h2⟩
theorem aT3 {n:Nd}(h:bP n=true)(hk:n.k≠1):iF (wlN n)=false:=by
 unfold wlN;split
 · rfl
 ·
  split
  · rfl
  · rfl
theorem aT4 (q:Rq):iF (wlR q)=false:=by
 unfold wlR
 repeat' split
 all_goals rfl
theorem bN7 : ∀(f:Nat),(∀t rest,skip 1 t=some []→(∀n∈t,bP n=true)→2*t.length≤f→rdN f (dQ (t.length+1) 1 t++rest)=(some t,rest))∧
  (∀ts c rest,skip c ts=some []→(∀n∈ts,bP n=true)→2*ts.length+1≤f→rdK f (dQ (ts.length+1) c ts++([wEnd]::rest))=(some (ts,(c:Int)),rest))
 |0=>⟨fun t rest h _ hf=>(by
   have:t=[]:=List.eq_nil_of_length_eq_zero (by omega);subst this;cases h),fun ts c rest _ _ hf=>by omega⟩
 |f+1=>by
  obtain⟨ihN,ihK⟩:=bN7 f;have z0: ∀f (x:List Nd),dQ f 0 x=[]:=fun f x=>by cases f<;>cases x<;>rfl
  refine⟨fun t rest h hn hf=>?_,fun ts c rest h hn hf=>?_⟩
  ·
   cases t with
   |nil=>cases h
   |cons n ts=>
    have hnn:=hn n List.mem_cons_self;have hn': ∀x∈ts,bP x=true:=fun x hx=>hn x (List.mem_cons_of_mem _ hx);have h':skip (0+n.c.toNat) ts=some []:=h;rw[Nat.zero_add]at h';obtain⟨c1,c2,c3,c4⟩:=dO hnn;simp only[List.length_cons,dQ];by_cases hk:n.k=1
    ·
     rw[if_pos hk];rw[c3 hk]at h';have:ts=[]:=by
      cases ts with
      |nil=>rfl
      |cons a b=>grind[skip,cM]
     subst this;have hq:dB n.q=true∧n.n=0:=by
      unfold bP at hnn;rw[if_pos hk]at hnn;simp only[Bool.and_eq_true,beq_iff_eq]at hnn;exact⟨hnn.2.2,hnn.2.1⟩
     simp only[List.cons_append,List.nil_append,rdN,bN5 hq.1];obtain⟨k,a,c,q⟩:=n;simp only at hk hq c3;rw[hk,hq.2,c3 hk]
    ·
     rw[if_neg hk];obtain⟨e1,e2⟩:=bN6 hnn hk;have:=ihK ts n.c.toNat rest h' hn' (by grind);simp only[List.cons_append,List.append_assoc,List.nil_append,rdN,e2,e1,this];have:((n.c.toNat:Nat):Int)=n.c:=by omega
     rw[this]
  ·
   cases c with
   |zero=>
    rw[cM]at h;cases h;rw[z0];simp only[List.nil_append,rdK,List.headD_cons,show iF [wEnd]=true from rfl,if_true,List.tail_cons];rfl
   |succ c=>
    rw[Nat.add_comm,eZ]at h;cases h1:skip 1 ts with
    |none=>grind
    |some r=>
     rw[h1]at h;have h2:skip c r=some []:=h;obtain⟨t,rfl,ht⟩:=wP h1;have hnt: ∀x∈t,bP x=true:=fun x hx=>hn x (List.mem_append_left _ hx);have hnr: ∀x∈r,bP x=true:=fun x hx=>hn x (List.mem_append_right _ hx);have ht1:1≤t.length:=by
      cases t with
      |nil=>cases ht
      |cons _ _=>simp
     simp only[List.length_append]at hf;have e:dQ ((t++r).length+1) (c+1) (t++r)=dQ (t.length+1) 1 t++dQ (r.length+1) c r:=by
      rw[Nat.add_comm c 1,nH _ 1 c (t++r) r (Nat.lt_succ_self _) h1 hn _ h2,gH _ 1 t r [] (Nat.lt_succ_self _) ht hnt,
       fH (t.length+1) 1 t [] (by omega) ht hnt ((t++r).length+1) (by simp),fH (r.length+1) c r [] (by omega) h2 hnr ((t++r).length+1) (by simp)]
     rw[e,List.append_assoc];have a1:=ihN t (dQ (r.length+1) c r++[wEnd]::rest) ht hnt (by omega);have a2:=ihK r c rest h2 hnr (by omega);have hne:iF ((dQ (t.length+1) 1 t++(dQ (r.length+1) c r++[wEnd]::rest)).headD [])=false:=by
      cases t with
      |nil=>cases ht
      |cons n t=>
       simp only[List.length_cons,dQ];split
       · exact aT4 _
       · rename_i hk;exact aT3 (hnt n List.mem_cons_self) hk
     simp only[rdK];rw[hne];simp only[Bool.false_eq_true,if_false,a1,a2];have:((c:Nat):Int)+1=((c+1:Nat):Int):=by omega
     rw[this]
theorem uC : ∀(f m:Nat) (l:List Nd),l.length<f→skip m l=some []→(∀n∈l,bP n=true)→l.length≤(dQ f m l).length
 |0,_,_,h,_,_=>by omega
 |f+1,m,[],_,_,_=>by simp
 |f+1,0,n::l,_,h,_=>by rw[cM]at h;cases h
 |f+1,m+1,n::l,hf,h,hn=>by
  have h':skip (m+n.c.toNat) l=some []:=h;have hn': ∀y∈l,bP y=true:=fun y hy=>hn y (List.mem_cons_of_mem _ hy);have hl:l.length<f:=by simpa using hf
  obtain⟨c1,c2,c3,c4⟩:=dO (hn n List.mem_cons_self);simp only[dQ];split
  · rename_i hk;rw[c3 hk]at h';have:=uC f m l hl (by simpa using h') hn';simp only[List.length_cons];omega
  ·
   rw[Nat.add_comm,eZ]at h';cases hs:skip n.c.toNat l with
   |none=>rw[hs]at h';cases h'
   |some r1=>
    rw[hs]at h';have h2:skip m r1=some []:=h';obtain⟨t,rfl,ht⟩:=wP hs;simp only[List.length_append]at hl;have hnt: ∀x∈t,bP x=true:=fun x hx=>hn' x (List.mem_append_left _ hx);have a1:=uC f _ t (by omega) ht hnt;have a2:=uC f m r1 (by omega) h2 (fun x hx=>hn' x (List.mem_append_right _ hx));rw[Option.getD_some,gH f _ t r1 [] (by simp;omega) ht hnt];simp only[List.length_cons,List.length_append];omega
variable {t:List Nd}
theorem bX1 (h:IsTree t)(rest:List (List aH)):rdT (aT2 t++rest)=(some t,rest):=by
 have:=uC (t.length+1) 1 t (by omega) h.skip h.node;exact(bN7 _).1 t rest h.skip h.node (by simp only[aT2,List.length_append];omega)
theorem nI {r:Pr}(h:iE r=true):(0≤r.g∧r.g≤1099511627776)∧IsTree r.t∧cU r.a=true∧(eB r.b).isSome=true∧(eB r.c).isSome=true:=by
 unfold iE at h;simp only[Bool.and_eq_true,lS]at h;obtain⟨h1,h2,h3,⟨h4,h5⟩,h6⟩:=h;rw[fP]at h5;exact⟨⟨h4,h5⟩,kP h6,h1,h2,h3⟩
theorem bX2 {r:Pr}(h:iE r=true)(rest:List (List aH)):rdR (jF r++rest)=(some r,rest):=by
 obtain⟨⟨g0,g1⟩,ht,-⟩:=nI h;show rdR ([wRule,r.a,r.b,r.c,numW r.g]::(aT2 r.t++rest))=_;unfold rdR;simp only;rw[if_pos ⟨rfl,rfl⟩];have:bL (wd [wRule,r.a,r.b,r.c,numW r.g] 4)=some r.g:=kV g0 g1;rw[this];simp only;rw[bX1 ht];rfl
theorem aL9 : ∀(l a:List Pr) (f:Nat),(∀r∈l,iE r=true)→l.length<f→kI f (l.flatMap jF) a=(some (a++l),[])
 |[],a,f,_,hf=>by
  obtain⟨g,rfl⟩: ∃g,f=g+1:=⟨f-1,by simp at hf;omega⟩;simp[kI]
 |r::l,a,f,h,hf=>by
  obtain⟨g,rfl⟩: ∃g,f=g+1:=⟨f-1,by simp at hf;omega⟩;simp only[List.flatMap_cons,kI];rw[if_neg (by simp[jF]),bX2 (h r List.mem_cons_self)];simp only;rw[aL9 l (a++[r]) g (fun x hx=>h x (List.mem_cons_of_mem _ hx)) (by simp at hf;omega)];simp
theorem aY5 : ∀l:List Pr,l.length≤(l.flatMap jF).length
 |[]=>by simp
 |r::l=>by have:=aY5 l;simp[jF]at this⊢;omega
theorem aD8 (h:eJ p=true):(1≤p.v∧p.v≤1099511627776)∧p.r.length≤16∧cU p.n=true∧ ∀r∈p.r,iE r=true:=by
 unfold eJ at h;simp only[Bool.and_eq_true,lS,decide_eq_true_eq,List.all_eq_true]at h;obtain⟨h1,⟨h2,h3⟩,h4,h5,-⟩:=h;rw[fP]at h3;exact⟨⟨h2,h3⟩,h4,h1,h5⟩
theorem bX3 (h:eJ p=true):rdP (oY p)=(some p,[]):=by
 obtain⟨⟨v0,v1⟩,-,-,hr⟩:=aD8 h;show rdP ([wPolicy,p.n,numW p.v]::p.r.flatMap jF)=_;unfold rdP;simp only;rw[if_pos ⟨rfl,rfl⟩];have:bL (wd [wPolicy,p.n,numW p.v] 2)=some p.v:=kV (by omega) v1;rw[this];simp only;rw[aL9 p.r [] _ hr (by have:=aY5 p.r;omega)];rfl
theorem bF0 (h:xQ p=0):dpE (rW p)=0∧dpO (rW p)=p∧dpL (rW p)=0:=by
 have hv:eJ p=true:=by
  unfold xQ at h;split at h
  · assumption
  · cases h
 have he:lJ (oY p)=0:=by unfold xQ at h;rw[if_pos hv]at h;exact h
 have hb:rW p=pS (oY p):=by unfold rW;rw[if_pos hv]
 obtain⟨h1,h2⟩:=bW7 he;have hr:=bX3 hv;rw[hb];have hE:dpE (pS (oY p))=0:=by unfold dpE;rw[if_neg (by rw[h1];simp),h2,hr];simp only;rw[if_pos hv]
 exact⟨hE,by unfold dpO;rw[if_pos hE,h2,hr];rfl,by unfold dpL;rw[if_neg (by rw[h1];simp),h2,hr]⟩
theorem aY6 : ∀(l:List Nd) (m:Nat) (v:Int),skip m l=some []→(∀n∈l,bP n=true)→pQ l m v=some (0,v+lv l)
 |[],0,v,_,_=>by simp[pQ,lv]
 |[],m+1,v,h,_=>by cases h
 |n::l,0,v,h,_=>by grind[cM]
 |n::l,m+1,v,h,hn=>by
  have h':skip (m+n.c.toNat) l=some []:=h;have hnn:=hn n List.mem_cons_self;obtain⟨c1,c2,c3,c4⟩:=dO hnn;have e:((m+1:Nat):Int)+(n.c-1)=((m+n.c.toNat:Nat):Int):=by omega
  rw[pQ,if_neg (by omega),if_pos hnn,e,aY6 l _ _ h' (fun x hx=>hn x (List.mem_cons_of_mem _ hx)),lv];grind
theorem aM0 (h:IsTree l):cW l=true:=by
 unfold cW;have:=aY6 l 1 0 h.skip h.node;rw[show((1:Nat):Int)=1 from rfl]at this;rw[this];have:=h.lv;simp[h.ne,h.len];omega
def uni (l:List (Nat×Nat)):List (Nat×Nat):=l.eraseDups
def wQ (f:Nat→List (Nat×Nat)):Nat→Nat→Nat×Nat→List (Nat×Nat)
 |0,_,p=>[p]
 |c+1,n,p=>uni ((f n).flatMap fun q=>wQ f c (n+q.1) (p.1+q.1,p.2+q.2))
def pos :Nat→Nat→List (Nat×Nat)
 |0,_=>[(1,1)]
 |d+1,n=>uni ((1,1)::if n≤8 then(List.range 3).flatMap fun c=>wQ (pos d) (c+1) (n+1) (1,0)else [])
theorem oC {l:List (Nat×Nat)}{p:Nat×Nat}:p∈uni l↔p∈l:=by unfold uni;simp_all
theorem zL {f:Nat→List (Nat×Nat)}: ∀{c n:Nat} {p q r:Nat×Nat},q∈wQ f c n p→r∈f (n+(q.1-p.1))→p.1≤q.1→(q.1+r.1,q.2+r.2)∈wQ f (c+1) n p
 |0,n,p,q,r,hq,hr,_=>by simp_all[wQ,List.mem_singleton,Nat.sub_self,Nat.add_zero,oC,List.mem_flatMap]
 |c+1,n,p,q,r,hq,hr,hpq=>by
  unfold wQ at hq⊢;rw[oC,List.mem_flatMap]at hq⊢;obtain⟨s,hs,hq⟩:=hq;have hle:p.1+s.1≤q.1:=by
   have key: ∀(c n:Nat) (p q:Nat×Nat),q∈wQ f c n p→p.1≤q.1:=by
    intro c;induction c with
    |zero=>simp_all[wQ,List.mem_singleton,Nat.le_refl]
    |succ c ih=>
     grind[wQ,oC]
   exact key _ _ _ _ hq
  refine⟨s,hs,zL hq ?_ hle⟩;grind
structure Made (d n:Nat)(t:List Nd):Prop where
 skip:skip 1 t=some []
 node: ∀n∈t,bP n=true
 pos:(t.length,lv t)∈pos d n
theorem bX4 (h:Made 3 0 t):IsTree t:=by
 have hb: ∀p∈pos 3 0,1≤p.1∧p.1≤60∧p.2≤16:=by decide+kernel
 obtain⟨h1,h2,h3⟩:=hb _ h.pos;exact⟨h1,h2,h.skip,h.node,h3⟩
variable {d:Nat}
theorem zM (h:dB q=true):Made d n [⟨1,0,0,q⟩]:=by
 refine⟨rfl,fun x hx=>?_,?_⟩
 · simp only[List.mem_singleton]at hx;subst hx;unfold bP;rw[if_pos rfl,h];rfl
 ·
  cases d with
  |zero=>simp[pos,lv]
  |succ d=>rw[pos,oC];exact List.mem_cons_self
structure MadeK (d n k:Nat)(ts:List Nd):Prop where
 skip:skip k ts=some []
 node: ∀n∈ts,bP n=true
 pos:(1+ts.length,lv ts)∈wQ (pos d) k (n+1) (1,0)
theorem MadeK.zero (d n:Nat):MadeK d n 0 []:=⟨rfl,by simp,by simp[wQ,lv]⟩
variable {ts:List Nd}
theorem MadeK.next (h:MadeK d n k ts)(ht:Made d (n+1+ts.length) t):MadeK d n (k+1) (ts++t):=by
 refine⟨?_,fun x hx=>?_,?_⟩
 · rw[eZ,jW ts t [] k h.skip];exact ht.skip
 ·
  rcases List.mem_append.1 hx with hx|hx
  · exact h.node x hx
  · exact ht.node x hx
 ·
  have:=zL (r:=(t.length,lv t)) h.pos (by
   rw[show n+1+(1+ts.length-1)=n+1+ts.length from by omega];exact ht.pos) (by simp)
  grind[rG,Nat.add_assoc]
theorem MadeK.fin {x:Nd}{c:Nat}(h:MadeK d n c ts)(hn:n≤8)(hx:bP x=true)(hk:x.k≠1)(hc:x.c=c)(h1:1≤c)(h3:c≤3):Made (d+1) n (x::ts):=by
 refine⟨?_,fun y hy=>?_,?_⟩
 · show Pl.skip (0+x.c.toNat) ts=some [];rw[hc,Nat.zero_add];exact h.skip
 ·
  rcases List.mem_cons.1 hy with rfl|hy
  · grind
  · exact h.node y hy
 · rw[Pl.pos,oC];refine List.mem_cons_of_mem _ ?_;rw[if_pos hn,List.mem_flatMap];refine⟨c-1,List.mem_range.2 (by omega),?_⟩;rw[show c-1+1=c from by omega];have:=h.pos;simp_all[lv,if_neg,List.length_cons,Nat.add_comm]
structure Ms where
 n:aH
 v:Int
 r:List Pr
 o:List Nat
 d:Bool
theorem bN8 : ∀(f:Nat),(∀ls t r,rdN f ls=(some t,r)→r.length<ls.length)∧(∀ls p r,rdK f ls=(some p,r)→r.length<ls.length)
 |0=>⟨fun ls t r h=>(by simp only[rdN]at h;cases h),fun ls p r h=>(by simp only[rdK]at h;cases h)⟩
 |f+1=>by
  obtain⟨ihN,ihK⟩:=bN8 f;refine⟨fun ls t r h=>?_,fun ls p r h=>?_⟩
  ·
   cases ls with
   |nil=>simp only[rdN]at h;cases h
   |cons w rest=>
    simp only[rdN]at h;split at h
    · cases h;simp
    ·
     split at h
     · cases h
     ·
      cases hk:rdK f rest with
      |mk o r'=>
       rw[hk]at h;cases o with
       |none=>cases h
       |some p=>
        cases h;have:=ihK _ _ _ hk;simp only[List.length_cons];omega
  ·
   simp only[rdK]at h;split at h
   ·
    rename_i he;cases h;cases ls with
    |nil=>simp[iF]at he
    |cons w rest=>simp
   ·
    cases h1:rdN f ls with
    |mk o r1=>
     rw[h1]at h;cases o with
     |none=>cases h
     |some t=>
      simp only at h;cases h2:rdK f r1 with
      |mk o2 r2=>
       rw[h2]at h;cases o2 with
       |none=>cases h
       |some q=>
        cases h;have a:=ihN _ _ _ h1;have b:=ihK _ _ _ h2;omega
theorem innR_c {n:Nd}(h:jH w=some n):n.c=0∧iF w=false:=by
 refine⟨?_,?_⟩
 ·
  unfold jH at h;split at h
  · cases h;rfl
  split at h
  · cases h;rfl
  split at h
  ·
   cases hv:bL (wd w 1)with
   |none=>rw[hv]at h;cases h
   |some m=>rw[hv]at h;cases h;rfl
  · cases h
 ·
  cases he:iF w with
  |false=>rfl
  |true=>rw[zK he]at h;cases h
theorem wR {w:aH}(h:cU w=true):1≤w.length∧w.length≤64:=by
 cases w with
 |nil=>cases h
 |cons c r=>
  simp_all[cU,Bool.and_eq_true,decide_eq_true_eq]
def bN9 (p:Po):Prop:=eJ p=true∧p.r.length≤2∧ ∀r∈p.r,r.b.length≤80∧r.c.length≤80∧r.t.length≤40
def lW (ns im:aH)(r:Pr):Bool:=kE r.b ns&&kE r.c im
def aD9 (p:Po)(ns im:aH):Int:=if eJ p then match p.r.findIdx? (lW ns im)with|some i=>(i:Int)|none=> -1 else-1
theorem aM1 {ns im:aH}(hp:eJ p=false):aD9 p ns im= -1:=by
 unfold aD9;rw[if_neg (by rw[hp];simp)]
def aM2 (n:Int):Nd:=⟨1,0,0,⟨1,n,0,[]⟩⟩
def awT :List Nd:=[⟨4,2,3,rq0⟩,aM2 1,aM2 2,aM2 3]
def awP :Po:=⟨[112],1,[⟨[114],[112,114,111,100,47,42,42],[42],5,awT⟩]⟩
theorem cE3 :cW awT=true:=by decide
theorem cE4 :eJ awP=true:=by decide+kernel
theorem bO0 :wJ awT [true,false,true]=true:=by decide
theorem bO1 :wJ awT [true]=false:=by decide
theorem kX :(iR awT).length=3:=by decide
theorem qG :(rS awT 0).length=3:=by decide
theorem cE5 :aD9 awP [112,114,111,100,47,101,117] [119,101,98]=0:=by decide+kernel
theorem bEq {c d:UInt8}(h:((c.toNat:Int)==(d.toNat:Int))=true):c=d:=by
 have h1:=eq_of_beq h;exact UInt8.toNat_inj.1 (by omega)
theorem bNe {c d:UInt8}(h:((c.toNat:Int)==(d.toNat:Int))=false):c≠d:=by
 intro e;subst e;simp at h
variable {c:UInt8}
theorem aM3 {l:List UInt8}(h: ¬cX l c<0):c∈l:=by
 unfold cX at h;cases e:l.findIdx? (· ==c)with
 |none=>rw[e]at h;simp at h
 |some i=>
  obtain⟨hi,h1,_⟩:=List.findIdx?_eq_some_iff_getElem.1 e;have:=eq_of_beq h1;rw[←this];exact List.getElem_mem hi
theorem tH {l:List UInt8}(h:cX l c<0):c∉l:=by
 unfold cX at h;cases e:l.findIdx? (· ==c)with
 |none=>
  intro hc;have:=List.findIdx?_eq_none_iff.1 e c hc;simp at this
 |some i=>rw[e]at h;simp only at h;omega
theorem qH {p:aH}(h:p.length<1∨200<p.length):eB p=none:=by unfold eB;rw[if_pos h]
theorem aE0 {p:aH}(h1:1≤p.length)(h2:p.length≤200):eB p=patP p:=by unfold eB;rw[if_neg (by omega)]
end Go.Pl
