/- HL: a law cQ8 laid tables: the glue to a row's statement. By an AI agent. -/
import Derived.ProofKit
import Derived.OpenShut
import Derived.ReadAgain
import Derived.ChangeBears
import Derived.Sort.Grow
import Derived.Sort.EncStr
import Derived.Lib.LaidTab
import Derived.Deep.Draws
import Derived.LaidSub
import Derived.Test.YtlgckianjabghaaGreatDoorPl02f
set_option maxRecDepth 10000
set_option linter.unusedSimpArgs false
set_option linter.unusedVariables false
set_option linter.defProp false
namespace Go.Pl
open Go Go.Hl
def lR (w:aH):Bool:=!(w==[])&&(!(w==[46])&&!(w==[46,46]))
def lS (s:aH):Bool:=decide (1≤s.length)&&(decide (s.length≤200)&&(!s.contains 0&&(aQ 47 s).all lR))
structure Pt where
 k:Nat
 c:UInt8
def Pt.cv (x:Pt):CV:= .agg [.int .i64 x.k,.int .u8 x.c.toNat]
theorem Pt.cells (x:Pt):x.cv.cells=2:=by simp[Pt.cv,CV.cells,CV.cellsL]
theorem Pt.denil (x:Pt):x.cv.denil=x.cv:=by simp only[Pt.cv,CV.denil,CV.denilL]
theorem denilL_Pt (l:List Pt):CV.denilL (l.map Pt.cv)=l.map Pt.cv:=cX Pt.denil l
theorem Pt.isAgg (x:Pt):x.cv.isAgg=true:=rfl
theorem Pt.getAll (x:Pt):CV.getAt 0 2 true x.cv=some x.cv:=by
 have:=Pt.cells x;simp_all[Pt.cv,CV.cells,CV.getAt,J7,F7]
theorem Pt.setAll (x:Pt)(y:HV):CV.setAt 0 2 y x.cv=some y:=by
 have:=Pt.cells x;simp_all[Pt.cv,CV.cells,CV.setAt,J7,F7]
theorem Pt.fold (k:Nat)(c:UInt8):CV.agg [.int .i64 k,.int .u8 c.toNat]=Pt.cv ⟨k,c⟩:=rfl
theorem Pt.get_k (x:Pt):CV.getAt 0 1 false x.cv=some (.int .i64 x.k):=by simp[Pt.cv,CV.getAt,CV.getAtL,CV.cells,CV.cellsL]
theorem Pt.get_c (x:Pt):CV.getAt 1 1 false x.cv=some (.int .u8 x.c.toNat):=by simp[Pt.cv,CV.getAt,CV.getAtL,CV.cells,CV.cellsL]
def patP :aH→Option (List Pt)
 |[]=>some []
 |c::l=>if c=0 then none
  else if c=92 then match l with
   |[]=>none
   |d::r=>if d=0 then none else(patP r).map (⟨0,d⟩::·)
  else if c=63 then(patP l).map (⟨1,0⟩::·)
  else if c=42 then match l with
   |[]=>some [⟨2,0⟩]
   |d::r=>if d=42 then(patP r).map (⟨3,0⟩::·)else(patP (d::r)).map (⟨2,0⟩::·)
  else(patP l).map (⟨0,c⟩::·)
def fN (p:aH):Option (List Pt):=if p.length<1∨200<p.length then none else patP p
theorem kT : ∀(n:Nat) (l:aH),l.length≤n→0∈l→patP l=none
 |_,[],_,h=>by grind
 |0,_::_,hn,_=>by grind
 |n+1,c::l,hn,h=>by
  have hn':l.length≤n:=by simpa using hn
  rw[patP.eq_def];simp only;split
  · rfl
  ·
   rename_i hc;have hl:0∈l:=by
    rcases E9.1 h with h|h
    · grind
    · exact h
   split
   ·
    cases l with
    |nil=>rfl
    |cons d r=>
     simp only;split
     · rfl
     ·
      rename_i hd;have hr:0∈r:=by
       rcases E9.1 hl with h|h
       · grind
       · exact h
      rw[kT n r (by grind) hr];rfl
   ·
    split
    · rw[kT n l hn' hl];rfl
    ·
     split
     ·
      cases l with
      |nil=>grind
      |cons d r=>
       simp only;split
       ·
        rename_i hd;have hr:0∈r:=by
         rcases E9.1 hl with h|h
         · grind
         · exact h
        rw[kT n r (by grind) hr];rfl
       · rw[kT n (d::r) hn' hl];rfl
     · rw[kT n l hn' hl];rfl
theorem bH7 : ∀(n:Nat) (l:aH) (ps:List Pt),l.length≤n→patP l=some ps→ps.length≤l.length∧ ∀x∈ps,x.k≤3
 |_,[],ps,_,h=>by grind[patP.eq_def]
 |0,_::_,_,hn,_=>by grind
 |n+1,c::l,ps,hn,h=>by
  have hn':l.length≤n:=by simpa using hn
  have key: ∀(r:aH) (x:Pt),r.length≤l.length→x.k≤3→(patP r).map (x::·)=some ps→ps.length≤(c::l).length∧ ∀x∈ps,x.k≤3:=by
   intro r x hr hx h;cases hp:patP r with
   |none=>grind
   |some q=>
    rw[hp]at h;cases h;obtain⟨g1,g2⟩:=bH7 n r q (by omega) hp;grind
  rw[patP.eq_def]at h;simp only at h;split at h
  · cases h
  ·
   split at h
   · grind
   ·
    split at h
    · grind
    ·
     split at h
     · grind
     grind
def PatSt (p:aH)(i:Nat)(out:List Pt):Prop:=i≤p.length∧patP p=(patP (p.drop i)).map (out++·)∧out.length≤i∧ ∀x∈out,x.k≤3
theorem PatSt.init (p:aH):PatSt p 0 []:=⟨by omega,by simp,by simp,by simp⟩
section
variable {p:aH}{i:Nat}{out:List Pt}
theorem PatSt.fin (h:PatSt p i out)(hi:i=p.length):patP p=some out:=by
 rw[h.2.1,hi,S3,patP.eq_def];simp
theorem PatSt.step (h:PatSt p i out){k:Nat}{x:Pt}(hk:i+k≤p.length)(h0:1≤k)(hx:x.k≤3)(he:patP (p.drop i)=(patP (p.drop (i+k))).map (x::·)):PatSt p (i+k) (out++[x]):=by
 refine⟨hk,?_,by have:=h.2.2.1;grind,fun y hy=>?_⟩
 · rw[h.2.1,he,AM];congr 1;grind
 ·
  rcases F4.1 hy with hy|hy
  · exact h.2.2.2 y hy
  grind
theorem PatSt.bad (h:PatSt p i out)(he:patP (p.drop i)=none):patP p=none:=by rw[h.2.1,he];rfl
theorem bW8 {p:aH}{i:Nat}(h:i+1<p.length):p.drop i=p[i]::p[i+1]::p.drop (i+2):=by
 rw[B2 (by omega),B2 h]
theorem aS6 (hi:i+1<p.length)(h1:p[i]=92)(h2:p[i+1]≠0):patP (p.drop i)=(patP (p.drop (i+2))).map (⟨0,p[i+1]⟩::·):=by
 rw[bW8 hi,patP.eq_def];simp only;rw[A7 (by rw[h1];decide),if_pos h1,if_neg h2]
theorem bO4 (hi:i+1<p.length)(h1:p[i]=92)(h2:p[i+1]=0):patP (p.drop i)=none:=by
 rw[bW8 hi,patP.eq_def];simp only;rw[A7 (by rw[h1];decide),if_pos h1,if_pos h2]
theorem aE1 (hi:i<p.length)(h1:p[i]=92)(he:i+1=p.length):patP (p.drop i)=none:=by simp_all[B2,H9,patP.eq_def,A7,B6]
theorem bW9 (hi:i<p.length)(h1:p[i]=63):patP (p.drop i)=(patP (p.drop (i+1))).map (⟨1,0⟩::·):=by
 rw[B2 hi,patP.eq_def];grind
theorem bH8 (hi:i+1<p.length)(h1:p[i]=42)(h2:p[i+1]=42):patP (p.drop i)=(patP (p.drop (i+2))).map (⟨3,0⟩::·):=by
 rw[bW8 hi,patP.eq_def];simp only;rw[A7 (by rw[h1];decide),if_neg (by rw[h1];decide),if_neg (by rw[h1];decide),if_pos h1,if_pos h2]
theorem aL0 (hi:i<p.length)(h1:p[i]=42)(h2: ∀h:i+1<p.length,p[i+1]≠42):patP (p.drop i)=(patP (p.drop (i+1))).map (⟨2,0⟩::·):=by
 rw[B2 hi,patP.eq_def];simp only;rw[A7 (by rw[h1];decide),if_neg (by rw[h1];decide),if_neg (by rw[h1];decide),if_pos h1];rcases H0 (i+1) p.length with h|h
 · rw[B2 h];simp only;rw[A7 (h2 h)]
 · rw[H9 h];simp only;rw[patP.eq_def];rfl
theorem aS7 (hi:i<p.length)(h1:p[i]=0):patP (p.drop i)=none:=by simp_all[B2,patP.eq_def,B6]
theorem bX0 (hi:i<p.length)(h0:p[i]≠0)(h1:p[i]≠92)(h2:p[i]≠63)(h3:p[i]≠42):patP (p.drop i)=(patP (p.drop (i+1))).map (⟨0,p[i]⟩::·):=by
 rw[B2 hi,patP.eq_def];grind
end
def Pt.long (x:Pt):Bool:=decide (2≤x.k)
def Pt.takes (x:Pt)(c:UInt8):Bool:=if x.k=0 then c==x.c else if x.k=3 then true else !(c==47)
def mD (ps:List Pt)(s:aH):Nat→Nat→Bool
 |0,0=>true
 |0,_+1=>false
 |k+1,0=>(ps.getD k ⟨0,0⟩).long&&mD ps s k 0
 |k+1,i+1=>if(ps.getD k ⟨0,0⟩).long then mD ps s k (i+1)||(mD ps s (k+1) i&&(ps.getD k ⟨0,0⟩).takes (s.getD i 0))
  else mD ps s k i&&(ps.getD k ⟨0,0⟩).takes (s.getD i 0)
termination_by k i=>k+i
def nL (p s:aH):Bool:=match fN p with|some ps=>lS s&&mD ps s ps.length s.length|none=>false
def mN (ps:List Pt)(s:aH)(k i:Nat):Bool:=if k<ps.length∧(ps.getD k ⟨0,0⟩).long=true then mD ps s (k+1) i else mD ps s k i
end Go.Pl
namespace Go.Hl
open Go
section
variable {P:Program}{av:List Nat}{f:FuncId}{ob:Ob}{nid id n:Nat}{K:HV→Ob→Prop}{T e:TypeId}{sz:Nat}{v:CV}{l:List CV}
end
def gB (P:Program)(f:FuncId)(args:List CV)(R:CV→CV→Prop):Prop:=
 HFn P f (args.map .c) 0 dK (fun r ob'=> ∃u v,r= .tup [.c u,.c v]∧R u v∧ob'=dK)
variable {r:HV}{ob:Ob}
theorem aO {R:CV→CV→Prop}(cl:List Nat)(u v:CV)(h:(r.close ob cl).norm= .tup [.c u,.c v])(hR:R u v):lC 0 r ob (fun r ob'=> ∃u v,r= .tup [.c u,.c v]∧R u v∧ob'=dK):=
 ⟨cl,id,.tup [.c u,.c v],dK,⟨u,v,rfl,hR,rfl⟩,by rw[h];rfl,fun _ h=>by omega,fun _ _ _ _ h=>h,by simp[HV.men,HV.menL],fun j o h=>by simp[dK]at h⟩
variable {args:List CV}{K:HV→Ob→Prop}{nid:Nat}{f:FuncId}{av:List Nat}{P:Program}
theorem rP {R:CV→CV→Prop}(h:gB P f args R)(hfree:Free4 ob nid)(hK: ∀u v,R u v→K (.tup [.c u,.c v]) ob):
  HCall P av f (args.map .c) ob nid K:=by
 refine⟨[],args.map .c,dK,_,h,kR args,⟨I3,by simp⟩,(HV.renL_c _ _).symm,fun j o h=>by simp[dK]at h,fun r lob' hR _=>?_⟩;obtain⟨u,v,rfl,hv,rfl⟩:=hR;rw[lQ hfree.all];exact hK u v hv
section
variable {P:Program}{av:List Nat}{f:FuncId}{ob:Ob}{nid id n:Nat}{K:HV→Ob→Prop}{T e:TypeId}{sz:Nat}{v:CV}{l:List CV}{rest:List HV}
end
def yN (P:Program)(f:FuncId)(args:List CV)(R:CV→CV→CV→Prop):Prop:=
 HFn P f (args.map .c) 0 dK (fun r ob'=> ∃u v x,r= .tup [.c u,.c v,.c x]∧R u v x∧ob'=dK)
variable {R:CV→CV→CV→Prop}
theorem dW (cl:List Nat)(u v x:CV)(h:(r.close ob cl).norm= .tup [.c u,.c v,.c x])(hR:R u v x):lC 0 r ob (fun r ob'=> ∃u v x,r= .tup [.c u,.c v,.c x]∧R u v x∧ob'=dK):=
 ⟨cl,id,.tup [.c u,.c v,.c x],dK,⟨u,v,x,rfl,hR,rfl⟩,by rw[h];rfl,fun _ h=>by omega,fun _ _ _ _ h=>h,by simp[HV.men,HV.menL],fun j o h=>by simp[dK]at h⟩
theorem nN (h:yN P f args R)(hfree:Free4 ob nid)(hK: ∀u v x,R u v x→K (.tup [.c u,.c v,.c x]) ob):
  HCall P av f (args.map .c) ob nid K:=by
 refine⟨[],args.map .c,dK,_,h,kR args,⟨I3,by simp⟩,(HV.renL_c _ _).symm,fun j o h=>by simp[dK]at h,fun r lob' hR _=>?_⟩;obtain⟨u,v,x,rfl,hv,rfl⟩:=hR;rw[lQ hfree.all];exact hK u v x hv
variable {T:TypeId}
theorem bB7 {w:HV}(cl:List Nat)(u x v':CV)(h:(r.close ob cl).norm= .tup [.c u,.c x])(hb:ob 0=some (.box T w))(hw:(w.close ob cl).norm= .c v')(h0:0∉cl)(hR:R u x v'):
  lC 1 r ob (fun r ob'=> ∃u x v',r= .tup [.c u,.c x]∧ob'=fob [(0,.box T (.c v'))]∧R u x v'):=by
 refine⟨cl,id,.tup [.c u,.c x],fob [(0,.box T (.c v'))],⟨u,x,v',rfl,rfl,hR⟩,by grind[HV.ren,HV.renL],fun _ _=>rfl,fun _ _ _ _ h=>h,by simp[HV.men,HV.menL],fun j o ho=>?_⟩;by_cases e:j=0
 · subst e;simp only[fob_at,F7,D6]at ho;subst ho;refine⟨by omega,by simp[HO.men,HV.men],h0,.box T w,hb,?_⟩;simp only[hw];rfl
 grind[fob_at,fob_nil]
def lst (os:List HO):Ob:=fun j=>os[j]?
theorem yO (o:HO)(os:List HO)(j:Nat):lst (o::os) (j+1)=lst os j:=by simp[lst]
def HGe (P:Program)(f:FuncId)(args:List HV)(os:List HO)(R:HV→List HO→Prop):Prop:=
 HFn P f args os.length (lst os) (fun r ob'=> ∃os',ob'=lst os'∧(os.length≤os'.length∧os'.length≤os.length+4)∧R r os')
def jG (m:Nat→Nat):Ob→Nat→List HO→Ob
 |ob,_,[]=>ob
 |ob,j,o::os=>jG m (upd ob (m j) (some (o.ren m))) (j+1) os
theorem qG (m:Nat→Nat)(i:Nat): ∀(os:List HO) (ob:Ob) (j:Nat),(∀t,t<os.length→m (j+t)≠i)→jG m ob j os i=ob i
 |[],_,_,_=>rfl
 |o::os,ob,j,h=>by
  rw[jG,qG m i os _ (j+1) fun t ht=>by have:=h (t+1) (by grind);grind];exact bJ _ _ fun e=>h 0 (by simp) e.symm
theorem aS8 (m:Nat→Nat){N:Nat}(inj: ∀a b,a<N→b<N→m a=m b→a=b): ∀(os:List HO) (ob:Ob) (j t:Nat) (ht:t<os.length),j+os.length≤N→jG m ob j os (m (j+t))=some (os[t].ren m)
 |o::os,ob,j,0,ht,hN=>by
  show jG m (upd ob (m j) (some (o.ren m))) (j+1) os (m j)=_;grind[qG,List.length_cons,aU]
 |o::os,ob,j,t+1,ht,hN=>by
  have:=aS8 m inj os (upd ob (m j) (some (o.ren m))) (j+1) t (by grind) (by grind);rw[jG,show j+(t+1)=j+1+t from by omega,this];rfl
variable {j:Nat}{σ:List Nat}
theorem bB8 (h:j<σ.length):sub σ nid j=σ[j]:=by simp_all[sub,B6,C7,B5]
theorem bB9 (h:σ.length≤j):sub σ nid j=nid+(j-σ.length):=by simp_all[sub,A7]
theorem cJ1 (hn:σ.Nodup)(ho: ∀s∈σ,s<nid∨nid+4≤s): ∀a b,a<σ.length+4→b<σ.length+4→sub σ nid a=sub σ nid b→a=b:=by grind[Nat.lt_or_ge,bB8,List.getElem_inj,bB9,List.getElem_mem]
variable {os:List HO}
theorem wF (hn:σ.Nodup)(ho: ∀s∈σ,s<nid∨nid+4≤s)(hfree:Free4 ob nid)(h1:σ.length≤os.length)(h2:os.length≤σ.length+4):
  cJ ob σ nid (lst os)=jG (sub σ nid) ob 0 os:=by
 have inj:=cJ1 hn ho;have hit: ∀t,(ht:t<os.length)→jG (sub σ nid) ob 0 os (sub σ nid t)=some (os[t].ren (sub σ nid)):=fun t ht=>by
  have:=aS8 (sub σ nid) inj os ob 0 t ht (by omega);grind
 funext i;unfold cJ;split
 · grind[List.findIdx?_eq_some_iff_getElem,sub,bB8,lst,List.getElem?_eq_getElem]
 ·
  rename_i hj;have hmem:i∉σ:=fun h=>by grind
  split
  ·
   rename_i hr;have hi:sub σ nid (σ.length+(i-nid))=i:=by rw[bB9 (by omega)];omega
   by_cases hlt:σ.length+(i-nid)<os.length
   · grind[lst,List.getElem?_eq_getElem]
   · rw[qG,lst,P5 (by omega),hfree.all i hr.1 hr.2];all_goals grind
  · rename_i hr;rw[qG];intro t ht e;rw[F3]at e;grind[Nat.lt_or_ge,bB8,List.getElem_mem,bB9]
def aE2 (ob:Ob)(m:Nat→Nat):List Nat→List HO→Prop
 |[],[]=>True
 |s::σ,o::os=>ob s=some (o.ren m)∧aE2 ob m σ os
 |_,_=>False
theorem uV {ob:Ob}{m:Nat→Nat}: ∀{σ:List Nat} {os:List HO},aE2 ob m σ os→σ.length=os.length∧ ∀j o,lst os j=some o→ob (σ.getD j 0)=some (o.ren m)
 |[],[],_=>⟨rfl,fun j o h=>by simp[lst]at h⟩
 |s::σ,o::os,h=>by
  obtain⟨h1,h2⟩:=uV h.2;refine⟨by grind,fun j o' hj=>?_⟩;cases j with
  |zero=>cases hj;exact h.1
  |succ j=>grind[yO]
 |[],_::_,h=>h.elim
 |_::_,[],h=>h.elim
def dO (k:Nat):List HO→Prop
 |[]=>True
 |o::os=>o.men (· <k)∧dO k os
theorem aE3 {k:Nat}: ∀{os:List HO},dO k os→ ∀j o,lst os j=some o→o.men (· <k)
 |[],_,j,o,h=>by simp[lst]at h
 |o::os,h,0,o',hj=>by cases hj;exact h.1
 |o::os,h,j+1,o',hj=>by rw[yO]at hj;exact aE3 h.2 j o' hj
theorem bX1 {o:HO}(h:lst os j=some o):j<os.length:=(I2.1 h).1
variable {k:Nat}
theorem eM {args:List HV}(hk:k=os.length)(h1:dO k os)(h2:HV.menL (· <k) args):LocOk k args (lst os):=by
 subst hk;exact⟨fun j hj=>⟨os[j],by rw[lst,B5 hj]⟩,fun id o h=>⟨bX1 h,aE3 h1 id o h⟩,h2⟩
variable {largs:List HV}
theorem eG {args:List HV}{R:HV→List HO→Prop}(σ:List Nat)(h:HGe P f largs os R)(ha:args=HV.renL (sub σ nid) largs)
  (hob:aE2 ob (sub σ nid) σ os) (hn:σ.Nodup) (hav: ∀s∈σ,s∉av) (hfree:Free4 ob nid) (hm:dO os.length os) (hm2:HV.menL (· <os.length) largs)
  (hK: ∀r os',R r os'→K (r.ren (sub σ nid)) (jG (sub σ nid) ob 0 os')):HCall P av f args ob nid K:=by
 obtain⟨hl,hg⟩:=uV hob;have ho: ∀s∈σ,s<nid∨nid+4≤s:=fun s hs=>by
  obtain⟨j,hj,rfl⟩:=L4 hs;have h1:=hg j os[j] (by rw[lst,B5]);rw[C7,B5 hj]at h1;rcases H0 σ[j] nid with h2|h2
  · grind
  ·
   rcases H0 σ[j] (nid+4)with h3|h3
   · rw[E0,hfree.all _ h2 h3]at h1;grind
   grind
 unfold HGe at h;rw[←hl]at h hm hm2;refine⟨σ,largs,lst os,_,h,eM hl hm hm2,⟨hn,hav⟩,ha,hg,fun r lob' hR _=>?_⟩;obtain⟨os',rfl,⟨h1,h2⟩,hR⟩:=hR;grind[wF]
def tau (k:Nat)(new:List Nat)(j:Nat):Nat:=if j<k then j else if j-k<new.length then new.getD (j-k) 0 else k+new.sum+4+j
theorem bX2 : ∀{l:List Nat} {x:Nat},x∈l→x≤l.sum
 |y::l,x,h=>by
  rcases E9.1 h with rfl|h
  · simp
  · have:=bX2 h;grind
theorem cJ2 {new:List Nat}(hn:new.Nodup)(hk: ∀s∈new,k≤s): ∀i j,tau k new i=tau k new j→i=j:=by
 have key: ∀j,j-k<new.length→ ¬j<k→k≤tau k new j∧tau k new j≤new.sum:=fun j h1 h2=>by simp_all[tau,A7,B6,C7,B5,C0,bX2]
 have lo: ∀j,j<k→tau k new j=j:=fun j h=>by unfold tau;grind
 have hi: ∀j,¬j<k→ ¬j-k<new.length→tau k new j=k+new.sum+4+j:=fun j h1 h2=>by simp_all[tau,A7]
 intro i j h;by_cases i1:i<k<;>by_cases j1:j<k
 · rwa [lo i i1,lo j j1]at h
 · grind
 · grind
 ·
  by_cases i2:i-k<new.length<;>by_cases j2:j-k<new.length
  · unfold tau at h;rw[A7 i1,B6 i2,A7 j1,B6 j2,C7,B5 i2,C7,B5 j2]at h;grind[List.getElem_inj]
  all_goals grind
def fC (ob:Ob)(cl:List Nat):HO→HO
 | .box t v=> .box t (v.close ob cl).norm
 | .row e sz l=> .row e sz l
 | .mp e sz D=> .mp e sz D
 | .dead=> .dead
 | .tab T=> .tab T
 | .hrow e sz l=> .hrow e sz (HV.closeL ob cl l)
 | .raw es k=> .raw es k
 | .it m s q l=> .it m s q l
def bX3 (ob:Ob)(cl:List Nat)(k:Nat)(τ:Nat→Nat):Nat→List HO→Prop
 |_,[]=>True
 |j,o::os=>(o.men (· <k+4)∧τ j∉cl∧ ∃o0,ob (τ j)=some o0∧fC ob cl o0=o.ren τ)∧bX3 ob cl k τ (j+1) os
theorem aE4 {ob:Ob}{cl:List Nat}{k:Nat}{τ:Nat→Nat}: ∀{os:List HO} {j:Nat},bX3 ob cl k τ j os→ ∀t o,lst os t=some o→o.men (· <k+4)∧τ (j+t)∉cl∧ ∃o0,ob (τ (j+t))=some o0∧fC ob cl o0=o.ren τ
 |[],_,_,t,o,h=>by simp[lst]at h
 |o::os,j,h,0,o',ht=>by cases ht;exact h.1
 |o::os,j,h,t+1,o',ht=>by
  rw[yO]at ht;have:=aE4 h.2 t o' ht;grind
theorem dS {R:HV→List HO→Prop}(cl new:List Nat)(r':HV)(os':List HO)(hr:(r.close ob cl).norm=r'.ren (tau k new))(hm:r'.men (· <k+4))(ho:bX3 ob cl k (tau k new) 0 os')(hl:os'.length=k+new.length)
  (hn:new.Nodup) (hk: ∀s∈new,k≤s) (hl4:new.length≤4) (hR:R r' os'):lC k r ob (fun r ob'=> ∃os',ob'=lst os'∧(k≤os'.length∧os'.length≤k+4)∧R r os'):=by
 refine⟨cl,tau k new,r',lst os',⟨os',rfl,by omega,hR⟩,hr,fun j hj=>by unfold tau;grind,fun i j _ _ h=>cJ2 hn hk i j h,hm,fun j o hj=>?_⟩;obtain⟨h1,h2,o0,h3,h4⟩:=aE4 ho j o hj;rw[F3]at h2 h3;refine⟨by have:=bX1 hj;omega,h1,h2,o0,h3,?_⟩;rw[←h4];cases o0<;>rfl
theorem aS9 {args:List HV}{R:HV→List HO→Prop}(σ:List Nat)(h:HGe P f largs os R)(ha:args=HV.renL (sub σ nid) largs)
  (hob:aE2 ob (sub σ nid) σ os) (hn:σ.Nodup) (hav: ∀j,j<σ.length→σ.getD j 0∉av∨(σ.getD j 0+10000≤nid∧ ∀r os',R r os'→os'[j]? =os[j]?)) (hfree:Free4 ob nid) (hm:dO os.length os) (hm2:HV.menL (· <os.length) largs)
  (hK: ∀r os',R r os'→K (r.ren (sub σ nid)) (jG (sub σ nid) ob 0 os')):HCallL P av f args ob nid K:=by
 obtain⟨hl,hg⟩:=uV hob;have ho: ∀s∈σ,s<nid∨nid+4≤s:=fun s hs=>by
  obtain⟨j,hj,rfl⟩:=L4 hs;have h1:=hg j os[j] (by rw[lst,B5]);rw[C7,B5 hj]at h1;rcases H0 σ[j] nid with h2|h2
  · grind
  ·
   rcases H0 σ[j] (nid+4)with h3|h3
   · rw[E0,hfree.all _ h2 h3]at h1;grind
   grind
 unfold HGe at h;rw[←hl]at h hm hm2;refine⟨σ,largs,lst os,_,h,eM hl hm hm2,⟨hn,fun j hj=>(hav j hj).imp (fun h=>h) fun h=>⟨h.1,fun r lob' hR=>?_⟩⟩,ha,hg,fun r lob' hR _=>?_⟩
 · obtain⟨os',rfl,_,hR⟩:=hR;exact h.2 r os' hR
 · obtain⟨os',rfl,⟨h1,h2⟩,hR⟩:=hR;grind[wF]
def wG (P:Program)(f:FuncId)(T:TypeId)(v:CV)(args:List CV)(R:CV→CV→CV→Prop):Prop:=
 HFn P f (.ptr 0 0::args.map .c) 1 (fob [(0,.box T (.c v))]) (fun r ob'=> ∃u x v',r= .tup [.c u,.c x]∧ob'=fob [(0,.box T (.c v'))]∧R u x v')
theorem cI {w:HV}(cl:List Nat)(u x v':CV)(h:(r.close ob cl).norm= .tup [.c u,.c x])(hb:ob 0=some (.box T w))(hw:(w.close ob cl).norm= .c v')(h0:0∉cl)(hR:R u x v'):
  lC 1 r ob (fun r ob'=> ∃u x v',r= .tup [.c u,.c x]∧ob'=fob [(0,.box T (.c v'))]∧R u x v'):=bB7 cl u x v' h hb hw h0 hR
theorem fD {id:Nat}{v:CV}(h:wG P f T v args R)(hid:ob id=some (.box T (.c v)))(hav:id∉av)
  (hfree:Free4 ob nid) (hK: ∀u x v',R u x v'→K (.tup [.c u,.c x]) (upd ob id (some (.box T (.c v'))))):
  HCall P av f (.ptr id 0::args.map .c) ob nid K:=by
 refine⟨[id],.ptr 0 0::args.map .c,_,_,h,dV T v args,⟨by simp,by grind⟩,?_,fun j o hj=>?_,fun r lob' hR _=>?_⟩
 · simp only[HV.renL,HV.ren,HV.renL_c];rfl
 ·
  by_cases e:j=0
  · subst e;simp only[fob_at,F7,D6]at hj;grind[HO.ren,HV.ren]
  grind[fob_at,fob_nil]
 · obtain⟨u,x,v',rfl,rfl,hR⟩:=hR;rw[aS1 hfree];exact hK u x v' hR
end Go.Hl
namespace Go.Proofs.YtlgckianjabghaaGreatDoor
open Go Go.Hl Go.Pl
def sP :=(A1 (A1 (A1 (A1 (A1 @Go.Hl.hlift.eq_def @Go.Hl.hopI.eq_def) (A1 @Go.Hl.hstep.eq_def @Go.Hl.hop.eq_def)) (A1 (A1 @Go.Hl.hint.eq_def @Go.Hl.hstr.eq_def) (A1 @Go.Hl.hshift.eq_def @Go.Hl.hun.eq_def))) (A1 (A1 (A1 @Go.Hl.hconv.eq_def @Go.Hl.hpick.eq_def) (A1 @Go.Hl.hclo.eq_def @Go.Hl.hext.eq_def)) (A1 (A1 @Go.Hl.hmax.eq_def @Go.Hl.hslice.eq_def) (A1 @Go.Hl.hindex.eq_def @Go.Hl.hindexAddr.eq_def)))) (A1 (A1 (A1 (A1 @Go.Hl.hfieldAddr.eq_def @Go.Hl.hfield.eq_def) (A1 @Go.Hl.hload.eq_def @Go.Hl.hstore.eq_def)) (A1 (A1 @Go.Hl.happend.eq_def @Go.Hl.happend2.eq_def) (A1 @Go.Hl.hslice2.eq_def @Go.Hl.hclear.eq_def))) (A1 (A1 (A1 @Go.Hl.hmakeMap.eq_def @Go.Hl.hlookup.eq_def) (A1 @Go.Hl.hmapUpdate.eq_def @Go.Pl.hbuildDig.eq_def)) (A1 (A1 @Go.Hl.hcopy.eq_def @Go.Hl.hmkIface.eq_def) (A1 @Go.Hl.hassert.eq_def (A1 @Go.Hl.hmakeSlice.eq_def @Go.Hl.happends.eq_def))))))
def sA :=(A1 (A1 (A1 (A1 (A1 (A1 (A1 (A1 @Go.Hl.HV.toC.eq_1 @Go.Hl.HV.toC.eq_2) (A1 @Go.Hl.HV.toC.eq_3 @Go.Hl.HV.toCL.eq_1)) (A1 (A1 @Go.Hl.HV.toCL.eq_2 @Go.Hl.cells_mem_str) (A1 @M2.{0} (A1 @beq_true @beq_false)))) (A1 (A1 (A1 @B9 @Go.Hl.denilL_str) (A1 @Go.Hl.denilL_int @Go.Hl.hwalk2.eq_1)) (A1 (A1 @Go.Hl.hwalk2.eq_2 @Go.Hl.ids4.eq_1) (A1 @Go.Hl.getF.eq_1 (A1 @Go.Hl.isEff.eq_1 @Go.Hl.isEff.eq_2))))) (A1 (A1 (A1 (A1 @Go.Hl.isEff.eq_3 @Go.Hl.isEff.eq_4) (A1 @E1 @J6.{0})) (A1 (A1 @Go.Hl.hlex.eq_1 @Go.Hl.hlex.eq_2) (A1 @Go.Hl.hguard.eq_1 (A1 @Go.Hl.hcallOf.eq_1 @Go.Hl.hcallOf.eq_2)))) (A1 (A1 (A1 @Go.Hl.touch.eq_1 @Go.Hl.touch.eq_2) (A1 @Go.Hl.touch.eq_3 @Go.Hl.touch.eq_4)) (A1 (A1 @Go.Hl.touch.eq_5 @Go.Hl.touch.eq_6) (A1 @Go.Hl.touch.eq_7 (A1 @Go.Hl.touch.eq_8 @Go.Hl.touch.eq_9)))))) (A1 (A1 (A1 (A1 (A1 @Go.Hl.touch.eq_10 @Go.Hl.HV.ids.eq_1) (A1 @Go.Hl.HV.ids.eq_2 @Go.Hl.HV.ids.eq_3)) (A1 (A1 @Go.Hl.HV.ids.eq_4 @Go.Hl.HV.ids.eq_5) (A1 @Go.Hl.HV.ids.eq_6 (A1 @Go.Hl.HV.ids.eq_7 @Go.Hl.ev.eq_1)))) (A1 (A1 (A1 @Go.Hl.ev.eq_2 @Go.Hl.ev.eq_3) (A1 @Go.Hl.ev.eq_4 @Go.Hl.cvC.eq_1)) (A1 (A1 @Go.Hl.cvC.eq_2 @Go.Hl.cvC1.eq_1) (A1 @Go.Hl.cvC1.eq_2 (A1 @Go.Hl.cvC1.eq_3 @Go.Hl.cvC1.eq_4))))) (A1 (A1 (A1 (A1 @Go.Hl.cvC1.eq_5 @Go.Hl.cvC1.eq_6) (A1 @Go.Hl.cvC1.eq_7 @Go.Hl.cvC1.eq_8)) (A1 (A1 @Go.Hl.cvC1.eq_9 @Go.Hl.updo_at) (A1 @Go.Hl.updo_none (A1 @Go.Hl.updo.eq_1 @Go.Hl.updo.eq_2)))) (A1 (A1 (A1 @Go.Hl.upd_at @Go.Hl.fin_at) (A1 @Go.Hl.fin_nil @Go.Hl.finA_at)) (A1 (A1 @Go.Hl.finA_nil @Go.Hl.fob_at) (A1 @Go.Hl.fob_nil (A1 @Go.Hl.none0_at @Go.Hl.hlift_some))))))) (A1 (A1 (A1 (A1 (A1 (A1 @Go.Hl.hlift_none @Go.Hl.hthen.eq_1) (A1 @Go.Hl.hthen.eq_2 @Go.Hl.hblk.eq_1)) (A1 (A1 @Go.Hl.hblk.eq_2 @Go.Hl.hbin_int) (A1 @Go.Hl.hbin_str (A1 @Go.Hl.hbin_bool @Go.Hl.isShift.eq_1)))) (A1 (A1 (A1 @Go.Hl.isShift.eq_2 @Go.Hl.isShift.eq_3) (A1 @Go.Pl.hbuild_agg @Go.Hl.hfill.eq_1)) (A1 (A1 @Go.Hl.hfill.eq_2 @Go.Hl.HV.norm.eq_1) (A1 @W9.{0} (A1 @P0.{0} @Go.Hl.hclosed.eq_1))))) (A1 (A1 (A1 (A1 @Go.Hl.hclosed.eq_2 @Go.Hl.hread.eq_1) (A1 @Go.Hl.hread.eq_2 @Go.Hl.hread.eq_3)) (A1 (A1 @Go.Hl.hread.eq_4 @Go.Hl.hlo.eq_1) (A1 @Go.Hl.hlo.eq_2 (A1 @Go.Hl.hlo.eq_3 @Go.Hl.live.eq_1)))) (A1 (A1 (A1 @Go.Hl.live.eq_2 @Go.Hl.live.eq_3) (A1 @Go.Hl.live.eq_4 @Go.Hl.live.eq_5)) (A1 (A1 @Go.Hl.live.eq_6 @Go.Hl.HO.isBox.eq_1) (A1 @Go.Hl.HO.isBox.eq_2 (A1 @Go.Hl.HO.isRow.eq_1 @Go.Hl.HO.isRow.eq_2)))))) (A1 (A1 (A1 (A1 (A1 @Go.Hl.TyD.isAgg.eq_1 @Go.Hl.TyD.isAgg.eq_2) (A1 @Go.Hl.TyD.isAgg.eq_3 @Go.Hl.HV.sto.eq_1)) (A1 (A1 @Go.Hl.HV.sto.eq_2 @Go.Hl.HV.sto.eq_3) (A1 @Go.Hl.HV.sto.eq_4 (A1 @Go.Hl.HV.stoL.eq_1 @Go.Hl.HV.stoL.eq_2)))) (A1 (A1 (A1 @Go.Hl.HV.isAgg.eq_1 @Go.Hl.HV.isAgg.eq_2) (A1 @Go.Hl.HV.isAgg.eq_3 @Go.Hl.CV.isAgg.eq_1)) (A1 (A1 @Go.Hl.CV.isAgg.eq_2 @Go.Hl.HV.cells.eq_1) (A1 @Go.Hl.HV.cells.eq_2 (A1 @Go.Hl.HV.cells.eq_3 @Go.Hl.HV.cellsL.eq_1))))) (A1 (A1 (A1 (A1 @Go.Hl.HV.cellsL.eq_2 @Go.Hl.CV.cells.eq_1) (A1 @Go.Hl.CV.cells.eq_2 @Go.Hl.CV.cellsL.eq_1)) (A1 (A1 @Go.Hl.CV.cellsL.eq_2 @Go.Hl.HV.getAt.eq_1) (A1 @Go.Hl.HV.getAt.eq_2 (A1 @Go.Hl.HV.getAt.eq_3 @Go.Hl.HV.getAtL.eq_1)))) (A1 (A1 (A1 @Go.Hl.HV.getAtL.eq_2 @Go.Hl.CV.getAt.eq_1) (A1 @Go.Hl.CV.getAt.eq_2 (A1 @Go.Hl.CV.getAtL.eq_1 @Go.Hl.CV.getAtL.eq_2))) (A1 (A1 @Go.Hl.HV.setAt.eq_1 @Go.Hl.HV.setAt.eq_2) (A1 @Go.Hl.HV.setAt.eq_3 (A1 @Go.Hl.HV.setAtL.eq_1 @Go.Hl.HV.setAtL.eq_2)))))))) (A1 (A1 (A1 (A1 (A1 (A1 (A1 @Go.Hl.CV.setAt.eq_1 @Go.Hl.CV.setAt.eq_2) (A1 @Go.Hl.CV.setAtL.eq_1 @Go.Hl.CV.setAtL.eq_2)) (A1 (A1 @Go.Hl.HV.den.eq_1 @Go.Hl.HV.den.eq_2) (A1 @Go.Hl.CV.denil.eq_1 (A1 @Go.Hl.CV.denil.eq_2 @Go.Hl.CV.denil.eq_3)))) (A1 (A1 (A1 @Go.Hl.CV.denil.eq_4 @Go.Hl.CV.denilL.eq_1) (A1 @Go.Hl.CV.denilL.eq_2 @List.range.eq_1)) (A1 (A1 @List.range.loop.eq_1 @List.range.loop.eq_2) (A1 @I6.{0} (A1 @B0.{0} @E5.{0}))))) (A1 (A1 (A1 (A1 @A2.{0,0} @O1.{0}) (A1 @M3.{0} @N2.{0})) (A1 (A1 @D0.{0,0} @H1.{0,0}) (A1 @I1.{0,0} (A1 @K5.{0,0} @AV.{0})))) (A1 (A1 (A1 @I7.{0} @E9.{0}) (A1 @I9.{0} @J4.{0})) (A1 (A1 @false_implies @BN.{0}) (A1 @BN.{1} (A1 @V5 @L8)))))) (A1 (A1 (A1 (A1 (A1 @J7 @AG.{0}) (A1 @AG.{1} @U3)) (A1 (A1 @not_true_eq_false @V3) (A1 @F3 (A1 @N0 @Nat.succ_ne_self)))) (A1 (A1 (A1 @H8.{0,0} @T1.{0,0}) (A1 @Z3.{0,0} @G2.{0})) (A1 (A1 @E7 @Bool.true_eq_false) (A1 @A5 (A1 @forall_eq_or_imp.{0} @forall_eq_or_imp.{1}))))) (A1 (A1 (A1 (A1 @forall_eq.{0} @forall_eq.{1}) (A1 @Y5 @decide_false)) (A1 (A1 @D8 @D7) (A1 @L9.{0} (A1 @bne_self_eq_false.{0} @Go.Pl.hbuild_dig)))) (A1 (A1 (A1 @Go.Pl.dg_cells @Go.Pl.dg_isAgg) (A1 @Go.Pl.dg_denil @Go.Pl.dg_getAt)) (A1 (A1 @Go.Pl.dg_setAt @Go.Pl.denilL_dg) (A1 @Go.Pl.us_cells (A1 @Go.Hl.TyD.plain.eq_1 @Go.Hl.TyD.plain.eq_2))))))) (A1 (A1 (A1 (A1 (A1 (A1 @Go.Hl.TyD.plain.eq_3 @Go.Hl.TyD.plain.eq_4) (A1 @Go.Hl.TyD.plain.eq_5 @Go.Hl.bytesC_map)) (A1 (A1 @Go.Pl.Rq.cells @Go.Pl.Rq.denil) (A1 @Go.Pl.Rq.isAgg (A1 @Go.Pl.Rq.getAll @Go.Pl.Rq.setAll)))) (A1 (A1 (A1 @Go.Pl.Rq.fold @Go.Pl.denilL_Rq) (A1 @Go.Pl.Rq.get_k @Go.Pl.Rq.set_k)) (A1 (A1 @Go.Pl.Rq.get_n @Go.Pl.Rq.set_n) (A1 @Go.Pl.Rq.get_m (A1 @Go.Pl.Rq.set_m @Go.Pl.Rq.get_t))))) (A1 (A1 (A1 (A1 @Go.Pl.Rq.set_t @Go.Pl.Nd.cells) (A1 @Go.Pl.Nd.denil @Go.Pl.Nd.isAgg)) (A1 (A1 @Go.Pl.Nd.getAll @Go.Pl.Nd.setAll) (A1 @Go.Pl.Nd.fold (A1 @Go.Pl.denilL_Nd @Go.Pl.Nd.get_k)))) (A1 (A1 (A1 @Go.Pl.Nd.set_k @Go.Pl.Nd.get_n) (A1 @Go.Pl.Nd.set_n @Go.Pl.Nd.get_c)) (A1 (A1 @Go.Pl.Nd.set_c @Go.Pl.Nd.get_q) (A1 @Go.Pl.Nd.set_q (A1 @Go.Pl.Pr.cells @Go.Pl.Pr.denil)))))) (A1 (A1 (A1 (A1 (A1 @Go.Pl.Pr.isAgg @Go.Pl.Pr.getAll) (A1 @Go.Pl.Pr.setAll @Go.Pl.Pr.fold)) (A1 (A1 @Go.Pl.denilL_Pr @Go.Pl.Pr.get_a) (A1 @Go.Pl.Pr.set_a (A1 @Go.Pl.Pr.get_b @Go.Pl.Pr.set_b)))) (A1 (A1 (A1 @Go.Pl.Pr.get_c @Go.Pl.Pr.set_c) (A1 @Go.Pl.Pr.get_g @Go.Pl.Pr.set_g)) (A1 (A1 @Go.Pl.Pr.get_t @Go.Pl.Pr.set_t) (A1 @Go.Pl.Po.cells (A1 @Go.Pl.Po.denil @Go.Pl.Po.isAgg))))) (A1 (A1 (A1 (A1 @Go.Pl.Po.getAll @Go.Pl.Po.setAll) (A1 @Go.Pl.Po.fold @Go.Pl.denilL_Po)) (A1 (A1 @Go.Pl.Po.get_n @Go.Pl.Po.set_n) (A1 @Go.Pl.Po.get_v (A1 @Go.Pl.Po.set_v @Go.Pl.Po.get_r)))) (A1 (A1 (A1 @Go.Pl.Po.set_r @Go.Pl.Pt.cells) (A1 @Go.Pl.Pt.denil (A1 @Go.Pl.Pt.isAgg @Go.Pl.Pt.getAll))) (A1 (A1 @Go.Pl.Pt.setAll @Go.Pl.Pt.fold) (A1 @Go.Pl.denilL_Pt (A1 @Go.Pl.Pt.get_k @Go.Pl.Pt.get_c)))))))))
def sE :=(A1 (A1 (A1 (A1 @Go.Hl.hlex.eq_1 @Go.Hl.hlex.eq_2) (A1 @Go.Hl.hwalk2.eq_1 @Go.Hl.hwalk2.eq_2)) (A1 (A1 @Go.Hl.hlexG.eq_1 @Go.Hl.hlexG.eq_2) (A1 @Go.Hl.hwalk2G.eq_1 @Go.Hl.hwalk2G.eq_2))) (A1 (A1 (A1 @Go.Hl.hthen.eq_1 @Go.Hl.hthen.eq_2) (A1 @Go.Hl.hblk.eq_1 @Go.Hl.hblk.eq_2)) (A1 (A1 @I6.{0} @B0.{0}) (A1 @E5.{0} @F3))))
def sR :=(A1 (A1 (A1 @List.range.eq_1 @List.range.loop.eq_1) (A1 @List.range.loop.eq_2 @I6.{0})) (A1 (A1 @B0.{0} @E5.{0}) (A1 @F3 @N0)))
def sH :=(A1 (A1 @Go.Hl.hop1.eq_1 (A1 @Go.Hl.hgd.eq_1 @Go.Hl.hgd.eq_2)) (A1 @List.getElem_toArray.{0} (A1 @O8.{0} @U7.{0})))
def sN :=(A1 (A1 (A1 @Go.Hl.hop1H.eq_1 @Go.Hl.hop1N.eq_1) (A1 @Go.Hl.hop1L.eq_1 (A1 @Go.Hl.hreadH.eq_def @Go.Hl.hreadA.eq_def))) (A1 (A1 @Go.Hl.hparts.eq_1 @Go.Hl.hparts.eq_2) (A1 @Go.Hl.HO.isH.eq_def (A1 @Go.Hl.nthH_zero @Go.Hl.nthH_succ))))
def tyS :=(A1 (A1 (A1 (A1 (A1 (A1 (A1 @ty1 @ty2) (A1 @ty3 (A1 @ty4 @ty5))) (A1 (A1 @ty6 @ty7) (A1 @ty8 (A1 @ty9 @ty10)))) (A1 (A1 (A1 @ty11 @ty12) (A1 @ty13 (A1 @ty14 @ty15))) (A1 (A1 @ty16 (A1 @ty17 @ty18)) (A1 @ty19 (A1 @ty20 @ty21))))) (A1 (A1 (A1 (A1 @ty22 @ty23) (A1 @ty24 (A1 @ty26 @ty27))) (A1 (A1 @ty28 @ty29) (A1 @ty30 (A1 @ty31 @ty32)))) (A1 (A1 (A1 @ty33 @ty35) (A1 @ty36 (A1 @ty37 @ty38))) (A1 (A1 @ty40 (A1 @ty41 @ty42)) (A1 @ty43 (A1 @ty44 @ty45)))))) (A1 (A1 (A1 (A1 (A1 @ty46 @ty47) (A1 @ty48 (A1 @ty50 @ty51))) (A1 (A1 @ty52 @ty53) (A1 @ty54 (A1 @ty55 @ty56)))) (A1 (A1 (A1 @ty57 @ty58) (A1 @ty59 (A1 @ty60 @ty62))) (A1 (A1 @ty63 (A1 @ty64 @ty65)) (A1 @ty66 (A1 @ty68 @ty69))))) (A1 (A1 (A1 (A1 @ty70 @ty71) (A1 @ty72 (A1 @ty73 @ty74))) (A1 (A1 @ty75 (A1 @ty76 @ty77)) (A1 @ty78 (A1 @ty79 @ty80)))) (A1 (A1 (A1 @ty81 @ty82) (A1 @ty83 (A1 @ty84 @ty85))) (A1 (A1 @ty86 (A1 @ty87 @ty88)) (A1 @ty89 (A1 @ty90 @ty92))))))) (A1 (A1 (A1 (A1 (A1 (A1 @ty93 @ty94) (A1 @ty95 (A1 @ty96 @ty97))) (A1 (A1 @ty99 @ty101) (A1 @ty102 (A1 @ty103 @ty104)))) (A1 (A1 (A1 @ty106 @ty107) (A1 @ty108 (A1 @ty109 @ty110))) (A1 (A1 @ty111 (A1 @ty112 @ty113)) (A1 @ty114 (A1 @ty115 @ty116))))) (A1 (A1 (A1 (A1 @ty117 @ty118) (A1 @ty120 (A1 @ty121 @ty122))) (A1 (A1 @ty123 (A1 @ty124 @ty125)) (A1 @ty126 (A1 @ty127 @ty129)))) (A1 (A1 (A1 @ty130 @ty131) (A1 @ty132 (A1 @ty133 @ty135))) (A1 (A1 @ty136 (A1 @ty137 @ty138)) (A1 @ty139 (A1 @ty140 @ty141)))))) (A1 (A1 (A1 (A1 (A1 @ty143 @ty144) (A1 @ty145 (A1 @ty146 @ty148))) (A1 (A1 @ty149 @ty150) (A1 @ty152 (A1 @ty153 @ty155)))) (A1 (A1 (A1 @ty156 @ty157) (A1 @ty158 (A1 @ty159 @ty160))) (A1 (A1 @ty161 (A1 @ty163 @ty165)) (A1 @ty166 (A1 @ty167 @ty168))))) (A1 (A1 (A1 (A1 @ty169 @ty170) (A1 @ty171 (A1 @ty172 @ty173))) (A1 (A1 @ty174 (A1 @ty175 @ty176)) (A1 @ty177 (A1 @ty178 @ty179)))) (A1 (A1 (A1 @ty183 @ty184) (A1 @ty185 (A1 @ty186 @ty187))) (A1 (A1 @ty188 (A1 @ty189 @ty190)) (A1 @ty191 (A1 @eqdg175 @nedg175))))))))
theorem AI {p q:Prop}(h:q)(hp:p:=by first|omega|(simp only[maxLen];omega)|assumption|(simp[CV.cells];done)|(simp[CV.cells,maxLen];omega)):p∧q:=⟨hp,h⟩
section
variable {P:Program}{ops:Array Oper}{nx:Nat}{Q:Fr→Ob→Prop}{fr:Fr}{ob:Ob}{c:Bool}
theorem aG {l:List Nat}(d:Nat)(h:fr d= .c (.bool c))(hT:c=true→hlex P ops nx Q l fr ob)(hF:c=false→hlex P ops nx Q l fr ob):hlex P ops nx Q l fr ob:=by
  cases c
  · exact hF rfl
  · exact hT rfl
theorem aL1 {l:oP}{C:kY}(d:Nat)(h:fr d= .c (.bool c))(hT:c=true→hwalk2 P ops nx Q l C fr ob)(hF:c=false→hwalk2 P ops nx Q l C fr ob):hwalk2 P ops nx Q l C fr ob:=by
  cases c
  · exact hF rfl
  · exact hT rfl
end
end Go.Proofs.YtlgckianjabghaaGreatDoor
namespace Go.Hl
open Go
inductive HasTy (P:Program):TypeId→CV→Prop where
 |bool {t:TypeId} (hu:P.underlying t=some .bool) (b:Bool):HasTy P t (.bool b)
 |int {t:TypeId} {k:IntKind} (hu:P.underlying t=some (.int k)) {n:Int} (hw:(Lit.int k n).wf=true):HasTy P t (.int k n)
 |str {t:TypeId} (hu:P.underlying t=some .string) {s:List UInt8} (hs:s.length≤maxLen):HasTy P t (.str s)
 |slc {t e:TypeId} (hu:P.underlying t=some (.slice e)) {l:List CV} (hl: ∀x∈l,HasTy P e x) (hn:l.length≤maxLen):HasTy P t (.slc l)
 |arr {t e:TypeId} {m:Nat} (hu:P.underlying t=some (.array m e)) {l:List CV} (hl: ∀x∈l,HasTy P e x) (hn:l.length=m):HasTy P t (.agg l)
 |struct {t:TypeId} {fs:Array Field} (hu:P.underlying t=some (.struct fs)) {l:List CV} (hn:l.length=fs.size) (hl: ∀(i:Nat) (f:Field) (x:CV),fs.toList[i]? =some f→l[i]? =some x→HasTy P f.type x):HasTy P t (.agg l)
variable {c:CV}{t:TypeId}{P:Program}
theorem HasTy.of_int {k:IntKind}(hu:P.underlying t=some (.int k))(h:HasTy P t c): ∃n,c= .int k n∧(Lit.int k n).wf=true:=by
 cases h with
 |int h2 hw=>grind
 |bool h2|str h2|slc h2|arr h2|struct h2=>rw[hu]at h2;cases h2
theorem HasTy.of_slc {e:TypeId}(hu:P.underlying t=some (.slice e))(h:HasTy P t c): ∃l,c= .slc l∧(∀x∈l,HasTy P e x)∧l.length≤maxLen:=by
 cases h with
 |slc h2 hl hn=>grind
 |int h2|bool h2|str h2|arr h2|struct h2=>rw[hu]at h2;cases h2
def nO (P:Program):Nat→TypeId→Bool
 |0,_=>false
 |n+1,t=>match P.underlying t with
  |some .bool|some (.int _)|some .string=>true
  |some (.slice e)=>nO P n e
  |some (.array _ e)=>nO P n e
  |some (.struct fs)=>fs.toList.all fun f=>nO P n f.type
  |_=>false
theorem nP {α:Type}{w:World}{O:Nat→Prop}{g:α→List Value}{R:α→CV→Prop}: ∀(l:List α),(∀a∈l,∃c,RepC w O c (g a)∧R a c)→
  ∃cl:List CV,RepL w O cl (l.flatMap g)∧cl.length=l.length∧ ∀(i:Nat) a c,l[i]? =some a→cl[i]? =some c→R a c
 |[],_=>⟨[],by simp[RepL],rfl,by simp⟩
 |a::l,h=>by
  obtain⟨c,h1,h2⟩:=h a (by simp);obtain⟨cl,h3,h4,h5⟩:=nP l (fun x hx=>h x (by grind));refine⟨c::cl,by simp only[I1,RepL];grind,by grind,fun i x y hx hy=>?_⟩;grind
theorem yP {cw:Field→Nat}{cs:List Value}: ∀(fs:List Field) (k:Nat),(∀(j:Nat) f,fs[j]? =some f→f.offset=k+((fs.take j).map cw).sum)→
  fs.flatMap (fun f=>(cs.drop f.offset).take (cw f))=(cs.drop k).take ((fs.map cw).sum)
 |[],k,_=>by simp
 |f::fs,k,h=>by
  have h0:=h 0 f rfl;simp only[P2,H1,BO,N0]at h0;have ih:=yP (cw:=cw) (cs:=cs) fs (k+cw f) (fun j g hg=>by
   have:=h (j+1) g (by grind);grind)
  grind[List.drop_drop]
theorem yQ {cs:List Value}(c:Nat): ∀(m:Nat),(List.range m).flatMap (fun i=>(cs.drop (i*c)).take c)=cs.take (m*c)
 |0=>by simp
 |m+1=>by
  rw[AB,Q0,yQ c m];simp_all[I1,K5,J6,List.take_add,Z7]
theorem yR {w:World}{a:Addr}{c:Nat}{g:Nat→List Value}: ∀(m:Nat),(∀i,i<m→(g i).length=c∧ ∀r,r<c→w.cell? ((a.add (i*c)).add r)=(g i)[r]?)→
  ((List.range m).flatMap g).length=m*c∧ ∀j u,((List.range m).flatMap g)[j]? =some u→w.cell? (a.add j)=some u
 |0,_=>by simp
 |m+1,h=>by
  obtain⟨h1,h2⟩:=yR m (fun i hi=>h i (by omega));obtain⟨h3,h4⟩:=h m (by omega);rw[AB,Q0];simp only[I1,K5,J6];refine⟨by rw[A3,h1,h3,Z7],fun j u hj=>?_⟩;grind[List.getElem?_append_left,List.getElem?_append_right,List.getElem?_eq_some_iff,Addr.add_add]
section
variable {H:Type}{enc:TypeId×Value→H}{P:Program}{T:TypeId→Prop}{w:World}{base:Nat}{sp:Nat→Bool}{held:Bool}
theorem tC (K:Kids P T): ∀(m:Nat) (t:TypeId),nO P m t=true→T t→ ∀(n:Nat) (cs:List Value) (x:DataW H×List MemPlace),DataW.trod enc P w base sp held n t cs=some x→
  ∃c,RepC w (fun _=>False) c cs∧HasTy P t c∧cs.length=cs.length
 |0,t,hp,_,_,_,_,_=>by simp[nO]at hp
 |m+1,t,hp,hT,0,cs,x,h=>by simp[DataW.trod]at h
 |m+1,t,hp,hT,n+1,cs,x,h=>by
  unfold nO at hp;split at hp
  ·
   rename_i hu;unfold DataW.trod at h;rw[hu]at h;split at h
   case h_1=>rename_i b h1;exact⟨.bool b,by simp[RepC],.bool hu b,rfl⟩
   all_goals grind
  ·
   rename_i k hu;unfold DataW.trod at h;rw[hu]at h;split at h
   case h_2=>
    rename_i k' k2 n2 h1;cases h1;split at h
    · rename_i hc;obtain⟨rfl,hw⟩:=hc;exact⟨.int _ n2,by simp[RepC],.int hu hw,rfl⟩
    grind
   all_goals grind
  ·
   rename_i hu;unfold DataW.trod at h;rw[hu]at h;split at h
   case h_4=>
    rename_i s h1;split at h
    · rename_i hc;refine⟨.str s.data.toList,by simp[RepC],.str hu ?_,rfl⟩;simp_all
    grind
   all_goals grind
  ·
   rename_i e hu;unfold DataW.trod at h;rw[hu]at h;split at h
   case h_7=>
    rename_i el h1;exact⟨.slc [],by simp only[RepC];exact⟨none,0,[],0,rfl,by simp[RepL],by simp,by simp,fun _=>rfl,fun ad had=>(by grind)⟩,.slc hu (by simp) (by simp),rfl⟩
   case h_8=>
    rename_i e' a len cap h1;cases h1;simp only at h;split at h
    ·
     rename_i hc;obtain⟨hb,hlc,hcm⟩:=hc;rw[Z0]at h;obtain⟨elems,he,_⟩:=h;have hel: ∀i,i<len→ ∃cl,w.cells? base (a.add (i*P.cellsOf e)) (P.cellsOf e)=some cl∧ ∃y,DataW.trod enc P w base sp held n e cl=some y:=fun i hi=>by
      have:=AY he i i (by grind);grind[hlen,mapM_some_length,List.length_range,List.getElem?_eq_getElem,Option.bind_eq_some_iff]
     let g:Nat→List Value:=fun i=>(w.cells? base (a.add (i*P.cellsOf e)) (P.cellsOf e)).getD []
     have hg: ∀i,i<len→(g i).length=P.cellsOf e∧ ∀r,r<P.cellsOf e→w.cell? ((a.add (i*P.cellsOf e)).add r)=(g i)[r]? :=fun i hi=>by
      obtain⟨cl,h3,_⟩:=hel i hi;obtain⟨_,h4,h5⟩:=World.cells?_some h3;grind
     obtain⟨cl,hr,hlen,hty⟩:=nP (w:=w) (O:=fun _=>False) (g:=g) (R:=fun i c=>HasTy P e c∧c.cells=P.cellsOf e) (List.range len) (fun i hi=>by
      have hi':=Q3.1 hi;obtain⟨cl,h3,y,h4⟩:=hel i hi';have hgi:g i=cl:=by simp[g,h3]
      obtain⟨c,q1,q2,_⟩:=tC K m e hp (K.slice hT hu) n cl y h4;grind[bS,World.cells?_some])
     simp only[Y6]at hlen;have hmem: ∀x∈cl,HasTy P e x∧x.cells=P.cellsOf e:=fun x hx=>by
      obtain⟨i,hi,rfl⟩:=L4 hx;exact hty i i _ (W6 (by omega)) (by rw[B5 hi])
     refine⟨.slc cl,?_,.slc hu (fun x hx=>(hmem x hx).1) (by omega),rfl⟩;simp only[RepC];refine⟨some a,cap,_,P.cellsOf e,by rw[hlen],hr,fun v hv=>(hmem v hv).2,by omega,fun hh=>(by grind),fun ad had=>?_⟩;cases had;exact⟨(yR len hg).2,fun _ h=>h⟩
    grind
   all_goals grind
  ·
   rename_i k e hu;unfold DataW.trod at h;rw[hu]at h;split at h
   case h_10=>
    rename_i cs0 _ _ k' e' h1;cases h1;split at h
    ·
     rename_i hc;rw[C8]at h;obtain⟨xs,hxs,_⟩:=h;obtain⟨hTe,hce⟩:=K.array hT hu;obtain⟨cl,hr,hlen,hty⟩:=nP (w:=w) (O:=fun _=>False) (g:=fun i=>(cs0.drop (i*P.cellsOf e)).take (P.cellsOf e)) (R:=fun i c=>HasTy P e c) (List.range k) (fun i hi=>by
      have hi':=Q3.1 hi;have:=AY hxs i i (by grind);have hlen:=mapM_some_length hxs;simp only[Y6]at hlen;rw[B5 (by omega)]at this;obtain⟨c,q1,q2,_⟩:=tC K m e hp hTe n _ _ this;grind)
     simp only[Y6]at hlen;rw[yQ,←hce,←hc,E2]at hr;refine⟨.agg cl,hr,.arr hu (fun x hx=>?_) hlen,rfl⟩;obtain⟨i,hi,rfl⟩:=L4 hx;exact hty i i _ (W6 (by omega)) (by rw[B5 hi])
    grind
   all_goals grind
  ·
   rename_i fs hu;unfold DataW.trod at h;rw[hu]at h;split at h
   case h_9=>
    rename_i cs0 _ _ fs' h1;cases h1;split at h
    ·
     rename_i hc;rw[C8]at h;obtain⟨xs,hxs,_⟩:=h;obtain⟨hTf,hsum,hoff⟩:=K.struct hT hu;obtain⟨cl,hr,hlen,hty⟩:=nP (w:=w) (O:=fun _=>False) (g:=fun f:Field=>(cs0.drop f.offset).take (P.cellsOf f.type)) (R:=fun f c=>HasTy P f.type c) fs.toList (fun f hf=>by
      obtain⟨i,hi,rfl⟩:=L4 hf;have:=AY hxs i _ (B5 hi);have hlen:=mapM_some_length hxs;rw[B5 (by omega)]at this;obtain⟨c,q1,q2,_⟩:=tC K m _ (H6.1 hp _ (C0 hi)) (hTf _ (C0 hi)) n _ _ this;grind)
     rw[yP (cw:=fun f=>P.cellsOf f.type) fs.toList 0 (fun j f hf=>by grind),List.drop_zero,←hsum,←hc,List.take_length]at hr;exact⟨.agg cl,hr,.struct hu (by grind) hty,rfl⟩
    grind
   all_goals grind
  grind
theorem wX {t:TypeId}{v:Value}{c:CV}(hc:HasTy P t c)(h:Value.okWide P w .any base t v):c.isAgg=Value.isAgg' v:=by
 cases hc with
 |bool hu b=>unfold Value.okWide at h;rw[hu]at h;simp only[Cell.okWide,hu]at h;cases v<;>simp_all[Cell.ok,CV.isAgg,Value.isAgg']
 |int hu hw=>unfold Value.okWide at h;rw[hu]at h;simp only[Cell.okWide,hu]at h;cases v<;>simp_all[Cell.ok,CV.isAgg,Value.isAgg']
 |str hu hs=>unfold Value.okWide at h;rw[hu]at h;simp only[Cell.okWide,hu]at h;cases v<;>simp_all[Cell.ok,CV.isAgg,Value.isAgg']
 |slc hu hl hn=>unfold Value.okWide at h;rw[hu]at h;simp only[Cell.okWide,hu]at h;cases v<;>simp_all[Cell.ok,CV.isAgg,Value.isAgg']
 |arr hu hl hn=>unfold Value.okWide at h;rw[hu]at h;obtain⟨cs,rfl,_⟩:=h;rfl
 |struct hu hn hl=>unfold Value.okWide at h;rw[hu]at h;obtain⟨cs,rfl,_⟩:=h;rfl
theorem aT0 (b:Nat): ¬Own (fun _=>none) b:=by rintro⟨_,_,h,_⟩;cases h
theorem tD (K:Kids P T){m:Nat}: ∀{ts:List TypeId} {vs:List Value} {ds:List (DataW H)} {ps:List MemPlace},DataW.TrodAll enc P w base sp held ts vs ds ps→(∀t∈ts,nO P m t=true∧T t)→
  (∀(j:Nat) t v,ts[j]? =some t→vs[j]? =some v→Value.okWide P w .any 0 t v)→
  ∃cs:List CV,RepHV w (fun _=>none) (Owned (fun _=>none) (fun _=>False)) (cs.map .c) vs∧cs.length=ts.length∧ds.length=ts.length∧ ∀(j:Nat) t c,ts[j]? =some t→cs[j]? =some c→HasTy P t c
 |[],vs,ds,ps,h,_,_=>by
  obtain⟨rfl,rfl,rfl⟩:=Y7 h;exact⟨[],by simp[RepHV],rfl,rfl,by simp⟩
 |t::ts,vs,ds,ps,h,hp,ho=>by
  obtain⟨v,vs1,d,ds1,a,b,rfl,rfl,rfl,⟨n,h1⟩,h2⟩:=X8 h;obtain⟨c,q1,q2,_⟩:=tC (w:=w) K m t (hp t (by simp)).1 (hp t (by simp)).2 n _ _ h1;obtain⟨cs,r1,r2,r3,r4⟩:=tD K h2 (fun t ht=>hp t (by simp[ht])) (fun j t v h3 h4=>ho (j+1) t v (by simpa using h3) (by simpa using h4));have hst:Stay w (fun _=>False) w (Owned (fun _=>none) (fun _=>False)):=⟨fun b _ _=>⟨rfl,fun hb=>hb.elim (fun x=>x) (aT0 b)⟩⟩;refine⟨c::cs,?_,by simp[r2],by simp[r3],fun j t' c' h3 h4=>?_⟩
  · rw[D0,bY];exact⟨v,vs1,rfl,⟨by simp only[RepH];exact q1.stay hst,wX q2 (ho 0 t v rfl rfl)⟩,r1⟩
  ·
   cases j with
   |zero=>simp at h3 h4;rw[←h3,←h4];exact q2
   |succ j=>simp at h3 h4;exact r4 j t' c' h3 h4
theorem bO5 {w w':World}(h: ∀b,b<w.heap.size→w'.heap[b]? =w.heap[b]?){p:MemPlace}(hp:p.block<w.heap.size):w.sameAt w' p:=by
 cases p with
 |cell b off=>exact World.cell?_of_block (h b hp)
 |map b=>exact h b hp
theorem rB {w':World}: ∀{ts:List TypeId} {vs:List Value} {ds:List (DataW H)} {ps:List MemPlace},DataW.TrodAll enc P w base sp held ts vs ds ps→(∀p∈ps,w.sameAt w' p)→DataW.TrodAll enc P w' base sp held ts vs ds ps
 |[],_,_,_,h,_=>by
  obtain⟨rfl,rfl,rfl⟩:=Y7 h;exact Y8
 |t::ts,_,_,_,h,hs=>by
  obtain⟨v,vs1,d,ds1,a,b,rfl,rfl,rfl,⟨n,h1⟩,h2⟩:=X8 h;exact⟨a,b,⟨n,DataW.trod_carry n t _ _ h1 (fun p hp=>hs p (M5 _ hp))⟩,rB h2 (fun p hp=>hs p (J5 _ hp)),rfl⟩
theorem bC0 {w w':World}(h1:w'.os=w.os)(h2:w'.output=w.output)(h: ∀b,b<w.heap.size→w'.heap[b]? =w.heap[b]?)(may:MemPlace→Prop):w.keptBut w' may:=by
 refine⟨h1,h2,fun i hi=>?_⟩;grind
end
end Go.Hl
namespace Go.Hl
open Go Go.RowKit Go.Sort Go.Proofs
end Go.Hl
namespace Go.Hl
open Go Go.RowKit
end Go.Hl
namespace Go.Hl
open Go Go.RowKit Go.Sort
abbrev mH :=List (Nat×List Value)
def fX (T:mH):Ob:=fob [(0,.tab T)]
def nQ (P:Program)(f:FuncId)(T:mH)(args:List CV)(R:CV→Prop):Prop:=
 HFn P f (args.map .c) 1 (fX T) (fun r ob'=> ∃v,r= .c v∧ob'=fX T∧R v)
def bH9 (P:Program)(f:FuncId)(T:mH)(args:List CV)(R:CV→CV→Prop):Prop:=
 HFn P f (args.map .c) 1 (fX T) (fun r ob'=> ∃u v,r= .tup [.c u,.c v]∧ob'=fX T∧R u v)
theorem iD (T:mH)(j:Nat):fX T j=if j=0 then some (.tab T)else none:=by
 simp only[fX,fob_at,fob_nil]
theorem gT (T:mH)(args:List CV):LocOk 1 (args.map .c) (fX T):=by
 refine⟨fun j h=>?_,fun id o h=>?_,HV.menL_c⟩
 ·
  have:j=0:=by omega
  subst this;exact⟨_,rfl⟩
 grind[iD,HO.men]
variable {T:mH}{ob:Ob}
theorem bC2 {cl:List Nat}(hb:ob 0=some (.tab T))(h0:0∉cl)(j:Nat)(o:HO)(ho:fX T j=some o):
  j<1+4∧o.men (· <1+4)∧id j∉cl∧ ∃o0,ob (id j)=some o0∧(match o0 with| .box t v=>HO.box t (v.close ob cl).norm| .row e sz l=> .row e sz l| .mp e sz D=> .mp e sz D| .dead=> .dead| .tab T=> .tab T| .hrow e sz l=> .hrow e sz (HV.closeL ob cl l)| .raw es c=> .raw es c| .it m s q l=> .it m s q l)=o.ren id:=by
 rw[iD]at ho;split at ho
 ·
  subst_vars
  cases ho;exact⟨by omega,by simp[HO.men],h0,_,hb,rfl⟩
 grind
variable {r:HV}
theorem eX {R:CV→Prop}(cl:List Nat)(v:CV)(h:(r.close ob cl).norm= .c v)(hb:ob 0=some (.tab T))(h0:0∉cl)(hR:R v):
  lC 1 r ob (fun r ob'=> ∃v,r= .c v∧ob'=fX T∧R v):=
 ⟨cl,id,.c v,fX T,⟨v,rfl,rfl,hR⟩,by rw[h];rfl,fun _ _=>rfl,fun _ _ _ _ h=>h,by simp[HV.men],bC2 hb h0⟩
variable {R:CV→CV→Prop}
theorem wH (cl:List Nat)(u v:CV)(h:(r.close ob cl).norm= .tup [.c u,.c v])(hb:ob 0=some (.tab T))(h0:0∉cl)(hR:R u v):
  lC 1 r ob (fun r ob'=> ∃u v,r= .tup [.c u,.c v]∧ob'=fX T∧R u v):=
 ⟨cl,id,.tup [.c u,.c v],fX T,⟨u,v,rfl,rfl,hR⟩,by grind[HV.ren,HV.renL],fun _ _=>rfl,fun _ _ _ _ h=>h,by simp[HV.men,HV.menL],bC2 hb h0⟩
variable {nid:Nat}
theorem oT {id:Nat}(hid:ob id=some (.tab T))(hfree:ob nid=none∧ob (nid+1)=none∧ob (nid+2)=none∧ob (nid+3)=none):cJ ob [id] nid (fX T)=ob:=by
 funext i;by_cases e:i=id
 · subst e;simp only[cJ,N1,L9,F7,iD,H8,hid];rfl
 ·
  have e':(id==i)=false:=by simp;exact fun h=>e h.symm
  simp only[cJ,N1,e',U6,T1];simp only[E7,J2];split
  ·
   rename_i hr;have h1:[id].length+(i-nid)≠0:=by simp
   rw[iD,A7 h1];grind
  · rfl
theorem uW {id:Nat}(hid:ob id=some (.tab T)): ∀j o,fX T j=some o→ob ([id].getD j 0)=some (o.ren (sub [id] nid)):=by grind[iD,HO.ren]
variable {args:List CV}{K:HV→Ob→Prop}{f:FuncId}{av:List Nat}{P:Program}
theorem gM {R:CV→Prop}(id:Nat)(h:nQ P f T args R)(hid:ob id=some (.tab T))(hav:id∉av)
  (hfree:ob nid=none∧ob (nid+1)=none∧ob (nid+2)=none∧ob (nid+3)=none) (hK: ∀v,R v→K (.c v) ob):HCall P av f (args.map .c) ob nid K:=by
 refine⟨[id],args.map .c,_,_,h,gT T args,⟨by simp,by grind⟩,(HV.renL_c _ _).symm,uW hid,fun r lob' hR _=>?_⟩;obtain⟨v,rfl,rfl,hR⟩:=hR;rw[oT hid hfree];exact hK v hR
theorem wI (id:Nat)(h:bH9 P f T args R)(hid:ob id=some (.tab T))(hav:id∉av)
  (hfree:ob nid=none∧ob (nid+1)=none∧ob (nid+2)=none∧ob (nid+3)=none) (hK: ∀u v,R u v→K (.tup [.c u,.c v]) ob):HCall P av f (args.map .c) ob nid K:=by
 refine⟨[id],args.map .c,_,_,h,gT T args,⟨by simp,by grind⟩,(HV.renL_c _ _).symm,uW hid,fun r lob' hR _=>?_⟩;obtain⟨u,v,rfl,rfl,hR⟩:=hR;rw[oT hid hfree];exact hK u v hR
theorem bC3 {g:Nat}{name:String}{k:IntKind}{zs:List Int}(hok:fQ P f=true)(hg:P.globalNamed name=some g)(hT:(g,zs.map fun z=>Value.int k z)∈T){a b:Int}{s:List UInt8}
  (hc: ∀w:World,Lib.TabIs P w name k zs→Calls P f #[.int .i64 a,.int .i64 b] w fun e w'=>e= .returned (.string ⟨s.toArray⟩)∧ ∃n os,w'=grow (w.drewN n) os):
  nQ P f T [.int .i64 a,.int .i64 b] (fun v=>v= .str s):=by
 refine⟨bG4 hok,fun w ρ X xs hS hA hX=>Does.of hok ?_⟩;have h0:=hS.objs 0 _ (rfl:fX T 0=some (.tab T));have htab:Lib.TabIs P w name k zs:=by
  obtain⟨-,h1⟩:=h0;obtain⟨⟨t,fz,h2⟩,-⟩:=h1 _ hT;simp only[Lib.TabIs,World.var?,hg,Z3,h2]
 simp only[D0,H1,bY,RepHV]at hA;obtain⟨x,zs',rfl,hx,y,zs'',rfl,hy,rfl⟩:=hA;have h1:=RepV.single hx rfl;have h2:=RepV.single hy rfl;simp only[RepC,G4,L8]at h1 h2;subst h1 h2;refine(hc w htab).mono ?_;rintro ex w' ⟨rfl,n,os,rfl⟩;have hs2:Stay2 w (Own ρ) (grow (w.drewN n) os) (Own ρ):=⟨fun c hc' _=>by grind[grow,World.drewN,Array.getElem?_append_left],fun _ h=> .inl h,by simp_all,rfl,rfl,rfl⟩;have hst:=hs2.stay X;refine⟨_,_,ρ,_,rfl,⟨_,rfl,rfl,rfl⟩,⟨?_,⟨fun i o ho=>?_,hS.none,hS.apart,hS.xb⟩,by simp[HV.men],fun i o ho=>?_,hs2,Moves.refl _ _⟩⟩
 · refine dD ?_ rfl rfl;simp[RepC]
 ·
  rw[iD]at ho;split at ho
  ·
   subst_vars
   cases ho;exact⟨h0.1,mL hst h0.2⟩
  · cases ho
 grind[iD,HO.men]
end Go.Hl
namespace Go.Hl
open Go Go.RowKit
section
variable {P:Program}{T:TypeId→Prop}{H:Type}{enc:TypeId×Value→H}
theorem bO6 {W:World}{args:Array Value}{f:FuncId}{fn:Func}{s:ChangeSpec}{mm:Nat}{tb:TypeId}{tabs:mH}(hok:fQ P f=true)(K:Kids P T)(hz: ∀t e,T t→P.underlying t=some (.slice e)→0<P.cellsOf e)(hvars:s.vars=[])(hres:fn.resultTypes= #[tb])(htb:P.underlying tb=some .bool)
  (hspec: ∀(H:Type) (ds:List (DataW H)),ds.length=fn.params.toList.length→(s.fn H ds).results=[.lit (.bool true)]∧(s.fn H ds).args=ds∧(s.fn H ds).vars=[]) (hpl: ∀t∈fn.params.toList,nO P mm t=true∧T t)
  (hlaw: ∀cs:List CV,cs.length=fn.params.toList.length→(∀(j:Nat) t c,fn.params.toList[j]? =some t→cs[j]? =some c→HasTy P t c)→RepHV W (fun _=>none) (Owned (fun _=>none) (fun _=>False)) (cs.map .c) args.toList→nQ P f tabs cs (fun v=>v= .bool true))
  (htab: ∀x∈tabs,∃t fz,W.heap[x.1]? =some (.cells x.2.toArray t fz)) {ds gs:List (DataW H)} {before:List MemPlace} (hval: ∀(j:Nat) t v,fn.params[j]? =some t→args[j]? =some v→Value.okWide P W .any 0 t v)
  (hW:DataW.Whole enc P fn.params.toList s.vars false W args.toList ds gs before):
  Calls P f args W fun e W'=> ∃v,e= .returned v∧s.post enc P fn false true false false W args v W':=by
 have hW':=hW;obtain⟨p,q,hA,hV,rfl,hfz,hnd⟩:=hW;rw[hvars]at hV;obtain⟨rfl,rfl⟩:=ChangeShapes.trodVars_none hV;simp only[J6]at hW' hfz;obtain⟨cs,r1,r2,r3,r4⟩:=tD (m:=mm) K hA hpl (fun j t v h1 h2=>hval j t v (by grind) (by grind));obtain⟨_,hrun⟩:=hlaw cs r2 r4 r1;have hS:RepS W (fun _=>none) (fun _=>False) (fX tabs):=by
  refine⟨fun i o h=>?_,fun _ _=>rfl,fun _ _ _ _ _ h=>(by grind),fun _ _ _ h=>(by grind)⟩;rw[iD]at h;split at h
  ·
   cases h;refine⟨rfl,fun x hx=>⟨htab x hx,?_⟩⟩;rintro(h1|⟨i,L,h1,_⟩)
   · exact h1
   · cases h1
  · cases h
 have hcall:=hrun W (fun _=>none) (fun _=>False) args.toList hS r1 (fun _ h=>h.elim);rw[I4]at hcall;refine(hcall.calls hok).mono ?_;rintro e W' ⟨r,ob',ρ',x,rfl,⟨v,rfl,rfl,rfl⟩,hg⟩;obtain⟨hr1,hr2⟩:=hg.v;have hx:x= .bool true:=by
  have hag:Value.isAgg' x=false:=by rw[←hr2];rfl
  rw[cells_single hag]at hr1;simpa[RepH,RepC]using hr1
 subst hx;have hheap: ∀b,b<W.heap.size→W'.heap[b]? =W.heap[b]? :=fun b hb=>hg.stay.block b hb (aT0 b);obtain⟨s1,s2,s3⟩:=hspec H (ds++[]) (by simpa using r3);have hlt: ∀a∈p,a.block<W.heap.size:=hA.lt;have args': ∀sp:Nat→Bool,(∀a∈p,sp a.block=true)→DataW.TrodAll enc P W' 0 sp true fn.params.toList args.toList ds p:=fun sp hsp=>
  rB (hA.respare K hz (fun t ht=>(hpl t ht).2) hsp) (fun a ha=>bO5 hheap (hlt a ha))
 have hrl:Value.resultList fn.resultTypes.size (.bool true)=[.bool true]:=by rw[hres];rfl
 have hresT: ∀(b:Nat) (sp:Nat→Bool) (hd:Bool),DataW.TrodAll enc P W' b sp hd fn.resultTypes.toList (Value.resultList fn.resultTypes.size (.bool true)) [.lit (.bool true)] []:=fun b sp hd=>by
  rw[hrl,hres];exact trodAll_cons_mk (RowKit.shut_bool htb true) Y8
 refine⟨.bool true,rfl,ds,[],p,[],p,[],by simpa using hW',?_,?_,?_,?_,?_⟩
 · rw[s1];exact hresT _ _ _
 · rw[s2];simpa using args' _ (fun a ha=>by simpa using hlt a ha)
 · rw[s3,hvars];rfl
 · exact bC0 hg.stay.os hg.stay.output hheap _
 · intro h;cases h
theorem bO7 {f:FuncId}{fn:Func}{s:ChangeSpec}{mm:Nat}{tb:TypeId}{tabs:mH}(hok:fQ P f=true)(K:Kids P T)(hz: ∀t e,T t→P.underlying t=some (.slice e)→0<P.cellsOf e)(hvars:s.vars=[])(hres:fn.resultTypes= #[tb])(htb:P.underlying tb=some .bool)
  (hspec: ∀(H:Type) (ds:List (DataW H)),ds.length=fn.params.toList.length→(s.fn H ds).results=[.lit (.bool true)]∧(s.fn H ds).args=ds∧(s.fn H ds).vars=[]) (hpl: ∀t∈fn.params.toList,nO P mm t=true∧T t)
  (hlaw: ∀cs:List CV,cs.length=fn.params.toList.length→(∀(j:Nat) t c,fn.params.toList[j]? =some t→cs[j]? =some c→HasTy P t c)→nQ P f tabs cs (fun v=>v= .bool true))
  {W:World} (htab: ∀x∈tabs,∃t fz,W.heap[x.1]? =some (.cells x.2.toArray t fz)) {args:Array Value} {ds gs:List (DataW H)} {before:List MemPlace} (hval: ∀(j:Nat) t v,fn.params[j]? =some t→args[j]? =some v→Value.okWide P W .any 0 t v)
  (hW:DataW.Whole enc P fn.params.toList s.vars false W args.toList ds gs before):
  Calls P f args W fun e W'=> ∃v,e= .returned v∧s.post enc P fn false true false false W args v W':=
 bO6 hok K hz hvars hres htb hspec hpl (fun cs h1 h2 _=>hlaw cs h1 h2) htab hval hW
end
theorem aB3 {P:Program}{W:World}{name:String}{k:IntKind}{zs:List Int}{g:Nat}(hg:P.globalNamed name=some g)(h:Lib.TabIs P W name k zs): ∃t fz,W.heap[g]? =some (.cells (zs.map fun z=>Value.int k z).toArray t fz):=by grind[Lib.TabIs,World.var?]
end Go.Hl
