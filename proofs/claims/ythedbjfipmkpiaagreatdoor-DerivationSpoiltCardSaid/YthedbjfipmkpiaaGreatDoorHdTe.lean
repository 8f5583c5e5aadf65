/- Part of a proof: walks of functions of the program, by contracts, and the rules they use. By an AI agent. -/
import Derived.Test.YthedbjfipmkpiaaGreatDoorPl31c
set_option maxRecDepth 10000
set_option maxHeartbeats 16000000
set_option linter.unusedSimpArgs false
set_option linter.unusedVariables false
set_option linter.defProp false
namespace Go.Pl
open Go Go.Hl
def dws (l:List Dig):List aK:=l.map Subtype.val
theorem iE (l:List Dig):(dws l).length=l.length:=A0 _
theorem vT (l:List Dig)(i:Nat)(h:i<(dws l).length):(dws l)[i]=(l[i]'(by rwa [iE]at h)).1:=by simp[dws]
theorem mH (l:List Dig)(i:Nat):dws (l.take i)=(dws l).take i:=S6
theorem tL (a b:List Dig):dws (a++b)=dws a++dws b:=C5
theorem pC (l:List Dig)(d:Dig):l.contains d=(dws l).contains d.1:=by
 rw[K5,W9,W9];exact⟨fun h=>H0.2 ⟨d,h,rfl⟩,fun h=>by obtain⟨x,J,I⟩:=H0.1 h;rwa [←Subtype.ext I]⟩
variable {k:Nat}
theorem aU4 {l:List Dig}(h:k<l.length):((dws l)[k]'(by rwa [iE])==(dws l)[k-1]'(by rw[iE];omega))=(l[k]==l[k-1]):=by
 rw[vT,vT,K5,I6,I6,AR]
theorem cW7 {l:List Dig}(U:1≤k)(h:k<l.length)(I:(l[k]==l[k-1])=false)(J:cQ (dws (l.take k))=dws (l.take k)):cQ (dws (l.take (k+1)))=dws (l.take (k+1)):=by
 rw[mH]at J⊢;exact bK7 U (by rwa [iE]) (by rw[aU4 h];exact I) J
theorem bR7 {l:List Dig}(I:1≤k)(h:k<l.length)(he:(l[k]==l[k-1])=true):cQ (dws (l.take (k+1)))=cQ (dws (l.take k)):=by
 rw[mH,mH];exact bK8 I (by rwa [iE]) (by rw[aU4 h];exact he)
variable {i:Nat}
theorem dG0 {l r:List Dig}(J:1≤k)(h:k<l.length)(I:(l[k]==l[k-1])=false)(hi:i<r.length)(U:dws (r.take i)=cQ (dws (l.take k))):dws ((r.set i l[k]).take (i+1))=cQ (dws (l.take (k+1))):=by
 rw[mH l,bX6 J (by rwa [iE]) (by rw[aU4 h];exact I),←mH,←U,vT];rw[A5 (by simpa using hi),BR (E3 _),tL];simp[dws]
def fQ (X:List Ln):List Dig:=X.flatMap Ln.d
def cL6 (X:List Ln):List aK:=bV4 (dws (fQ X))
theorem bZ5 {l s:List Dig}(hp:s.Perm l)(hs:s.Pairwise fun a b=>slt b.1 a.1=false):cQ (dws s)=bV4 (dws l):=by
 refine bK3 ?_ fun w=>?_
 · unfold dws;rw[List.pairwise_map];refine hs.imp fun {a b} h=>?_;rw[←List.not_lt,←zL];simpa using h
 · unfold dws;exact(hp.map _).mem_iff
theorem zR {x:Ln}(h:cP x=true):(wordK x.k).length≤7∧(∀n∈x.n::x.f,0≤n∧n≤1099511627776):=by
 simp only[cP,B3,inB,C4]at h;obtain⟨⟨⟨U,h2⟩,J⟩,I⟩:=h;refine⟨?_,fun n hn=>?_⟩
 ·
  obtain h|h|h|h|h:x.k=1∨x.k=2∨x.k=3∨x.k=4∨x.k=5:=by omega
  all_goals rw[h];decide
 ·
  rcases E0.1 hn with rfl|hn
  · exact(eX _).1 J
  ·
   split at I
   · rw[I6]at I;rw[I]at hn;cases hn
   · simp only[B3]at I;exact(eX _).1 (G5.1 I.1 n hn)
theorem zS {n:Int}(h:0≤n∧n≤1099511627776):(fT n).length≤21∧sizeW (fT n)≤64:=by
 have I:=cI2 (n:=n) (by omega);have:=dA (fT n);omega
theorem aO7 : ∀{f:List Int},(∀n∈f,0≤n∧n≤1099511627776)→gS (f.map fT)≤65*f.length
 |[],_=>by simp[gS]
 |n::f,h=>by
  have I:=aO7 (f:=f) fun m hm=>h m (H2 _ hm);have J:=(zS (h n H9)).2;simp only[gS,B8,BY,A8]at I⊢;omega
theorem jX (w:aK)(l:List aK):gS (w::l)=sizeW w+1+gS l:=by simp[gS]
theorem bR8 :gS []=0:=rfl
theorem lO (l:List aK)(ls:List (List aK)):sumD (l::ls)=gS l+sumD ls:=by simp[sumD]
theorem gJ (a b:List (List aK)):sumD (a++b)=sumD a+sumD b:=by simp[sumD]
theorem bZ6 (I:List Dig):sumD (I.map nH)≤226*I.length:=by
 induction I with
 |nil=>simp[sumD]
 |cons d I U=>
  have J:=dA (kQ d);have h2:=dA wDoc;rw[qM]at J;have h3:wDoc.length=3:=rfl;rw[B8,lO,nH,jX,jX,bR8,A8];omega
theorem aF5 {l:List Ln}(h:l.all cP=true):sumD (l.flatMap eD)≤88*l.length+65*(refs l).length+226*(fQ l).length:=by
 induction l with
 |nil=>simp[sumD]
 |cons x l U=>
  simp only[Q6,B3]at h;have h0:=U h.2;obtain⟨h1,J⟩:=zR h.1;have h3:=aO7 J;have h4:=dA (wordK x.k);have h5:=bZ6 x.d;have e:refs (x::l)=x.f++refs l:=by simp[refs]
  have I:fQ (x::l)=x.d++fQ l:=by simp[fQ]
  rw[G3,gJ,eD,lO,firstL,jX,e,I];simp only[B8,A8,A3]at h3⊢;omega
theorem rQ (l:List Ln):(l.flatMap eD).length=l.length+(fQ l).length:=by
 induction l with
 |nil=>rfl
 |cons x l I=>
  rw[G3,A3,I];simp only[eD,fQ,A8,A0,G3,A3];omega
theorem lines_ok {l:List Ln}(h:l.all cP=true)(I: ∀x∈l,x.f.length≤100): ∀w∈l.flatMap eD,okL w=true:=by
 intro w hw;obtain⟨x,hx,hw⟩:=K3.1 hw;have hf:=G5.1 h x hx;obtain⟨U,J⟩:=zR hf;have h3:=I x hx;rw[eG];rcases E0.1 hw with rfl|hw
 ·
  refine⟨by simp[firstL],by simp only[firstL,A8,A0];omega,fun u hu=>?_⟩;rcases E0.1 hu with rfl|hu
  · omega
  · obtain⟨n,hn,rfl⟩:=H0.1 (show u∈(x.n::x.f).map fT from hu);have:=(zS (J n hn)).1;omega
 ·
  obtain⟨d,_,rfl⟩:=H0.1 hw;refine⟨by simp[nH],by simp[nH],fun u hu=>?_⟩;simp only[nH,E0,H7,N6]at hu;rcases hu with rfl|rfl
  · decide
  · rw[qM];decide
structure SmallD (d:Dv):Prop where
 fine:jU d=true
 n:d.q.n.length≤100
 i:d.q.i.length≤100
 l:d.o.l.length≤100
 r:d.o.r.length≤100
 lines:d.l.length≤100
 refs:(refs d.l).length≤100
 docs:(fQ d.l).length≤200
variable {x:Ln}
theorem aU5 {l:List Ln}(h:x∈l):x.f.length≤(refs l).length:=by
 induction l with
 |nil=>cases h
 |cons y l I=>
  have e:refs (y::l)=y.f++refs l:=by simp[refs]
  rw[e,A3];rcases E0.1 h with rfl|h
  · omega
  · have:=I h;omega
variable {d:Dv}
theorem head_ok (h:SmallD d):(∀w∈lA d,okL w=true)∧sumD (lA d)≤3400:=by
 have hf:=h.fine;simp only[jU,B3]at hf;have h1:=zS ((eX _).1 hf.1.1);have h2:=zS ((eX _).1 hf.1.2);have a1:=h.n;have a2:=h.i;have a3:=h.l;have a4:=h.r;have b1:wDer.length=10:=rfl;have b2:wOrg.length=6:=rfl;constructor
 ·
  intro w hw;rw[eG];simp only[lA,E0,H7,N6]at hw;rcases hw with rfl|rfl
  · refine⟨by simp,by simp,fun u hu=>?_⟩;simp only[E0,H7,N6]at hu;rcases hu with rfl|rfl|rfl|rfl|rfl|rfl|rfl<;>first|omega|(rw[qM];omega)
  · refine⟨by simp,by simp,fun u hu=>?_⟩;simp only[E0,H7,N6]at hu;rcases hu with rfl|rfl|rfl|rfl<;>first|omega|(rw[qM];omega)
 · have c1:=dA wDer;have c2:=dA wOrg;have c3:=dA d.q.n;have c4:=dA d.q.i;have I:=dA (kQ d.q.a);have J:=dA (kQ d.p);have U:=dA (kQ d.o.v);have c8:=dA d.o.l;have c9:=dA d.o.r;rw[qM]at I J U;simp only[lA,lO,jX,bR8,show sumD []=0 from rfl];omega
theorem bZ7 (h:SmallD d):dvE d=0:=by
 obtain⟨h1,h2⟩:=head_ok h;have hf:=h.fine;have hl:d.l.all cP=true:=by simp only[jU,B3]at hf;exact hf.2
 have h3:=lines_ok hl fun x hx=>R6 (aU5 hx) h.refs;have h4:=aF5 hl;have U:=rQ d.l;have a1:=h.lines;have a2:=h.refs;have a3:=h.docs;have I: ∀w∈fV d,okL w=true:=fun w hw=>by
  rcases D6.1 hw with hw|hw
  · exact h1 w hw
  · exact h3 w hw
 have J: ∀w∈fV d,w≠[]:=fun w hw=>((eG w).1 (I w hw)).1;have hlen:(fV d).length≤1000:=by
  rw[fV,A3,U];have:(lA d).length=2:=rfl;omega
 unfold dvE;rw[B1 hf,oY hlen I,kX J,fV,gJ,A7 (by omega)]
theorem aU6 {n a b:Int}:inB n a b=true↔a≤n∧n≤b:=by unfold inB;simp
theorem bD1 {r:Pr}(h:vG r=true):(0≤r.g∧r.g≤1099511627776)∧IsTree r.t∧fL r.a=true∧(bK0 r.b).isSome=true∧(bK0 r.c).isSome=true:=by
 unfold vG at h;simp only[B3,aU6]at h;obtain⟨h1,J,U,⟨h4,I⟩,h6⟩:=h;rw[vE]at I;exact⟨⟨h4,I⟩,fN h6,h1,J,U⟩
theorem cW8 {p:Po}(h:cJ2 p=true):(1≤p.v∧p.v≤1099511627776)∧p.r.length≤16∧fL p.n=true∧ ∀r∈p.r,vG r=true:=by
 unfold cJ2 at h;simp only[B3,aU6,C4,G5]at h;obtain⟨h1,⟨h2,I⟩,J,U,-⟩:=h;rw[vE]at I;exact⟨⟨h2,I⟩,J,h1,U⟩
theorem bR9 : ∀(l:List Nd) (m:Nat) (v:Int),skip m l=some []→(∀n∈l,dK n=true)→uH l m v=some (0,v+lv l)
 |[],0,v,_,_=>by simp[uH,lv]
 |[],m+1,v,h,_=>by cases h
 |n::l,0,v,h,_=>by grind[gW]
 |n::l,m+1,v,h,hn=>by
  have h':skip (m+n.c.toNat) l=some []:=h;have I:=hn n H9;obtain⟨c1,c2,U,J⟩:=fM I;have e:((m+1:Nat):Int)+(n.c-1)=((m+n.c.toNat:Nat):Int):=by omega
  rw[uH,A7 (by omega),B1 I,e,bR9 l _ _ h' (fun x hx=>hn x (H2 _ hx)),lv];grind
variable {l:List Nd}
theorem bD2 (h:IsTree l):eJ l=true:=by
 unfold eJ;have:=bR9 l 1 0 h.skip h.node;rw[show((1:Nat):Int)=1 from rfl]at this;rw[this];have:=h.lv;simp[h.ne,h.len];omega
def uni (l:List (Nat×Nat)):List (Nat×Nat):=l.eraseDups
def aF6 (f:Nat→List (Nat×Nat)):Nat→Nat→Nat×Nat→List (Nat×Nat)
 |0,_,p=>[p]
 |c+1,n,p=>uni ((f n).flatMap fun q=>aF6 f c (n+q.1) (p.1+q.1,p.2+q.2))
def pos :Nat→Nat→List (Nat×Nat)
 |0,_=>[(1,1)]
 |d+1,n=>uni ((1,1)::if n≤8 then(List.range 3).flatMap fun c=>aF6 (pos d) (c+1) (n+1) (1,0)else [])
theorem rR {l:List (Nat×Nat)}{p:Nat×Nat}:p∈uni l↔p∈l:=by unfold uni;simp_all
theorem aO8 {f:Nat→List (Nat×Nat)}: ∀{c n:Nat} {p q r:Nat×Nat},q∈aF6 f c n p→r∈f (n+(q.1-p.1))→p.1≤q.1→(q.1+r.1,q.2+r.2)∈aF6 f (c+1) n p
 |0,n,p,q,r,I,hr,_=>by simp_all[aF6,E5,U3,L4,rR,K3]
 |c+1,n,p,q,r,I,hr,hpq=>by
  unfold aF6 at I⊢;rw[rR,K3]at I⊢;obtain⟨s,hs,I⟩:=I;have hle:p.1+s.1≤q.1:=by
   have key: ∀(c n:Nat) (p q:Nat×Nat),q∈aF6 f c n p→p.1≤q.1:=by
    intro c;induction c with
    |zero=>simp_all[aF6,E5,E3]
    |succ c J=>
     grind[aF6,rR]
   exact key _ _ _ _ I
  refine⟨s,hs,aO8 I ?_ hle⟩;grind
structure Made (d n:Nat)(t:List Nd):Prop where
 skip:skip 1 t=some []
 node: ∀n∈t,dK n=true
 pos:(t.length,lv t)∈pos d n
variable {t:List Nd}
theorem cW9 (h:Made 3 0 t):IsTree t:=by
 have U: ∀p∈pos 3 0,1≤p.1∧p.1≤60∧p.2≤16:=by decide+kernel
 obtain⟨h1,I,J⟩:=U _ h.pos;exact⟨h1,I,h.skip,h.node,J⟩
variable {q:Rq}{n:Nat}
theorem aO9 {d:Nat}(h:fE q=true):Made d n [⟨1,0,0,q⟩]:=by
 refine⟨rfl,fun x hx=>?_,?_⟩
 · simp only[E5]at hx;subst hx;unfold dK;rw[B1 rfl,h];rfl
 ·
  cases d with
  |zero=>simp[pos,lv]
  |succ d=>rw[pos,rR];exact H9
structure MadeK (d n k:Nat)(ts:List Nd):Prop where
 skip:skip k ts=some []
 node: ∀n∈ts,dK n=true
 pos:(1+ts.length,lv ts)∈aF6 (pos d) k (n+1) (1,0)
theorem MadeK.zero (d n:Nat):MadeK d n 0 []:=⟨rfl,by simp,by simp[aF6,lv]⟩
variable {ts:List Nd}
theorem MadeK.next {d:Nat}(h:MadeK d n k ts)(I:Made d (n+1+ts.length) t):MadeK d n (k+1) (ts++t):=by
 refine⟨?_,fun x hx=>?_,?_⟩
 · rw[nR,yV ts t [] k h.skip];exact I.skip
 ·
  rcases D6.1 hx with hx|hx
  · exact h.node x hx
  · exact I.node x hx
 ·
  have:=aO8 (r:=(t.length,lv t)) h.pos (by
   rw[show n+1+(1+ts.length-1)=n+1+ts.length from by omega];exact I.pos) (by simp)
  grind[wV,Nat.add_assoc]
variable {c:Nat}
theorem MadeK.fin {d:Nat}{x:Nd}(h:MadeK d n c ts)(hn:n≤8)(hx:dK x=true)(U:x.k≠1)(J:x.c=c)(h1:1≤c)(h3:c≤3):Made (d+1) n (x::ts):=by
 refine⟨?_,fun y I=>?_,?_⟩
 · show Pl.skip (0+x.c.toNat) ts=some [];rw[J,F0];exact h.skip
 ·
  rcases E0.1 I with rfl|I
  · grind
  · exact h.node y I
 · rw[Pl.pos,rR];refine H2 _ ?_;rw[B1 hn,K3];refine⟨c-1,N5.2 (by omega),?_⟩;rw[show c-1+1=c from by omega];have:=h.pos;simp_all[lv,A7,A8,V6]
structure Ms where
 n:aK
 v:Int
 r:List Pr
 o:List Nat
 d:Bool
theorem aF7 {w:aK}(h:fL w=true):1≤w.length∧w.length≤64:=by
 cases w with
 |nil=>cases h
 |cons c r=>
  simp_all[fL,B3,C4]
def cL7 (p:Po):Prop:=cJ2 p=true∧p.r.length≤2∧ ∀r∈p.r,r.b.length≤80∧r.c.length≤80∧r.t.length≤40
def isV (ls:List (List aK))(a:Nat)(w:aK)(k:Nat):Bool:=decide (a<ls.length)&&((ls.getD a []).length==k&&wd (ls.getD a []) 0==w)
variable {a:Nat}{ls:List (List aK)}
theorem cX0 (h: ¬a<ls.length)(w:aK)(k:Nat):isV ls a w k=false:=by simp[isV,h]
theorem dG1 (h:a<ls.length)(w:aK)(k:Nat):isV ls a w k=(ls[a].length==k&&wd ls[a] 0==w):=by simp[isV,h]
abbrev Kds :=Option (List Nd×Int)×List (List aK)
def cX1 (ts:List Nd)(k:Int)(x:Kds):Kds:=(x.1.map fun p=>(ts++p.1,k+p.2),x.2)
def dG2 (n:Nd)(x:Kds):Option (List Nd)×List (List aK):=(x.1.map fun p=>{n with c:=p.2}::p.1,x.2)
theorem cL8 (x:Kds):cX1 [] 0 x=x:=by simp_all[cX1]
variable {r:List (List aK)}{f:Nat}
theorem bZ8 {w:List aK}{n:Nd}(h:dF0 w=none)(I:dF1 w=some n):rdN (f+1) (w::r)=dG2 n (rdK f r):=by
 simp only[rdN,h,I]
 match rdK f r with
 |(none,r')=>rfl
 |(some (ts,c),r')=>rfl
theorem dG3 {l:List (List aK)}(h:cJ7 (l.headD [])=false)(I:rdN f l=(none,r)):rdK (f+1) l=(none,r):=by simp_all[rdK,G9,L8]
theorem bZ9 (I:a≤ls.length):cJ7 ((ls.drop a).headD [])=isV ls a dE9 1:=by
 rcases H4 a ls.length with h|h
 · rw[dG1 h,F5 h];rfl
 · rw[cX0 (by omega),O4 h];rfl
structure KdSt (f:Nat)(ls:List (List aK))(a:Nat)(nd:Nd)(g:Nat)(ts:List Nd)(k p:Nat):Prop where
 eq:rdN f (ls.drop a)=dG2 nd (cX1 ts k (rdK g (ls.drop p)))
 le:p≤ls.length
 fuel:2*(ls.length-p)+2≤g
 lt:g<f
 len:ts.length+(ls.length-p)+1≤ls.length-a
 dL6:k≤ts.length
variable {nd:Nd}
theorem KdSt.init (U:a<ls.length)(hf:2*(ls.length-a)+1≤f)(I:dF0 ls[a]=none)(J:dF1 ls[a]=some nd):KdSt f ls a nd (f-1) [] 0 (a+1):=by
 obtain⟨g,rfl⟩: ∃g,f=g+1:=⟨f-1,by omega⟩;refine⟨?_,by omega,?_,by omega,by grind,by simp⟩;all_goals grind[List.drop_eq_getElem_cons,bZ8,dG2,cX1,cL8,Nat.add_sub_cancel]
variable {p:Nat}
theorem KdSt.no {g:Nat}(h:KdSt f ls a nd g ts k p)(he:isV ls p dE9 1=false)(hn:(rdN (g-1) (ls.drop p)).1=none):rdN f (ls.drop a)=(none,(rdN (g-1) (ls.drop p)).2):=by
 obtain⟨q,rfl⟩: ∃q,g=q+1:=⟨g-1,by have:=h.fuel;omega⟩;simp only[N9]at hn⊢;rw[h.eq,dG3 (by rw[bZ9 h.le,he]) (r:=(rdN q (ls.drop p)).2) (Prod.ext hn rfl)];rfl
abbrev Rls :=Option (List Pr)×List (List aK)
structure RsSt (ls:List (List aK))(X:Rls)(acc:List Pr)(p:Nat):Prop where
 eq:X=cU6 (ls.length-p+1) (ls.drop p) acc
 le:p≤ls.length
 len:acc.length≤p
variable {acc:List Pr}{X:Rls}
theorem RsSt.done (h:RsSt ls X acc p)(hp: ¬p<ls.length):p=ls.length∧X=(some acc,[]):=by
 have I:=h.le;refine⟨by omega,?_⟩;rw[h.eq,O4 (by omega),cU6,B1 rfl]
theorem RsSt.no (h:RsSt ls X acc p)(hp:p<ls.length)(hn:(rdR (ls.drop p)).1=none):X=(none,(rdR (ls.drop p)).2):=by
 rw[h.eq,cU6,A7 (by simp_all)];grind
def dG4 (l:List Pr)(r:Pr):Bool:=(l.map Pr.a).contains r.a||(!fL r.a||(!(bK0 r.b).isSome||(!(bK0 r.c).isSome||(!inB r.g 0 zG||!eJ r.t))))
structure RlSt (l:List Pr)(i:Nat):Prop where
 le:i≤l.length
 all:(l.take i).all vG=true
 apart:pA (l.take i)=true
theorem RlSt.zero (l:List Pr):RlSt l 0:=⟨by omega,by simp,by simp[pA]⟩
theorem cX2 (l:List Pr)(r:Pr):dG4 l r=!(!(l.map Pr.a).contains r.a&&vG r):=by simp_all[dG4,vG,Pr.a,fL,bK0,inB,zG,eJ]
theorem RlSt.succ {l:List Pr}(h:RlSt l i)(hi:i<l.length)(I:dG4 (l.take i) l[i]=false):RlSt l (i+1):=by
 rw[cX2]at I;simp only[CE,B3]at I;refine⟨hi,?_,?_⟩
 · rw[A5 hi,S5,h.all,Q6,I.2];rfl
 · rw[A5 hi,yU,h.apart,I.1];rfl
structure PoSz (p:Po):Prop where
 n:p.n.length<2^63
 r:p.r.length<2^40
 a: ∀r∈p.r,r.a.length<2^63
 t: ∀r∈p.r,∀n∈r.t,n.q.t.length<2^63
theorem cX3 (h:Made 3 0 t):t.length≤40:=by
 have key: ∀p∈pos 3 0,p.1≤40:=by decide+kernel
 exact key _ h.pos
def rN (n:Nat):aK:=[114,UInt8.ofNat (48+n)]
structure MadeR (r:Pr):Prop where
 ok:vG r=true
 b:r.b.length≤80
 c:r.c.length≤80
 t:r.t.length≤40
structure MadeRs (n:Nat)(rs:List Pr):Prop where
 two:n+rs.length≤2
 one:1≤n+rs.length
 ok: ∀r∈rs,MadeR r
 nm: ∀r∈rs,∃j,n<j∧j≤2∧r.a=rN j
 ap:pA rs=true
theorem MadeRs.zero (J:1≤n)(I:n≤2):MadeRs n []:=⟨by grind,by grind,by simp,by simp,rfl⟩
variable {rs:List Pr}
theorem MadeRs.next (h:MadeRs (n+1) rs){r:Pr}(hr:MadeR r)(ha:r.a=rN (n+1)):MadeRs n (rs++[r]):=by
 have h1:=h.two;refine⟨by grind,by grind,fun x hx=>?_,fun x hx=>?_,?_⟩
 ·
  rcases D6.1 hx with hx|hx
  · exact h.ok x hx
  grind
 ·
  rcases D6.1 hx with hx|hx
  · obtain⟨j,J,h3,I⟩:=h.nm x hx;grind
  grind
 ·
  rw[yU,h.ap,B6,N1,←Bool.not_eq_true,W9];intro hm;obtain⟨x,hx,he⟩:=H0.1 hm;obtain⟨j,J,h3,I⟩:=h.nm x hx;rw[I,ha]at he;have U:j=2:=by omega
  have hn:n=0:=by omega
  subst U hn
  revert he
  decide
theorem MadeRs.fin (h:MadeRs 0 rs){v:Int}(U:1≤v)(h2:v≤1099511627776):cL7 ⟨[112],v,rs⟩:=by
 have h3:=h.two;have k:fL [112]=true:=by decide
 refine⟨?_,by grind,fun r I=>⟨(h.ok r I).b,(h.ok r I).c,(h.ok r I).t⟩⟩;have k1:inB v 1 zG=true:=by rw[vE,aU6];exact⟨U,h2⟩
 have J:decide (rs.length≤16)=true:=by simp;omega
 have k3:rs.all vG=true:=G5.2 fun r I=>(h.ok r I).ok;simp only[cJ2,k,k1,J,k3,h.ap,E2]
theorem cL9 (h:fE q=true):q.t.length≤64:=by
 have hn:fL q.t=true→q.t.length≤64:=fun h=>(aF7 h).2;have I:q.t=[]→q.t.length≤64:=fun h=>by grind
 unfold fE at h;grind
theorem cA0 {n:Nd}(h:dK n=true):n.q.t.length≤64:=by
 have I:n.q=rq0→n.q.t.length≤64:=fun h=>by rw[h];decide
 have J:fE n.q=true→n.q.t.length≤64:=cL9;unfold dK at h
 repeat' split at h
 all_goals simp_all[B3,cF2,I6]
theorem aP0 (h:IsTree t): ∀n∈t,n.q.t.length<2^63:=fun n hn=>by have:=cA0 (h.node n hn);omega
theorem cX4 {p:Po}(h:cJ2 p=true):PoSz p:=by
 obtain⟨_,U,h3,J⟩:=cW8 h;refine⟨by grind[aF7],by omega,fun r I=>?_,fun r I=>aP0 (bD1 (J r I)).2.1⟩;have:=(aF7 (bD1 (J r I)).2.2.1).2;omega
theorem MadeRs.sz (h:MadeRs 0 rs)(v:Int):PoSz ⟨[112],v,rs⟩:=by
 have:=cX4 (h.fin (v:=1) (by omega) (by omega)).1;exact⟨this.n,this.r,this.a,this.t⟩
theorem bS0 {l:List Nd}(I:IsTree l)(S:List Sp){P:Ln→Prop}(J: ∀i,i<l.length→P (lD l S i))(U: ∀(i:Nat) f,i<l.length→P ⟨eW (l.getD i nd0),i,[],f⟩): ∀(f i:Nat) (out:List Ln),i<l.length→l.length-i≤f→(∀x∈out,P x)→ ∀x∈prv l S f i out,P x
 |0,i,out,hi,hf,_=>by omega
 |f+1,i,out,hi,hf,ho=>by
  intro x hx;rcases U4 ((l.getD i nd0).k=1)with h|h
  ·
   rw[lX h]at hx;rcases D6.1 hx with hx|hx
   · exact ho x hx
   · rw[E5.1 hx];exact J i hi
  ·
   have key: ∀j,j≤l[i].c.toNat→ ∀x∈(jM l S f i j out).1,P x:=by
    intro j;induction j with
    |zero=>intro _;exact ho
    |succ j ih=>
     intro hj;have h3:=jC I hi (k:=j) (by omega);have h6:=(iK I hi j (by omega)).2.2;rw[fI,pJ];split
     · exact bS0 I S J U f _ _ h3 (by omega) (ih (by omega))
     · exact ih (by omega)
   rw[nT h]at hx;rcases D6.1 hx with hx|hx
   · rw[uL hi]at hx;exact key _ (E3 _) x hx
   · rw[E5.1 hx];exact U i _ hi
theorem cM0 (n:Nd):2≤eW n∧eW n≤4:=by unfold eW;grind
variable {S:List Sp}
theorem bS1 (h:eV l (cJ S)=true):IsTree l:=fN (by unfold eV at h;simp only[B3]at h;exact h.1)
theorem rS (h:eV l (cJ S)=false):eL l S=[]:=by unfold eL;rw[A7 (by simp[h])]
theorem aF8 :(eL l S).length≤l.length+1:=by
 cases h:eV l (cJ S)with
 |false=>rw[rS h];simp
 |true=>
  have I:=bS1 h;have J:=(zM I S l.length 0 [] I.ne).2;have U:=(gL I I.ne).2.1;unfold eL;rw[B1 h];unfold qB;simp only[A3,A8,C0]at J⊢;omega
theorem aF9 (hc: ∀x∈S,x.d.length≤c): ∀x∈eL l S,0≤x.n∧x.n≤l.length∧x.d.length≤c∧1≤x.k∧x.k≤5∧(x.k=1∧x.f=[]∨x.k≠1∧x.d=[]):=by
 cases h:eV l (cJ S)with
 |false=>rw[rS h];simp
 |true=>
  have U:=bS1 h;intro x hx;unfold eL at hx;rw[B1 h]at hx;rcases D6.1 hx with hx|hx
  ·
   refine bS0 U S (P:=fun x=>0≤x.n∧x.n≤l.length∧x.d.length≤c∧1≤x.k∧x.k≤5∧(x.k=1∧x.f=[]∨x.k≠1∧x.d=[])) (fun i hi=>?_) (fun i f hi=>?_) l.length 0 [] U.ne (by omega) (by simp) x hx
   ·
    refine⟨by simp[lD],by simp[lD];omega,?_,by simp[lD],by simp[lD],.inl ⟨rfl,rfl⟩⟩;show(S.getD _ sp0).d.length≤c;rcases H4 (lv (l.take i)) S.length with I|J
    · rw[B4,A9 I];exact hc _ (B5 I)
    · rw[B4,I5 J];exact I1 _
   · have hk:=cM0 (l.getD i nd0);refine⟨by simp,by simp;omega,by simp,by simp only;omega,by simp only;omega,.inr ⟨by simp only;omega,rfl⟩⟩
  · rw[E5.1 hx];exact⟨by simp,by simp,by simp,by simp,by simp,.inr ⟨by simp,rfl⟩⟩
theorem aG0 : ∀S:List Sp,∃c,∀x∈S,x.d.length≤c
 |[]=>⟨0,by simp⟩
 |y::S=>by
  obtain⟨c,I⟩:=aG0 S;exact⟨y.d.length+c,fun x hx=>by
   rcases E0.1 hx with rfl|hx
   · omega
   · have:=I x hx;omega⟩
theorem bD3 (hl:l.length≤1000):(eL l S).all cP=true:=by
 cases h:eV l (cJ S)with
 |false=>rw[rS h];rfl
 |true=>
  have hn:=vS h;have hlen:=aF8 (l:=l) (S:=S);rw[G5];intro x hx;obtain⟨c,hc⟩:=aG0 S;obtain⟨h1,h2,_,h4,h5,h6⟩:=aF9 hc x hx;obtain⟨p,hp,rfl⟩:=L5 hx;have hb:=hn.back p hp;unfold cP;rw[show inB (eL l S)[p].k 1 5=true from by simp[inB];omega,(eX _).2 ⟨h1,by omega⟩];simp only[D8,B6];rcases h6 with⟨J,hf⟩|⟨J,U⟩
  · rw[B1 J,hf];rfl
  · rw[A7 J,U,G5.2 fun n I=>(eX _).2 (by have:=hb n I;omega)];rfl
theorem docsL_le {c:Nat}: ∀{X:List Ln},(∀x∈X,x.d.length≤c)→(fQ X).length≤c*X.length
 |[],_=>by simp[fQ]
 |x::X,h=>by
  have J:=docsL_le (c:=c) (X:=X) fun y I=>h y (H2 _ I);have U:=h x H9;have e:fQ (x::X)=x.d++fQ X:=by simp[fQ]
  rw[e,A3,A8,Nat.mul_add];omega
theorem bL3 (ht:t.length≤40)(U: ∀x∈S,x.d.length≤2)(hl:d.l=eL t S)(h1:0≤d.t∧d.t≤1000)(h2:0≤d.r∧d.r≤1000)(h3:d.q.n.length≤100)(I:d.q.i.length≤100)(J:d.o.l.length≤100)(h6:d.o.r.length≤100):SmallD d:=by
 have hlen:=aF8 (l:=t) (S:=S);have ha:=aF9 (l:=t) U;have aa:=docsL_le (X:=eL t S) fun x hx=>(ha x hx).2.2.1;refine⟨?_,h3,I,J,h6,by rw[hl];omega,?_,by rw[hl];omega⟩
 · unfold jU;rw[(eX _).2 ⟨h1.1,by omega⟩,(eX _).2 ⟨h2.1,by omega⟩,hl,bD3 (by omega)];rfl
 ·
  rw[hl];cases h:eV t (cJ S)with
  |false=>rw[rS h];simp[refs]
  |true=>have:=(vS h).size;omega
abbrev R40 (n:Int):Prop:=0≤n∧n≤1099511627776
structure LnR (x:Ln):Prop where
 k:1≤x.k∧x.k≤5
 n:R40 x.n
 f: ∀n∈x.f,R40 n
 fl:x.f.length≤120
theorem aU7 : ∀{l:List aK} {ns:List Int},fP l=some ns→ns.length=l.length∧ ∀n∈ns,R40 n
 |[],ns,h=>by
  obtain rfl:=F6 (show some ([]:List Int)=some ns from h);simp
 |w::l,ns,h=>by
  unfold fP at h;rw[K6]at h;cases hw:cU w with
  |none=>rw[hw]at h;cases h
  |some n=>
   cases hl:l.mapM cU with
   |none=>rw[hw,hl]at h;cases h
   |some m=>
    rw[hw,hl]at h;obtain rfl:=F6 (show some (n::m)=some ns from h);have I:=aU7 (l:=l) (ns:=m) hl;refine⟨by simp[I.1],fun x hx=>?_⟩;rcases E0.1 hx with rfl|hx
    · exact⟨(iN hw).1,by have:=(iN hw).2;omega⟩
    · exact I.2 x hx
variable {w:List aK}
theorem cX5 (hw:w.length≤120)(h:fS w=some x):LnR x:=by
 unfold fS at h;split at h
 ·
  rename_i n f hs;have J:=aU7 hs;cases U:iS (wd w 0)with
  |none=>rw[U]at h;cases h
  |some k=>
   rw[U]at h;simp only[J0]at h;split at h
   · cases h
   · obtain rfl:=F6 h;have I:=pB.1 U;refine⟨⟨I.1,I.2.1⟩,J.2 n (by simp),fun m hm=>J.2 m (by simp[hm]),?_⟩;have h1:=J.1;simp only[A8,G8]at h1⊢;omega
 · cases h
theorem bS2 {ls l:List Ln}(hw:w.length≤120)(h:dW ls w=some l)(hl: ∀x∈ls,LnR x): ∀x∈l,LnR x:=by
 unfold dW at h;split at h
 ·
  unfold nI at h;cases hx:ls.getLast? with
  |none=>rw[hx]at h;cases h
  |some x=>
   rw[hx]at h;have hm:=BJ hx;dsimp only at h;split at h
   ·
    cases J:eZ (wd w 1)with
    |none=>rw[J]at h;cases h
    |some d=>
     rw[J]at h;obtain rfl:=F6 h;intro y I;rcases D6.1 I with I|I
     · exact hl y (BK _ I)
     · rw[E5.1 I];have:=hl x hm;exact⟨this.k,this.n,this.f,this.fl⟩
   · cases h
 ·
  cases hx:fS w with
  |none=>rw[hx]at h;cases h
  |some x=>
   rw[hx]at h;obtain rfl:=F6 h;intro y I;rcases D6.1 I with I|I
   · exact hl y I
   · rw[E5.1 I];exact cX5 hw hx
theorem bS3 {ws:List (List aK)}(hw: ∀w∈ws,w.length≤120): ∀{i:Nat} {l:List Ln},i≤ws.length→kM (ws.take i)=some l→ ∀x∈l,LnR x
 |0,l,_,h=>by
  rw[P5,aO4]at h;obtain rfl:=F6 h;simp
 |i+1,l,hi,h=>by
  cases hp:kM (ws.take i)with
  |none=>
   have e:ws.take (i+1)=ws.take i++[ws[i]]:=A5 (by omega);rw[e,rO,hp]at h;cases h
  |some m=>
   have hm:=bS3 hw (i:=i) (by omega) hp;rw[mE (by omega) hp]at h;exact bS2 (hw _ (B5 _)) h hm
structure DvR (d:Dv):Prop where
 t:R40 d.t
 r:R40 d.r
 l: ∀x∈d.l,LnR x∧x.d.length≤1000
 ll:d.l.length≤1000
theorem aU8 (hw: ∀l∈ls,wOk l)(hn:ls.length≤1000)(h:fZ ls=some d):DvR d:=by
 rw[tI]at h;cases I:iT ls with
 |none=>rw[I]at h;cases h
 |some e=>
  rw[I]at h;simp only[J0]at h;cases hf:kM (ls.drop 2)with
  |none=>rw[hf]at h;cases h
  |some l=>
   rw[hf]at h;obtain rfl:=F6 h;have hl:(ls.drop 2).length≤1000:=by rw[G8];omega
   have J:kM ((ls.drop 2).take (ls.drop 2).length)=some l:=by rw[C6];exact hf
   have h1:=xN (E3 _) J;have h2:=bS3 (fun w h=>(hw w (X1 _ _ h)).2.1) (E3 _) J;unfold iT at I;split at I
   · cases I
   ·
    split at I
    · rename_i a p v t r _ _ _ U hr;obtain rfl:=F6 I;exact⟨⟨(iN U).1,by have:=(iN U).2;omega⟩,⟨(iN hr).1,by have:=(iN hr).2;omega⟩,fun x hx=>⟨h2 x hx,by have:=h1.2 x hx;omega⟩,by show l.length≤1000;omega⟩
    · cases I
theorem DvR.len (h:DvR d):(fV d).length≤2000000:=by
 have J:=docsL_le (X:=d.l) (c:=1000) fun x hx=>(h.l x hx).2;have U:=h.ll;have I:=rQ d.l;rw[fV,A3,I];have:(lA d).length=2:=rfl;omega
end Go.Pl
namespace Go.Proofs.YthedbjfipmkpiaaGreatDoor
open Go Go.Hl Go.Pl
theorem cM1 {d:Dv}(h:DvR d):DvW d:=by
 refine⟨⟨by have:=h.t.1;omega,by have:=h.t.2;omega⟩,⟨by have:=h.r.1;omega,by have:=h.r.2;omega⟩,fun x hx=>?_,by have:=h.len;omega,by have:=h.ll;omega⟩;obtain⟨I,J⟩:=h.l x hx;exact⟨⟨by have:=I.k.1;omega,by have:=I.k.2;omega⟩,⟨by have:=I.n.1;omega,by have:=I.n.2;omega⟩,fun n hn=>⟨by have:=(I.f n hn).1;omega,by have:=(I.f n hn).2;omega⟩,by have:=I.fl;omega,by omega⟩
theorem vU {ob:Ob}{r:HV}{T:qC}{n:Int}{R:CV→CV→Prop}(I:r= .tup [.c (.agg [.agg [.str [],.str [],zd],.int .i64 0,zd,.int .i64 0,.agg [zd,.str [],.str []],.nils]),.c (.int .i64 n)])(U:ob 0=some (.tab T))(J:R dv0.cv (.int .i64 n)):
  gR 1 r ob (fun r ob'=> ∃u v,r= .tup [.c u,.c v]∧ob'=iM T∧R u v):=by
 subst I;refine gI [] dv0.cv (.int .i64 n) ?_ U (by simp) J;simp[fX];rfl
theorem bS4 (b:aK)(hl:b.length<2^40):uP Tryz.prog 27 tabs [.slc (b.map u8)] (fun u v=>u=(ddO b).cv∧v= .int .i64 (ddE b)):=by
 refine bO (args:=[.c (.slc (b.map u8))]) Tryz.func27 rfl (by kernel_rfl) (iP tabs [.slc (b.map u8)]) (C7 rfl) ?_;unfold iM;have hlen:=vD (b:=b);have ab:=zP (b:=b);have ad:CV.denilL ((gT b).map lsC)=(gT b).map lsC:=bZ aU3 _;refine R0 ?_;refine aC fun K U=>Rg ?_;have F:=@denilL_u8;refine SF ?_;refine HS rfl rfl fun K' aa=>T6 ?_;refine D1 (dF8 b hl) ?_;rintro u v ⟨rfl,rfl⟩;refine AX (aa _ _ ?_);clear aa K';refine AU ?_;refine T2 (U _ _ _ ?_);clear U K;refine aC fun K U=>?_;refine R0 ?_;refine aJ (b:=!(eT b==0)) rfl (fun hb=>?_) (fun hb=>?_)
 ·
  have he:eT b≠0:=by simpa using hb
  have e1:ddE b=eT b:=by rw[ddE,B1 he]
  have e2:ddO b=dv0:=by rw[ddO,gF,A7 he];rfl
  clear hb;refine RS ?_;have F:=aI @bG @bH;refine AU ?_;refine aE (RT Tryz.results27 ?_);refine vU (n:=eT b) rfl rfl ⟨by rw[e2],by rw[e1]⟩
 refine aG ?_;refine T0 (U _ _ _ ?_);clear U K;have he:eT b=0:=by simpa using hb
 clear hb;have e1:ddE b=if(gF b).isSome then 0 else 2:=by rw[ddE,A7 (by simpa using he)]
 have e0:gF b=(fZ (gT b)).bind fun d=>if dvE d=0∧dvO d=b then some d else none:=by rw[gF,B1 he]
 refine aC fun K U=>Rg ?_;have F:=ad;refine SF ?_;refine HS rfl rfl fun K' aa=>T6 ?_;refine D1 (cW6 (gT b) (by omega) (fun l h=>⟨J8.2 (ab l h).1,by have:=(ab l h).2.1;omega⟩) (fun l h w hw=>by have:=(ab l h).2.2 w hw;omega)) ?_;rintro u v ⟨rfl,x,rfl,hx⟩;refine AX (aa _ _ ?_);clear aa K';refine AU ?_;refine T2 (U _ _ _ ?_);clear U K;refine aC fun K U=>?_;refine R0 ?_;refine aJ (b:=!(fZ (gT b)).isSome) rfl (fun hb=>?_) (fun hb=>?_)
 ·
  have ae:fZ (gT b)=none:=by simpa using hb
  have e3:gF b=none:=by rw[e0,ae];rfl
  have e1:ddE b=2:=by rw[e1,e3];rfl
  have e2:ddO b=dv0:=by rw[ddO,e3];rfl
  clear hb;have F:=aI @bG @bH;refine RF ?_;refine aE (RT Tryz.results27 ?_);refine vU (n:=2) rfl rfl ⟨by rw[e2],by rw[e1]⟩
 obtain⟨d,hd⟩:=G0.1 (show(fZ (gT b)).isSome=true by simpa using hb);obtain rfl:=hx d hd;clear hb hx;rw[hd,J0]at e0;have hw:=cM1 (aU8 ab hlen hd);refine aG ?_;refine T0 (U _ _ _ ?_);clear U K;refine aC fun K U=>?_;refine aC fun K U=>Rg ?_;refine S0 ?_;refine HS rfl rfl fun K' aa=>T5 ?_;refine fO (args:=[_]) 0 (aF3 x hw) rfl (by simp) ⟨rfl,rfl,rfl,rfl⟩ ?_;rintro u v ⟨rfl,rfl⟩;refine AX (aa _ _ ?_);clear aa K';refine AU ?_;refine T2 (U _ _ _ ?_);clear U K;refine RS ?_;have F:=aI @bT @denilL_u8;refine AU ?_;refine aH 33 rfl (fun J=>?_) (fun J=>?_)
 ·
  have F:=aI @bT (aI @denilL_u8 J);refine AU ?_;refine CT rfl ?_;have F:=aI @bG @bH;refine RF ?_;refine aE (RT Tryz.results27 ?_);have e3:gF b=none:=by
   rw[e0,A7];rintro⟨h1,h2⟩;first|(rw[h1]at J;exact absurd J (by decide))|(rw[h2]at I;simp at I)
  have e1:ddE b=2:=by rw[e1,e3];rfl
  have e2:ddO b=dv0:=by rw[ddO,e3];rfl
  refine vU (n:=2) rfl rfl ⟨by rw[e2],by rw[e1]⟩
 have F:=aI @bT (aI @denilL_u8 J);refine AU ?_;refine SCF (bZ1 (dvO x) b) ?_;refine AU ?_;refine aH 37 rfl (fun I=>?_) (fun I=>?_)
 ·
  simp only[I];refine RE ?_;refine CF rfl ?_;refine aG ?_;refine T0 (U _ _ _ ?_);clear U K;refine R0 ?_;refine aE (RT Tryz.results27 ?_);have e3:gF b=some x:=by rw[e0,B1 ⟨by simpa using J,by simpa using I⟩]
  have e1:ddE b=0:=by rw[e1,e3];rfl
  have e2:ddO b=x:=by rw[ddO,e3];rfl
  exact gI [] x.cv (.int .i64 0) (by simp[Dv.denil]) rfl (by simp) ⟨by rw[e2],by rw[e1]⟩
 simp only[I];refine RE ?_;refine CT rfl ?_;have F:=aI @bG @bH;refine RF ?_;refine aE (RT Tryz.results27 ?_);have e3:gF b=none:=by
  rw[e0,A7];rintro⟨h1,h2⟩;first|(rw[h1]at J;exact absurd J (by decide))|(rw[h2]at I;simp at I)
 have e1:ddE b=2:=by rw[e1,e3];rfl
 have e2:ddO b=dv0:=by rw[ddO,e3];rfl
 refine vU (n:=2) rfl rfl ⟨by rw[e2],by rw[e1]⟩
end Go.Proofs.YthedbjfipmkpiaaGreatDoor
namespace Go.Pl
open Go Go.Hl
variable {q:Rq}
theorem cM2 (h:(q.k==1||(q.k==3||q.k==5))=true):fE q=(inB q.n 1 32&&iH q ⟨q.k,q.n,0,[]⟩):=by grind[fE,iH]
theorem bD4 (h:q.k=4):fE q=((inB q.n 1 32&&inB q.m 0 32)&&iH q ⟨q.k,q.n,q.m,[]⟩):=by simp[fE,h,iH,W5]
theorem cM3 (h:q.k=2):fE q=(fL q.t&&iH q ⟨q.k,0,0,q.t⟩):=by simp[fE,h,iH]
theorem cM4 (h:q.k=6):fE q=(inB q.n 1 10&&iH q ⟨q.k,q.n,0,[]⟩):=by simp[fE,h,iH]
theorem cM5 (h:q.k=7):fE q=(inB q.n 0 zG&&iH q ⟨q.k,q.n,0,[]⟩):=by simp[fE,h,iH]
theorem cM6 (h:q.k=8):fE q=(true&&iH q ⟨q.k,0,0,[]⟩):=by simp[fE,h,iH]
theorem bS5 (h:(q.k==1||(q.k==3||q.k==5))=false)(J:q.k≠4)(I:q.k≠2)(h6:q.k≠6)(h7:q.k≠7)(U:q.k≠8):fE q=false:=by simp_all[fE,A7]
theorem aG1 (h:(q.k==1||(q.k==3||q.k==5))=true):fE q=(inB q.n 1 32&&(q.m==0&&q.t==[])):=by simp_all[fE,B1]
theorem vV (h:(q.k==4)=true):fE q=(inB q.n 1 32&&(decide (0≤q.m)&&(decide (q.m≤32)&&q.t==[]))):=by grind[fE,inB,Bool.and_assoc]
theorem aG2 (h:(q.k==2)=true):fE q=(q.n==0&&(q.m==0&&fL q.t)):=by grind[fE,fL]
theorem vW (h:(q.k==6)=true):fE q=(decide (1≤q.n)&&(decide (q.n≤10)&&(q.m==0&&q.t==[]))):=by grind[fE,inB,Bool.and_assoc]
theorem aG3 (h:(q.k==7)=true):fE q=(inN q.n&&(q.m==0&&q.t==[])):=by
 have h':q.k=7:=by simpa using h
 have e:inB q.n 0 zG=inN q.n:=rfl;simp[fE,h',e]
theorem aG4 (h:(q.k==8)=true):fE q=(q.n==0&&(q.m==0&&q.t==[])):=by grind[fE]
def qP (n:Nd):Bool:=
 if n.k=1 then n.c==0&&(n.n==0&&fE n.q)
 else if n.k=2∨n.k=3 then decide (1≤n.c)&&(n.n==0&&iH n.q rq0)
 else if n.k=4 then decide (1≤n.c)&&(decide (1≤n.n)&&(decide (n.n≤n.c)&&iH n.q rq0))
 else false
theorem aU9 (n:Nd):dK n=(qP n&&!decide (60<n.c)):=by
 unfold dK qP inB;have e:(!decide (60<n.c))=decide (n.c≤60):=by
  by_cases h:n.c≤60
  · rw[Y8 h,O8 (by omega)];rfl
  · rw[O8 h,Y8 (by omega)];rfl
 rw[e];split
 ·
  by_cases h:n.c=0
  · simp[h]
  · simp[h]
 ·
  split
  · generalize decide (1≤n.c)=A;generalize decide (n.c≤60)=B;generalize iH n.q rq0=C;generalize (n.n==0)=D;cases A<;>cases B<;>cases C<;>cases D<;>rfl
  ·
   split
   · generalize decide (1≤n.c)=A;generalize decide (n.c≤60)=B;generalize iH n.q rq0=C;generalize decide (1≤n.n)=D;generalize decide (n.n≤n.c)=E;cases A<;>cases B<;>cases C<;>cases D<;>cases E<;>rfl
   · rfl
variable {n:Nd}
theorem tM (h:n.k=1):dK n=(n.c==0&&(n.n==0&&fE n.q)):=by simp only[dK,B1 h]
theorem aP1 (h:(n.k==2||n.k==3)=true):dK n=((inB n.c 1 60&&iH n.q rq0)&&n.n==0):=by
 have h':n.k=2∨n.k=3:=by simpa using h
 have I:n.k≠1:=by omega
 simp_all[dK,A7,B1,W5]
theorem tN (h:n.k=4):dK n=((inB n.c 1 60&&iH n.q rq0)&&inB n.n 1 n.c):=by simp_all[dK,A7,B1,W5]
theorem cM7 (I:n.k≠1)(h:(n.k==2||n.k==3)=false)(J:n.k≠4):dK n=false:=by simp_all[dK,A7]
theorem tO (h:n.k=1):qP n=(n.c==0&&(n.n==0&&fE n.q)):=by simp only[qP,B1 h]
theorem xP (h:(n.k==2||n.k==3)=true):qP n=(decide (1≤n.c)&&(n.n==0&&iH n.q rq0)):=by
 have h':n.k=2∨n.k=3:=by simpa using h
 have I:n.k≠1:=by omega
 simp_all[qP,A7,B1]
theorem pD (h:n.k=4):qP n=(decide (1≤n.c)&&(decide (1≤n.n)&&(decide (n.n≤n.c)&&iH n.q rq0))):=by simp_all[qP,if_neg,if_pos]
theorem cM8 (I:n.k≠1)(h:(n.k==2||n.k==3)=false)(J:n.k≠4):qP n=false:=by simp_all[qP,A7]
structure ScSt (l:List Nd)(i:Nat)(m v:Int):Prop where
 le:i≤l.length
 eq:uH l 1 0=uH (l.drop i) m v
 m0:0≤m
 m1:m≤1+60*i
 v0:0≤v
 v1:v≤i
theorem ScSt.init (l:List Nd):ScSt l 0 1 0:=⟨by omega,rfl,by omega,by omega,by omega,by omega⟩
variable {m v:Int}{i:Nat}{l:List Nd}
theorem ScSt.stop (h:ScSt l i m v)(hi:i<l.length)(I:m=0∨dK l[i]=false):eJ l=false:=by
 have:uH l 1 0=none:=by
  rw[h.eq,F5 hi,uH];rcases I with I|I
  · rw[B1 I]
  · grind
 simp[eJ,this]
theorem ScSt.next (h:ScSt l i m v)(hi:i<l.length)(hm:m≠0)(I:dK l[i]=true):ScSt l (i+1) (m+(l[i].c-1)) (if l[i].k=1 then v+1 else v):=by
 obtain⟨c1,c2,_,_⟩:=fM I;have J:=h.m0;have U:=h.m1;have h2:=h.v0;have h3:=h.v1;refine⟨hi,?_,by omega,by omega,?_,?_⟩
 · rw[h.eq,F5 hi,uH,A7 hm,B1 I]
 all_goals grind
theorem ScSt.fin (h:ScSt l l.length m v)(J:1≤l.length)(I:l.length≤60):eJ l=(m==0&&decide (v≤16)):=by
 have:uH l 1 0=some (m,v):=by rw[h.eq,X0];rfl
 grind[eJ]
theorem mY (h:l.length<1∨60<l.length):eJ l=false:=by grind[eJ]
theorem kS {l:List Nd}{i:Int}(h:eJ l=false∨i<0∨(l.length:Int)≤i):qA l i=[]:=by
 unfold qA;grind
theorem rT (h:eJ l=true)(hi:i<l.length):qA l i=dL l l[i].c.toNat (i+1):=by simp_all[qA,B1,aS4]
theorem yX (h:eJ l=false):eB l=[]:=by simp[eB,h]
theorem mI (h:eJ l=true):eB l=fB 0 l:=by simp[eB,h]
theorem nJ : ∀{l:List Bool} {k:Nat},k<l.length→cnt (l.take (k+1))=cnt (l.take k)+(if l.getD k false=true then 1 else 0)
 |x::l,0,_=>by cases x<;>simp[cnt]
 |x::l,k+1,h=>by
  have h':k<l.length:=by simpa using h
  have e: ∀m,cnt ((x::l).take (m+1))=(if x=true then 1 else 0)+cnt (l.take m):=fun m=>by grind[cnt]
  rw[e,e,nJ h'];grind
theorem zT (h:i<l.length):lv (l.take (i+1))=lv (l.take i)+(if l[i].k=1 then 1 else 0):=by grind[List.take_succ_eq_append_getElem,wV,lv]
theorem aG5 (l:List Nd)(i:Nat):lv (l.take i)≤i:=by grind[bO3]
def bwL (l:List Nd):List (List CV):=(List.range l.length).map fun j=>[.int .i64 (l.length-1-j:Nat),(l.getD (l.length-1-j) nd0).cv]
theorem vX (l:List Nd):(bwL l).length=l.length:=by simp[bwL]
theorem cM9 {l:List Nd}{j:Nat}(h:j<(bwL l).length)(I:l.length-1-j<l.length):(bwL l)[j]=[.int .i64 (l.length-1-j:Nat),(l[l.length-1-j]).cv]:=by simp[bwL,I]
end Go.Pl
namespace Go.Proofs.YthedbjfipmkpiaaGreatDoor
open Go Go.Hl Go.Pl
theorem co3 :Tryz.prog.cellsOf 3=1:=by kernel_rfl
theorem co2 :Tryz.prog.cellsOf 2=1:=by kernel_rfl
theorem co9 :Tryz.prog.cellsOf 9=1:=by kernel_rfl
theorem dB7 (n:Nat)(x:Rq):CV.ofTy Tryz.prog (n+2) 87 x.cv=true:=by
 simp only[Rq.cv,CV.ofTyF,CV.ofTy,tyS,co2,co3,co9,CV.cells,J5,D8]
theorem aV0 (x y:Rq)(K:CV→Prop):kK Tryz.prog .eql 87 (.c x.cv) (.c y.cv) K=K (.bool (iH x y)):=by
 have U:aJ9 Tryz.prog 87=true:=by kernel_rfl
 have J:=dB7 6 x;have I:=dB7 6 y;have e:CV.eqv (.agg [.int .i64 x.k,.int .i64 x.n,.int .i64 x.m,.str x.t]) (.agg [.int .i64 y.k,.int .i64 y.n,.int .i64 y.m,.str y.t])=iH x y:=by simp only[CV.eqv,CV.eqvL,iH,D8]
 simp only[Rq.cv]at J I⊢;simp only[kK,U,J,I,e,Q9]
theorem cN0 :CV.agg [.int .i64 0,.int .i64 0,.int .i64 0,.str []]=rq0.cv:=rfl
theorem oE (n a b:Int):bM Tryz.prog 153 [.int .i64 n,.int .i64 a,.int .i64 b] (fun v=>v= .bool (inB n a b)):=by
 refine FW Tryz.func153 ?_;refine AU ?_;refine aH 9 rfl (fun I=>?_) (fun I=>?_)
 · have F:=I;refine AU ?_;refine aE (RT Tryz.results153 ?_);exact aF [] (.bool _) rfl (by simp only[inB,I,B6,B9])
 have F:=I;refine AU ?_;refine aE (RT Tryz.results153 ?_);exact aF [] (.bool _) rfl (by simp only[inB,I,B6,B9])
theorem bD5 (q:Rq)(hn:q.t.length<2^63):bM Tryz.prog 128 [q.cv] (fun v=>v= .bool (fE q)):=by
 refine FW Tryz.func128 ?_;refine R0 ?_;refine RS ?_;iterate 5 refine S0 ?_
 refine RE ?_;refine R0 ?_;refine aC fun K hK=>?_;have ab: ∀(s:Bool) (u:Rq) fr ob nx,fE q=(s&&iH q u)→Fits 0 fr ob (fin [(1,.ptr 0 0),(3,.ptr 20 0),(4,.c (.bool s))]) (fob [(0,.box 87 (.c q.cv)),(20,.box 87 (.c u.cv))]) 1000→K fr ob nx:=by
  rintro s u fr ob nx hq hf;refine hK _ _ _ (aZ hf ?_);clear hf hK K;refine RS ?_;have F:=@aV0;refine AU ?_;refine aH 62 rfl (fun U=>?_) (fun U=>?_)
  · have F:=aI @aV0 U;refine AU ?_;refine aE (RT Tryz.results128 ?_);exact aF [] (.bool _) rfl (by rw[hq,U,B6])
  have F:=aI @aV0 U;refine AU ?_;refine aE (RT Tryz.results128 ?_);exact aF [] (.bool false) rfl (by rw[hq,U,B9])
 refine R0 ?_;refine aL ?_;refine aC fun K hK=>?_;have key: ∀(b:Bool) fr ob nx,b=(q.k==1||(q.k==3||q.k==5))→Fits 0 fr ob (fin [(1,.ptr 0 0),(3,.ptr 20 0),(4,.c (.bool true)),(9,.c (.int .i64 q.k)),(10,.c (.bool b))]) (fob [(0,.box 87 (.c q.cv)),(20,.box 87 (.c (Rq.cv ⟨q.k,0,0,[]⟩)))]) 300→K fr ob nx:=by
  rintro b fr ob nx rfl hf;refine hK _ _ _ (aZ hf ?_);clear hf hK K;refine aJ (b:=_) rfl (fun J=>?_) (fun J=>?_)
  ·
   refine DW [(0,[],[]),(1,[],[]),(2,[],[]),(3,[],[]),(5,[],[]),(4,[],[0,1,5]),(6,[],[]),(7,[],[])] [0,1,0,4,12,3,63,127] ?_;iterate 5 refine W0 ?_
   refine bL (g:=none) rfl rfl fun K' I=>T5 ?_;refine C3 (oE _ _ _) ?_;rintro u rfl;refine AX (I _ _ ?_);clear I K';iterate 2 refine W0 ?_
   refine T4 ?_;exact ab (inB q.n 1 32) ⟨q.k,q.n,0,[]⟩ _ _ _ (cM2 J) (fF)
  have h1:=J;refine R0 ?_;refine aJ (b:=_) rfl (fun J=>?_) (fun J=>?_)
  ·
   refine DW [(0,[],[]),(1,[],[]),(2,[],[]),(3,[],[]),(4,[],[]),(5,[],[]),(12,[],[]),(6,[],[0,1,2,3,12]),(7,[],[]),(8,[],[]),(9,[],[]),(10,[],[0,1,2,3,12]),(11,[],[]),(13,[],[2,3,11]),(14,[],[]),(15,[],[11]),(16,[],[])] [0,1,0,4,0,16,48,112,240,496,1008,2032,3,6131,14335,30719,65535] ?_;iterate 7 refine W0 ?_
   refine bL (g:=none) rfl rfl fun K' I=>T5 ?_;refine C3 (oE _ _ _) ?_;rintro u rfl;refine AX (I _ _ ?_);clear I K';refine W0 ?_;refine kD 28 rfl (fun aa=>?_) (fun aa=>?_)
   ·
    have F:=aa;iterate 2 refine WF ?_
    refine bL (g:=some (29,true)) rfl rfl fun K' I=>T6 ?_;refine C3 (oE _ _ _) ?_;rintro u rfl;refine AX (I _ _ ?_);clear I K';iterate 5 refine WF ?_
    refine T4 ?_;exact ab (inB q.m 0 32) ⟨q.k,q.n,q.m,[]⟩ _ _ _ (by rw[bD4 (by simpa using J),aa,B6]) (fF)
   have F:=aa;iterate 8 refine WF ?_
   refine T4 ?_;exact ab false ⟨q.k,q.n,q.m,[]⟩ _ _ _ (by rw[bD4 (by simpa using J),aa];rfl) (fF)
  have h2:=J;refine R0 ?_;refine aJ (b:=_) rfl (fun J=>?_) (fun J=>?_)
  ·
   refine DW [(0,[],[]),(1,[],[]),(2,[],[]),(3,[],[]),(5,[],[]),(4,[],[0,1,5]),(6,[],[]),(7,[],[])] [0,1,0,4,12,3,63,127] ?_;iterate 5 refine W0 ?_
   refine bL (g:=none) rfl rfl fun K' I=>T5 ?_;refine C1 (cV3 _ hn) ?_;rintro u rfl;refine AX (I _ _ ?_);clear I K';iterate 2 refine W0 ?_
   refine T4 ?_;exact ab (fL q.t) ⟨q.k,0,0,q.t⟩ _ _ _ (cM3 (by simpa using J)) (fF)
  have h3:=J;refine R0 ?_;refine aJ (b:=_) rfl (fun J=>?_) (fun J=>?_)
  ·
   refine DW [(0,[],[]),(1,[],[]),(2,[],[]),(3,[],[]),(5,[],[]),(4,[],[0,1,5]),(6,[],[]),(7,[],[])] [0,1,0,4,12,3,63,127] ?_;iterate 5 refine W0 ?_
   refine bL (g:=none) rfl rfl fun K' I=>T5 ?_;refine C3 (oE _ _ _) ?_;rintro u rfl;refine AX (I _ _ ?_);clear I K';iterate 2 refine W0 ?_
   refine T4 ?_;exact ab (inB q.n 1 10) ⟨q.k,q.n,0,[]⟩ _ _ _ (cM4 (by simpa using J)) (fF)
  have h4:=J;refine R0 ?_;refine aJ (b:=_) rfl (fun J=>?_) (fun J=>?_)
  ·
   refine DW [(0,[],[]),(1,[],[]),(2,[],[]),(3,[],[]),(5,[],[]),(4,[],[0,1,5]),(6,[],[]),(7,[],[])] [0,1,0,4,12,3,63,127] ?_;iterate 5 refine W0 ?_
   refine bL (g:=none) rfl rfl fun K' I=>T5 ?_;refine C3 (oE _ _ _) ?_;rintro u rfl;refine AX (I _ _ ?_);clear I K';iterate 2 refine W0 ?_
   refine T4 ?_;exact ab (inB q.n 0 1099511627776) ⟨q.k,q.n,0,[]⟩ _ _ _ (cM5 (by simpa using J)) (fF)
  have h5:=J;refine R0 ?_;refine aJ (b:=_) rfl (fun J=>?_) (fun J=>?_)
  · refine aG (T3 ?_);exact ab true ⟨q.k,0,0,[]⟩ _ _ _ (cM6 (by simpa using J)) (fF)
  refine R0 ?_;refine aE (RT Tryz.results128 ?_);exact aF [] (.bool false) rfl (by rw[bS5 h1 (by simpa using h2) (by simpa using h3) (by simpa using h4) (by simpa using h5) (by simpa using J)])
 refine R0 ?_;refine aJ (b:=_) rfl (fun J=>?_) (fun J=>?_)
 · refine aG (T3 ?_);exact key (q.k==1) _ _ _ (by rw[J];rfl) (fF)
 have h1:=J;refine R0 ?_;refine aJ (b:=_) rfl (fun J=>?_) (fun J=>?_)
 · refine aG (T3 ?_);exact key (q.k==3) _ _ _ (by rw[h1,J];rfl) (fF)
 have ad:=J;refine aM (by kernel_rfl) ?_;simp only[↓sP,sA,tyS,simprocAttr];exact key (q.k==5) _ _ _ (by rw[h1,ad];rfl) (fF)
theorem cN1 (n:Nd)(hn:n.q.t.length<2^63):bM Tryz.prog 98 [n.cv] (fun v=>v= .bool (dK n)):=by
 refine FW Tryz.func98 ?_;refine R0 ?_;refine aC fun K hK=>?_;have key: ∀(b:Bool) fr ob nx,b=(inB n.c 1 60&&iH n.q rq0)→Fits 0 fr ob (fin [(1,.ptr 0 0),(3,.c (.bool b))]) (fob [(0,.box 89 (.c n.cv))]) 100→K fr ob nx:=by
  rintro b fr ob nx rfl hf;refine hK _ _ _ (aZ hf ?_);clear hf hK K;refine aC fun K hK=>?_;refine R0 ?_;refine aL ?_;refine R0 ?_;refine aJ (b:=_) rfl (fun hb=>?_) (fun hb=>?_)
  ·
   refine AU ?_;refine aH 24 rfl (fun aa=>?_) (fun aa=>?_)
   ·
    have F:=aa;refine AU ?_;refine aH 28 rfl (fun af=>?_) (fun af=>?_)
    · have F:=aI aa af;refine AU ?_;refine SCF (bD5 n.q hn) ?_;refine AU ?_;refine aE (RT Tryz.results98 ?_);exact aF [] (.bool _) rfl (by rw[tM (by simpa using hb),aa,af];rfl)
    have F:=aI aa af;refine AU ?_;refine aE (RT Tryz.results98 ?_);exact aF [] (.bool _) rfl (by rw[tM (by simpa using hb),aa,af];rfl)
   have F:=aa;refine AU ?_;refine aE (RT Tryz.results98 ?_);exact aF [] (.bool _) rfl (by rw[tM (by simpa using hb),aa];rfl)
  have h1:n.k≠1:=by simpa using hb
  refine aC fun K hK=>?_;have ag: ∀(b:Bool) fr ob nx,b=(n.k==2||n.k==3)→Fits 0 fr ob (fin [(1,.ptr 0 0),(3,.c (.bool (inB n.c 1 60&&iH n.q rq0))),(19,.c (.int .i64 n.k)),(35,.c (.bool b))]) (fob [(0,.box 89 (.c n.cv))]) 300→K fr ob nx:=by
   rintro b fr ob nx rfl hf;refine hK _ _ _ (aZ hf ?_);clear hf hK K;refine aJ (b:=_) rfl (fun hb=>?_) (fun hb=>?_)
   ·
    refine AU ?_;refine aH 38 rfl (fun ae=>?_) (fun ae=>?_)
    · have F:=ae;refine AU ?_;refine aE (RT Tryz.results98 ?_);exact aF [] (.bool _) rfl (by rw[aP1 hb,ae,B6])
    have F:=ae;refine AU ?_;refine aE (RT Tryz.results98 ?_);exact aF [] (.bool _) rfl (by rw[aP1 hb,ae,B9])
   have h2:=hb;refine R0 ?_;refine aJ (b:=_) rfl (fun hb=>?_) (fun hb=>?_)
   ·
    refine AU ?_;refine aH 46 rfl (fun ab=>?_) (fun ab=>?_)
    ·
     have F:=ab;refine AU ?_;refine aH 50 rfl (fun ad=>?_) (fun ad=>?_)
     · have F:=aI ab ad;refine AU ?_;refine aE (RT Tryz.results98 ?_);exact aF [] (.bool _) rfl (by rw[tN (by simpa using hb),ab,inB,ad];rfl)
     have F:=aI ab ad;refine AU ?_;refine aE (RT Tryz.results98 ?_);exact aF [] (.bool _) rfl (by rw[tN (by simpa using hb),ab,inB,ad];rfl)
    have F:=ab;refine AU ?_;refine aE (RT Tryz.results98 ?_);exact aF [] (.bool _) rfl (by rw[tN (by simpa using hb),ab,B9])
   refine aG ?_;refine T0 (hK _ _ _ ?_);clear hK K;refine R0 ?_;refine aE (RT Tryz.results98 ?_);exact aF [] (.bool _) rfl (by rw[cM7 h1 h2 (by simpa using hb)])
  refine R0 ?_;refine aJ (b:=_) rfl (fun hb=>?_) (fun hb=>?_)
  · refine aG (T3 ?_);exact ag (n.k==2) _ _ _ (by rw[hb];rfl) (fF)
  have h2:=hb;refine aM (by kernel_rfl) ?_;simp only[↓sP,sA,tyS,simprocAttr];exact ag (n.k==3) _ _ _ (by rw[hb];rfl) (fF)
 refine Rg ?_;have F:=aI @aV0 @cN0;refine AU ?_;refine aH 6 rfl (fun J=>?_) (fun J=>?_)
 ·
  have F:=aI @aV0 (aI @cN0 J);refine AU ?_;refine aH 10 rfl (fun I=>?_) (fun I=>?_)
  ·
   have F:=aI @aV0 (aI @cN0 (aI J I));refine AU ?_;refine aH 16 rfl (fun U=>?_) (fun U=>?_)
   · simp only[U];refine T4 ?_;exact key true _ _ _ (by first|(simp only[inB,rq0,J,I,U,B6,B9,D7,D8];done)|(simp only[inB,J,I,B6];exact FO U)) (fF)
   simp only[U];refine T4 ?_;exact key false _ _ _ (by first|(simp only[inB,rq0,J,I,U,B6,B9,D7,D8];done)|(simp only[inB,J,I,B6];exact FO U)) (fF)
  have F:=aI @aV0 (aI @cN0 (aI J I));refine AU ?_;refine T4 ?_;exact key false _ _ _ (by first|(simp only[inB,rq0,J,I,B6,B9,D7,D8];done)|(simp only[inB,J,I,B6];exact FO U)) (fF)
 have F:=aI @aV0 (aI @cN0 J);refine AU ?_;refine T4 ?_;exact key false _ _ _ (by first|(simp only[inB,rq0,J,B6,B9,D7,D8];done)|(simp only[inB,J,I,B6];exact FO U)) (fF)
theorem cC (n:Int)(h: -4611686018427387904≤n∧n≤4611686018427387904):IntKind.i64.wrap n=n:=B0 _ (by omega)
theorem bS6 (l:List Nd)(hn: ∀n∈l,n.q.t.length<2^63):bM Tryz.prog 64 [.slc (l.map Nd.cv)] (fun v=>v= .bool (eJ l)):=by
 refine FW Tryz.func64 ?_;refine R0 ?_;refine aC fun K I=>?_;refine aC fun K I=>Rg ?_;iterate 4 refine S0 ?_
 refine aH 9 rfl (fun ae=>?_) (fun ae=>?_)
 ·
  have F:=ae;iterate 4 refine SF ?_
  refine T2 (I _ _ _ ?_);clear I K;refine CT rfl ?_;refine R0 ?_;refine aE (RT Tryz.results64 ?_);exact aF [] (.bool false) rfl (by rw[mY (.inl (by simp only[C4]at ae;omega))])
 have F:=ae;iterate 4 refine SF ?_
 refine aH 13 rfl (fun ab=>?_) (fun ab=>?_)
 · simp only[ab];refine T2 (I _ _ _ ?_);clear I K;refine CT rfl ?_;refine R0 ?_;refine aE (RT Tryz.results64 ?_);exact aF [] (.bool false) rfl (by rw[mY (.inr (by simp only[C4]at ab;omega))])
 simp only[ab];refine T2 (I _ _ _ ?_);clear I K;refine CF rfl ?_;refine aG ?_;refine T0 (I _ _ _ ?_);clear I K;have aj:1≤l.length:=by simp only[B7]at ae;omega
 have ak:l.length≤60:=by simp only[B7]at ab;omega
 clear ae ab;refine R0 ?_;refine aC fun K I=>?_;refine R0 ?_;refine aL ?_;refine bB (α:={y:Nat×Int×Int//ScSt l y.1 y.2.1 y.2.2}) (fun y=>(fin [(3,.c (.int .i64 y.1.2.1)),(4,.c (.int .i64 y.1.2.2)),(15,.c (.slc (l.map Nd.cv))),(16,.c (.int .i64 l.length)),(17,.c (.int .i64 y.1.1))],fob [])) 200 (fun y=>l.length-y.1.1) ⟨(0,1,0),ScSt.init l⟩ (fF) ?_;rintro⟨⟨i,m,v⟩,ad⟩;simp only at ad;have hi:=ad.le;have au:=ad.m0;have ar:=ad.m1;have aq:=ad.v0;have ao:=ad.v1;refine R0 ?_;refine aC fun K I=>?_;refine aJ (b:=decide ((i:Int)<l.length)) rfl (fun hb=>?_) (fun hb=>?_)
 ·
  have af:i<l.length:=by simpa using hb
  clear hb;refine aG ?_;refine T0 (I _ _ _ ?_);clear I K;refine aC fun K I=>?_;refine aL ?_;refine aC fun K I=>Rg ?_;have F:=aI @A1 (aI @A4 (aI af (nM af)));iterate 4 refine SF ?_
  refine T2 (I _ _ _ ?_);clear I K;refine aC fun K I=>?_;refine aC fun K I=>Rg ?_;iterate 3 refine S0 ?_
  refine aH 22 rfl (fun aa=>?_) (fun aa=>?_)
  ·
   have F:=aa;iterate 4 refine SF ?_
   refine T2 (I _ _ _ ?_);clear I K;refine CT rfl ?_;refine R0 ?_;refine aE (RT Tryz.results64 ?_);exact aF [] (.bool false) rfl (by rw[ad.stop af (.inl (by simpa using aa))])
  have F:=aa;refine SF ?_;refine aX (g:=some (23,false)) rfl rfl fun K' ai=>T6 ?_;refine C1 (cN1 l[i] (hn _ (B5 af))) ?_;rintro u rfl;refine AX (ai _ _ ?_);clear ai K';iterate 2 refine SF ?_
  refine aH 25 rfl (fun U=>?_) (fun U=>?_)
  ·
   simp only[U];refine T2 (I _ _ _ ?_);clear I K;refine CF rfl ?_;refine aG ?_;refine T0 (I _ _ _ ?_);clear I K;have ah:dK l[i]=true:=by simpa using U
   have hm:m≠0:=by simpa using aa
   obtain⟨c1,c2,c3,c4⟩:=fM ah;have ag:=ad.next af hm ah;clear aa U;refine aC fun K I=>Rg ?_;iterate 6 refine S0 ?_ (e:=fun _ h_=>by simp only[sH,↓sP,sA,tyS,simprocAttr,cC (l[i].c-1) (by omega),cC (m+(l[i].c-1)) (by omega)];exact AX h_)
   refine T2 (I _ _ _ ?_);clear I K;refine R0 ?_;refine aJ (b:=_) rfl (fun hb=>?_) (fun hb=>?_)
   · refine aM (by kernel_rfl) ?_;simp only[↓sP,sA,tyS,simprocAttr,cC (v+1) (by omega)];refine AX (I _ _ _ ?_);clear I K;refine aM (by kernel_rfl) ?_;simp only[↓sP,sA,tyS,simprocAttr,cC ((i:Int)+1) (by omega)];rw[B1 (by simpa using hb)]at ag;refine⟨⟨(i+1,_,_),ag⟩,fF,?_⟩;show l.length-(i+1)<l.length-i;omega
   refine aG ?_;refine T0 (I _ _ _ ?_);clear I K;refine aM (by kernel_rfl) ?_;simp only[↓sP,sA,tyS,simprocAttr,cC ((i:Int)+1) (by omega)];rw[A7 (by simpa using hb)]at ag;refine⟨⟨(i+1,_,_),ag⟩,fF,?_⟩;show l.length-(i+1)<l.length-i;omega
  simp only[U];refine T2 (I _ _ _ ?_);clear I K;refine CT rfl ?_;refine R0 ?_;refine aE (RT Tryz.results64 ?_);exact aF [] (.bool false) rfl (by rw[ad.stop af (.inr (by simpa using U))])
 refine aV (T3 ?_);clear I K;refine AX (I _ _ _ ?_);clear I K;have an:i=l.length:=by simp only[B7]at hb;omega
 subst an;have hf:=ad.fin aj ak;clear hb;refine aC fun K I=>Rg ?_;iterate 3 refine S0 ?_
 refine aH 40 rfl (fun J=>?_) (fun J=>?_)
 ·
  have F:=J;iterate 4 refine SF ?_
  refine T2 (I _ _ _ ?_);clear I K;refine aE (RT Tryz.results64 ?_);exact aF [] (.bool _) rfl (by rw[hf,J,B6])
 have F:=J;iterate 4 refine SF ?_
 refine T2 (I _ _ _ ?_);clear I K;refine aE (RT Tryz.results64 ?_);exact aF [] (.bool false) rfl (by rw[hf,J,B9])
theorem cX6 (q:Rq)(hn:q.t.length<2^63):bM Tryz.prog 133 [q.cv] (fun v=>v= .bool (fE q)):=by
 refine FW Tryz.func133 ?_;refine R0 ?_;refine aC fun K hK=>?_;have ar: ∀(b:Bool) fr ob nx,b=inB q.n 1 32→Fits 0 fr ob (fin [(1,.ptr 0 0),(3,.c (.bool b))]) (fob [(0,.box 87 (.c q.cv))]) 100→K fr ob nx:=by
  rintro b fr ob nx rfl hf;refine hK _ _ _ (aZ hf ?_);clear hf hK K;refine aC fun K hK=>?_;refine R0 ?_;refine aL ?_;refine aC fun K hK=>?_;have key: ∀(b:Bool) fr ob nx,b=(q.k==1||(q.k==3||q.k==5))→Fits 0 fr ob (fin [(1,.ptr 0 0),(3,.c (.bool (inB q.n 1 32))),(13,.c (.int .i64 q.k)),(14,.c (.bool b))]) (fob [(0,.box 87 (.c q.cv))]) 300→K fr ob nx:=by
   rintro b fr ob nx rfl hf;refine hK _ _ _ (aZ hf ?_);clear hf hK K;refine aJ (b:=_) rfl (fun hb=>?_) (fun hb=>?_)
   ·
    refine AU ?_;refine aH 18 rfl (fun af=>?_) (fun af=>?_)
    ·
     have F:=af;refine AU ?_;refine aH 22 rfl (fun ak=>?_) (fun ak=>?_)
     · have F:=aI af ak;refine AU ?_;refine aE (RT Tryz.results133 ?_);exact aF [] (.bool _) rfl (by rw[aG1 hb,af,ak];rfl)
     have F:=aI af ak;refine AU ?_;refine aE (RT Tryz.results133 ?_);exact aF [] (.bool _) rfl (by rw[aG1 hb,af,ak];rfl)
    have F:=af;refine AU ?_;refine aE (RT Tryz.results133 ?_);exact aF [] (.bool _) rfl (by rw[aG1 hb,af];rfl)
   have h1:=hb;refine R0 ?_;refine aJ (b:=_) rfl (fun hb=>?_) (fun hb=>?_)
   ·
    refine AU ?_;refine aH 31 rfl (fun U=>?_) (fun U=>?_)
    ·
     have F:=U;refine AU ?_;refine aH 35 rfl (fun ag=>?_) (fun ag=>?_)
     ·
      have F:=aI U ag;refine AU ?_;refine aH 40 rfl (fun an=>?_) (fun an=>?_)
      · have F:=aI U (aI ag an);refine AU ?_;refine aE (RT Tryz.results133 ?_);exact aF [] (.bool _) rfl (by rw[vV hb,U,ag,an];rfl)
      have F:=aI U (aI ag an);refine AU ?_;refine aE (RT Tryz.results133 ?_);exact aF [] (.bool _) rfl (by rw[vV hb,U,ag,an];rfl)
     have F:=aI U ag;refine AU ?_;refine aE (RT Tryz.results133 ?_);exact aF [] (.bool _) rfl (by rw[vV hb,U,ag];rfl)
    have F:=U;refine AU ?_;refine aE (RT Tryz.results133 ?_);exact aF [] (.bool _) rfl (by rw[vV hb,U];rfl)
   have h2:=hb;refine R0 ?_;refine aJ (b:=_) rfl (fun hb=>?_) (fun hb=>?_)
   ·
    refine AU ?_;refine aH 51 rfl (fun ad=>?_) (fun ad=>?_)
    ·
     have F:=ad;refine AU ?_;refine aH 55 rfl (fun ah=>?_) (fun ah=>?_)
     · have F:=aI ad ah;refine AU ?_;refine SCF (cK2 _ hn) ?_;refine AU ?_;refine aE (RT Tryz.results133 ?_);exact aF [] (.bool _) rfl (by rw[aG2 hb,ad,ah];rfl)
     have F:=aI ad ah;refine AU ?_;refine aE (RT Tryz.results133 ?_);exact aF [] (.bool _) rfl (by rw[aG2 hb,ad,ah];rfl)
    have F:=ad;refine AU ?_;refine aE (RT Tryz.results133 ?_);exact aF [] (.bool _) rfl (by rw[aG2 hb,ad];rfl)
   have h3:=hb;refine R0 ?_;refine aJ (b:=_) rfl (fun hb=>?_) (fun hb=>?_)
   ·
    refine AU ?_;refine aH 66 rfl (fun I=>?_) (fun I=>?_)
    ·
     have F:=I;refine AU ?_;refine aH 70 rfl (fun ab=>?_) (fun ab=>?_)
     ·
      have F:=aI I ab;refine AU ?_;refine aH 75 rfl (fun ai=>?_) (fun ai=>?_)
      · have F:=aI I (aI ab ai);refine AU ?_;refine aE (RT Tryz.results133 ?_);exact aF [] (.bool _) rfl (by rw[vW hb,I,ab,ai];rfl)
      have F:=aI I (aI ab ai);refine AU ?_;refine aE (RT Tryz.results133 ?_);exact aF [] (.bool _) rfl (by rw[vW hb,I,ab,ai];rfl)
     have F:=aI I ab;refine AU ?_;refine aE (RT Tryz.results133 ?_);exact aF [] (.bool _) rfl (by rw[vW hb,I,ab];rfl)
    have F:=I;refine AU ?_;refine aE (RT Tryz.results133 ?_);exact aF [] (.bool _) rfl (by rw[vW hb,I];rfl)
   have h4:=hb;refine R0 ?_;refine aJ (b:=_) rfl (fun hb=>?_) (fun hb=>?_)
   ·
    refine AU ?_;refine SC (kR _) ?_;refine S0 ?_;refine aH 86 rfl (fun aa=>?_) (fun aa=>?_)
    ·
     have F:=aa;refine AU ?_;refine aH 90 rfl (fun aj=>?_) (fun aj=>?_)
     · have F:=aI aa aj;refine AU ?_;refine aE (RT Tryz.results133 ?_);exact aF [] (.bool _) rfl (by rw[aG3 hb,aa,aj];rfl)
     have F:=aI aa aj;refine AU ?_;refine aE (RT Tryz.results133 ?_);exact aF [] (.bool _) rfl (by rw[aG3 hb,aa,aj];rfl)
    have F:=aa;refine AU ?_;refine aE (RT Tryz.results133 ?_);exact aF [] (.bool _) rfl (by rw[aG3 hb,aa];rfl)
   have h5:=hb;refine R0 ?_;refine aJ (b:=_) rfl (fun hb=>?_) (fun hb=>?_)
   ·
    refine AU ?_;refine aH 101 rfl (fun J=>?_) (fun J=>?_)
    ·
     have F:=J;refine AU ?_;refine aH 105 rfl (fun ae=>?_) (fun ae=>?_)
     · have F:=aI J ae;refine AU ?_;refine aE (RT Tryz.results133 ?_);exact aF [] (.bool _) rfl (by rw[aG4 hb,J,ae];rfl)
     have F:=aI J ae;refine AU ?_;refine aE (RT Tryz.results133 ?_);exact aF [] (.bool _) rfl (by rw[aG4 hb,J,ae];rfl)
    have F:=J;refine AU ?_;refine aE (RT Tryz.results133 ?_);exact aF [] (.bool _) rfl (by rw[aG4 hb,J];rfl)
   refine aG ?_;refine T0 (hK _ _ _ ?_);clear hK K;refine R0 ?_;refine aE (RT Tryz.results133 ?_);exact aF [] (.bool false) rfl (by rw[bS5 h1 (by simpa using h2) (by simpa using h3) (by simpa using h4) (by simpa using h5) (by simpa using hb)])
  refine R0 ?_;refine aJ (b:=_) rfl (fun hb=>?_) (fun hb=>?_)
  · refine aG (T3 ?_);exact key (q.k==1) _ _ _ (by rw[hb];rfl) (fF)
  have h1:=hb;refine R0 ?_;refine aJ (b:=_) rfl (fun hb=>?_) (fun hb=>?_)
  · refine aG (T3 ?_);exact key (q.k==3) _ _ _ (by rw[h1,hb];rfl) (fF)
  have au:=hb;refine aM (by kernel_rfl) ?_;simp only[↓sP,sA,tyS,simprocAttr];exact key (q.k==5) _ _ _ (by rw[h1,au];rfl) (fF)
 refine Rg ?_;refine AU ?_;refine aH 6 rfl (fun aq=>?_) (fun aq=>?_)
 ·
  have F:=aq;refine AU ?_;refine aH 10 rfl (fun ao=>?_) (fun ao=>?_)
  · simp only[ao];refine T4 ?_;exact ar true _ _ _ (by simp only[inB,aq,ao,B6,B9]) (fF)
  simp only[ao];refine T4 ?_;exact ar false _ _ _ (by simp only[inB,aq,ao,B6,B9]) (fF)
 have F:=aq;refine AU ?_;refine T4 ?_;exact ar false _ _ _ (by simp only[inB,aq,B6,B9]) (fF)
theorem cN2 (n:Nd)(hn:n.q.t.length<2^63):bM Tryz.prog 106 [n.cv] (fun v=>v= .bool (qP n)):=by
 refine FW Tryz.func106 ?_;refine R0 ?_;refine RS ?_;have F:=@aV0;iterate 5 refine SF ?_
 refine RE ?_;refine aC fun K hK=>?_;refine R0 ?_;refine aL ?_;refine R0 ?_;refine aJ (b:=_) rfl (fun hb=>?_) (fun hb=>?_)
 ·
  refine AU ?_;refine aH 14 rfl (fun J=>?_) (fun J=>?_)
  ·
   have F:=J;refine AU ?_;refine aH 18 rfl (fun ad=>?_) (fun ad=>?_)
   · have F:=aI J ad;refine AU ?_;refine SCF (cX6 n.q hn) ?_;refine AU ?_;refine aE (RT Tryz.results106 ?_);exact aF [] (.bool _) rfl (by rw[tO (by simpa using hb),J,ad];rfl)
   have F:=aI J ad;refine AU ?_;refine aE (RT Tryz.results106 ?_);exact aF [] (.bool _) rfl (by rw[tO (by simpa using hb),J,ad];rfl)
  have F:=J;refine AU ?_;refine aE (RT Tryz.results106 ?_);exact aF [] (.bool _) rfl (by rw[tO (by simpa using hb),J];rfl)
 have h1:n.k≠1:=by simpa using hb
 refine aC fun K hK=>?_;have af: ∀(b:Bool) fr ob nx,b=(n.k==2||n.k==3)→Fits 0 fr ob (fin [(1,.ptr 0 0),(3,.c (.bool (iH n.q rq0))),(9,.c (.int .i64 n.k)),(25,.c (.bool b))]) (fob [(0,.box 89 (.c n.cv))]) 300→K fr ob nx:=by
  rintro b fr ob nx rfl hf;refine hK _ _ _ (aZ hf ?_);clear hf hK K;refine aJ (b:=_) rfl (fun hb=>?_) (fun hb=>?_)
  ·
   refine AU ?_;refine aH 30 rfl (fun U=>?_) (fun U=>?_)
   ·
    have F:=U;refine AU ?_;refine aH 34 rfl (fun ae=>?_) (fun ae=>?_)
    · have F:=aI U ae;refine AU ?_;refine aE (RT Tryz.results106 ?_);exact aF [] (.bool _) rfl (by rw[xP hb,U,ae];rfl)
    have F:=aI U ae;refine AU ?_;refine aE (RT Tryz.results106 ?_);exact aF [] (.bool _) rfl (by rw[xP hb,U,ae];rfl)
   have F:=U;refine AU ?_;refine aE (RT Tryz.results106 ?_);exact aF [] (.bool _) rfl (by rw[xP hb,U];rfl)
  have h2:=hb;refine R0 ?_;refine aJ (b:=_) rfl (fun hb=>?_) (fun hb=>?_)
  ·
   refine AU ?_;refine aH 43 rfl (fun I=>?_) (fun I=>?_)
   ·
    have F:=I;refine AU ?_;refine aH 47 rfl (fun aa=>?_) (fun aa=>?_)
    ·
     have F:=aI I aa;refine AU ?_;refine aH 54 rfl (fun ab=>?_) (fun ab=>?_)
     · have F:=aI I (aI aa ab);refine AU ?_;refine aE (RT Tryz.results106 ?_);exact aF [] (.bool _) rfl (by rw[pD (by simpa using hb),I,aa,ab];rfl)
     have F:=aI I (aI aa ab);refine AU ?_;refine aE (RT Tryz.results106 ?_);exact aF [] (.bool _) rfl (by rw[pD (by simpa using hb),I,aa,ab];rfl)
    have F:=aI I aa;refine AU ?_;refine aE (RT Tryz.results106 ?_);exact aF [] (.bool _) rfl (by rw[pD (by simpa using hb),I,aa];rfl)
   have F:=I;refine AU ?_;refine aE (RT Tryz.results106 ?_);exact aF [] (.bool _) rfl (by rw[pD (by simpa using hb),I];rfl)
  refine aG ?_;refine T0 (hK _ _ _ ?_);clear hK K;refine R0 ?_;refine aE (RT Tryz.results106 ?_);exact aF [] (.bool _) rfl (by rw[cM8 h1 h2 (by simpa using hb)])
 refine R0 ?_;refine aJ (b:=_) rfl (fun hb=>?_) (fun hb=>?_)
 · refine aG (T3 ?_);exact af (n.k==2) _ _ _ (by rw[hb];rfl) (fG (by simp[rq0]))
 have h2:=hb;refine aM (by kernel_rfl) ?_;simp only[↓sP,sA,tyS,simprocAttr];exact af (n.k==3) _ _ _ (by rw[hb];rfl) (fG (by simp[rq0]))
end Go.Proofs.YthedbjfipmkpiaaGreatDoor
