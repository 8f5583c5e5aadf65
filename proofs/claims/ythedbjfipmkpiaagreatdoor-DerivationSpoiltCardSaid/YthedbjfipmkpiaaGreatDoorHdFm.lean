/- strconv.FormatInt at base 10, at this seat: from the shelf. By an AI agent. -/
import Derived.Lib.ItoaLen
import Derived.Shelf.LaysM
import Derived.Shelf.Strconv.Itoa4
import Derived.Test.YthedbjfipmkpiaaGreatDoorPl02g
set_option maxRecDepth 100000
set_option linter.unusedSimpArgs false
set_option linter.unusedVariables false
set_option linter.defProp false
namespace Go.Pl
open Go Go.Hl
theorem yR (c:UInt8): ∀m:aK,aQ c (m++[c])=aQ c m++[[]]
 |[]=>by simp[aQ]
 |b::m=>by
  have I:=yR c m;simp only[J4];rw[aQ,aQ];by_cases h:b=c
  · grind
  · rw[A7 h,A7 h,I];grind[aQ,absurd,dI]
theorem qJ {c:UInt8}: ∀{l:aK},l≠[]→(aQ c l).getLast (dI c l)=[]→ ∃m,l=m++[c]
 |[],h,_=>absurd rfl h
 |b::l,_,hl=>by
  by_cases h:b=c
  ·
   subst h;have hs:aQ b (b::l)=[]::aQ b l:=by rw[aQ,B1 rfl]
   cases l with
   |nil=>simp_all
   |cons d l=>
    have:(aQ b (d::l)).getLast (dI b _)=[]:=by
     simp only[hs]at hl;rw[CX (dI b _)]at hl;exact hl
    obtain⟨m,hm⟩:=qJ (l:=d::l) (by simp) this;grind
  ·
   cases hs:aQ c l with
   |nil=>exact absurd hs (dI c l)
   |cons x xs=>
    have I:aQ c (b::l)=(b::x)::xs:=by rw[aQ,A7 h,hs]
    simp only[I]at hl;cases xs with
    |nil=>grind
    |cons y U=>
     have J:l≠[]:=by rintro rfl;simp[aQ]at hs
     have:(aQ c l).getLast (dI c l)=[]:=by
      simp only[hs];rw[CX (by simp)]at hl⊢;exact hl
     obtain⟨m,hm⟩:=qJ J this;grind
def pH (c:UInt8):List aK→aK
 |[]=>[]
 |w::l=>w++l.flatMap fun v=>c::v
theorem qK (c:UInt8): ∀l:aK,pH c (aQ c l)=l
 |[]=>rfl
 |b::l=>by
  have I:=qK c l;rw[aQ];cases hs:aQ c l with
  |nil=>exact absurd hs (dI c l)
  |cons x xs=>
   grind[pH]
theorem yS {c:UInt8}: ∀{w:aK},(∀b∈w,b≠c)→aQ c w=[w]
 |[],_=>rfl
 |b::w,h=>by
  rw[aQ,A7 (h b H9),yS fun x hx=>h x (H2 _ hx)]
theorem aD7 {c:UInt8}{r:aK}: ∀{w:aK},(∀b∈w,b≠c)→aQ c (w++c::r)=w::aQ c r
 |[],_=>by simp only[J1];rw[aQ,B1 rfl]
 |b::w,h=>by
  simp only[J4];rw[aQ,A7 (h b H9),aD7 fun x hx=>h x (H2 _ hx)]
theorem qL {c:UInt8}: ∀{l:List aK},l≠[]→(∀w∈l,∀b∈w,b≠c)→aQ c (pH c l)=l
 |[],h,_=>absurd rfl h
 |[w],_,h=>by grind[pH,yS,List.mem_cons_self]
 |w::v::l,_,h=>by
  have I:=qL (c:=c) (l:=v::l) (by simp) fun x hx=>h x (H2 _ hx);grind[pH,aD7,List.mem_cons_self]
theorem bK2 (c:UInt8)(m:aK):((aQ c m).flatMap fun r=>r++[c])=m++[c]:=by
 have h:=qK c m;cases hs:aQ c m with
 |nil=>exact absurd hs (dI c m)
 |cons x xs=>
  rw[hs]at h;simp only[pH]at h;rw[←h];have key: ∀(x:aK) (xs:List aK),(List.flatMap (fun r=>r++[c]) (x::xs))=(x++xs.flatMap fun v=>c::v)++[c]:=by
   intro x xs;induction xs generalizing x with
   |nil=>simp
   |cons y I J=>
    grind
  grind
set_option maxRecDepth 20000 in
theorem bB2 {c:UInt8}(h:valH c<16):qH (valH c)=c:=by
 have key: ∀n:Fin 256,valH (UInt8.ofNat n.1)<16→qH (valH (UInt8.ofNat n.1))=UInt8.ofNat n.1:=by decide
 have:=key ⟨c.toNat,c.toNat_lt⟩;simp_all
set_option maxRecDepth 20000 in
theorem aM5 {n:Nat}(h:n<16):valH (qH n)=n:=by
 have key: ∀n:Fin 16,valH (qH n.1)=n.1:=by decide
 exact key ⟨n,h⟩
theorem cH4 {x y:UInt8}(h:okH x y=true):lH (byteH x y)=[37,x,y]:=by
 simp only[okH,B3,C4,N1]at h;obtain⟨⟨I,J⟩,h3⟩:=h;unfold lH;rw[h3,xD I J];have e1:(16*valH x+valH y)/16=valH x:=by omega
 have U:(16*valH x+valH y)%16=valH y:=by omega
 simp only[G9,L8,e1,U,bB2 I,bB2 J]
variable {c:UInt8}
theorem aD8 (h:cX c=true):lH c=[c]:=by unfold lH;grind
theorem aT2 : ∀(n:Nat) {s w:aK},s.length≤n→unB s=some w→dG w=s
 |0,s,w,hn,h=>by simp_all[D3,unB,E8]
 |n+1,[],w,_,h=>by simp_all[unB,E8]
 |n+1,c::l,w,hn,h=>by
  simp only[A8]at hn;by_cases hp:cX c=true
  · rw[rF hp,C9]at h;obtain⟨w',h',rfl⟩:=h;have J:=aT2 n (by omega) h';grind[dG,aD8]
  ·
   have hp:cX c=false:=by simpa using hp
   by_cases U:c=37
   ·
    subst U
    match l,h with
    |[],h=>grind[zO]
    |[x],h=>grind[zO]
    |x::y::l',h=>
     by_cases I:okH x y=true
     · rw[aT0 I,C9]at h;obtain⟨w',h',rfl⟩:=h;have J:=aT2 n (by grind) h';grind[dG,cH4]
     grind[yQ]
   grind[zO]
variable {s:aK}
theorem cU1 {w:aK}(h:unW s=some w):gY w=s:=by
 unfold unW at h;split at h
 · rename_i hs;cases h;rw[hs];rfl
 ·
  split at h
  · cases h
  · rename_i J I;have:=aT2 _ (E3 _) h;unfold gY;rw[A7 (dE3 I h),this]
theorem aM6 : ∀w:aK,unB (dG w)=some w
 |[]=>rfl
 |c::w=>by
  have ih:=aM6 w;have e:dG (c::w)=lH c++dG w:=by simp[dG]
  rw[e];by_cases hp:cX c=true
  · grind[aD8,rF]
  ·
   have hp:cX c=false:=by simpa using hp
   have U:=c.toNat_lt;have I:valH (qH (c.toNat/16))=c.toNat/16:=aM5 (by omega);have J:valH (qH (c.toNat%16))=c.toNat%16:=aM5 (by omega);have hb:byteH (qH (c.toNat/16)) (qH (c.toNat%16))=c:=by
    unfold byteH;rw[I,J,Nat.div_add_mod];exact CY
   have ho:okH (qH (c.toNat/16)) (qH (c.toNat%16))=true:=by
    simp only[okH,hb,hp,I,J,B3,C4,F7,J9];omega
   grind[lH,qH,aT0]
variable {b:UInt8}
theorem aM7 (h:b∈lH c):b≠10∧b≠32∧b≠126:=by
 unfold lH at h;split at h
 · rename_i hp;simp only[E5]at h;subst h;refine⟨?_,?_,?_⟩<;>(rintro rfl;revert hp;decide)
 ·
  have key: ∀n:Nat,qH n≠10∧qH n≠32∧qH n≠126:=by
   intro n;unfold qH;rcases H4 n 16 with hn|hn
   ·
    have: ∀n:Fin 16,([48,49,50,51,52,53,54,55,56,57,65,66,67,68,69,70]:List UInt8).getD n.1 0≠10∧([48,49,50,51,52,53,54,55,56,57,65,66,67,68,69,70]:List UInt8).getD n.1 0≠32∧([48,49,50,51,52,53,54,55,56,57,65,66,67,68,69,70]:List UInt8).getD n.1 0≠126:=by decide
    exact this ⟨n,hn⟩
   · simp_all
  grind
theorem xE {w:aK}(h:b∈gY w):b≠10∧b≠32:=by
 unfold gY at h;split at h
 · grind
 · obtain⟨c,_,I⟩:=K3.1 h;grind[aM7]
theorem cH5 (w:aK):unW (gY w)=some w:=by
 unfold gY;split
 · rename_i h;subst h;rfl
 ·
  rename_i h;have U:dG w≠[]:=by
   intro he;have:=bA6 w;rw[he]at this;exact h (D3 (by grind))
  have I:dG w≠[126]:=by
   intro he;have hm:(126:UInt8)∈dG w:=by rw[he];simp
   obtain⟨c,_,J⟩:=K3.1 hm;exact(aM7 J).2.2 rfl
  simp_all[unW,A7,aM6]
theorem rJ {α β:Type}{f:α→Option β}: ∀{l:List α} {m:List β},l.mapM f=some m→(∀{g:β→α},(∀x y,f x=some y→g y=x)→m.map g=l)∧m.length=l.length
 |[],m,h=>by grind
 |a::l,m,h=>by
  rw[K6]at h;cases I:f a with
  |none=>grind
  |some b=>
   rw[I]at h;cases hl:l.mapM f with
   |none=>grind
   |some m'=>
    rw[hl]at h;cases h;obtain⟨J,U⟩:=rJ hl;grind
theorem aM8 (l:List aK):fR l=pH 32 (l.map gY):=by
 cases l with
 |nil=>rfl
 |cons w l=>simp[fR,pH,List.flatMap_map]
variable {r:aK}
theorem cU2 {ws:List aK}(h:unL r=some ws):fR ws=r:=by
 have:=(rJ h).1 (g:=gY) fun x y h=>cU1 h;rw[aM8,this,qK]
theorem aM9 : ∀l:List aK,(l.map gY).mapM unW=some l
 |[]=>rfl
 |w::l=>by rw[B8,K6,cH5,aM9 l];rfl
theorem cH6 {l:List aK}(h:l≠[]):unL (fR l)=some l:=by
 unfold unL;rw[aM8,qL (by simp_all) (by
  intro w hw b I;obtain⟨v,_,rfl⟩:=H0.1 hw;exact(xE I).2),aM9]
theorem bW7 {l:List aK}(h:b∈fR l):b≠10:=by
 cases l with
 |nil=>simp at h
 |cons w l=>
  simp only[fR,D6,K3]at h;rcases h with h|⟨v,_,h⟩
  · exact(xE h).1
  · rcases E0.1 h with rfl|h;all_goals grind[xE]
variable {ls:List (List aK)}
theorem bW8 (h:ls≠[]):dU ls=pH 10 (ls.map fR)++[10]:=by
 cases ls with
 |nil=>grind
 |cons l ls=>
  have key: ∀(l:List aK) (ls:List (List aK)),dU (l::ls)=pH 10 ((l::ls).map fR)++[10]:=by
   intro l ls;induction ls generalizing l with
   |nil=>simp[dU,pH,rX]
   |cons k ls I=>
    grind[dU,rX,pH]
  grind
theorem xF (m:aK):kF (m++[10])=(aQ 10 m).mapM unR:=by simp_all[yR,kF,A7,B1,BI]
theorem bW9 (h: ∀l∈ls,okL l=true):kF (dU ls)=some ls:=by
 by_cases I:ls=[]
 · subst I;simp[kF]
 ·
  rw[bW8 I,xF,qL (by simpa using I) (by
   intro w hw b hb;obtain⟨l,_,rfl⟩:=H0.1 hw;exact bW7 hb)]
  clear I;induction ls with
  |nil=>rfl
  |cons l ls U=>
   have hl:=h l H9;have J:unR (fR l)=some l:=by
    unfold unR;rw[cH6 ((eG l).1 hl).1];simp only[hl,G4]
   rw[B8,K6,J,U fun x hx=>h x (H2 _ hx)];rfl
variable {rs:List aK}
theorem cH7 (h:rs.mapM unL=some ls):rs.mapM unR=if ls.all okL then some ls else none:=by
 induction rs generalizing ls with
 |nil=>grind
 |cons r rs J=>
  rw[K6]at h;cases I:unL r with
  |none=>grind
  |some l=>
   rw[I]at h;cases hl:rs.mapM unL with
   |none=>grind
   |some m=>
    rw[hl]at h;cases h;rw[K6,J hl];unfold unR;rw[I];simp only[Q6];by_cases U:okL l=true
    · grind
    grind
theorem aJ0 (h:rs.mapM unL=none):rs.mapM unR=none:=by
 induction rs with
 |nil=>grind
 |cons r rs I=>
  rw[K6]at h⊢;cases J:unL r with
  |none=>unfold unR;grind
  |some l=>
   rw[J]at h;have:rs.mapM unL=none:=by
    cases hl:rs.mapM unL with
    |none=>rfl
    |some m=>rw[hl]at h;cases h
   rw[I this];cases unR r<;>rfl
variable {m:aK}
theorem bX0 (h:(aQ 10 m).mapM unL=some ls):dU ls=m++[10]:=by
 have J:=(rJ h).1 (g:=fR) fun x y h=>cU2 h;have I:=bK2 10 m;rw[←J]at I;rw[←I];simp only[dU,List.flatMap_map];rfl
theorem aN0 {b:aK}(J: ¬262144<b.length)(I:b≠[])(h:b.getD (b.length-1) 0≠10):eT b=2:=by
 have:kF b=none:=by
  unfold kF;rw[A7 I,A7];intro hl;obtain⟨m,rfl⟩:=qJ I hl;simp at h
 unfold eT;rw[A7 J,this]
theorem aN1 (I: ¬262144<(m++[10]).length)(h:(aQ 10 m).mapM unL=none):eT (m++[10])=2:=by
 unfold eT;rw[A7 I,xF,aJ0 h]
theorem aD9 (hb: ¬262144<(m++[10]).length)(h:(aQ 10 m).mapM unL=some ls):(jN ls=0→eT (m++[10])=0∧gT (m++[10])=ls)∧(jN ls≠0→eT (m++[10])=2):=by
 have hd:=bX0 h;have J:=cH7 h;rw[←xF]at J;by_cases U:ls.all okL=true
 ·
  rw[B1 U]at J;have I:eT (m++[10])=if 1000<ls.length then 2 else 0:=by unfold eT;rw[A7 hb,J]
  by_cases hl:1000<ls.length
  · rw[B1 hl]at I;exact⟨fun he=>absurd (he.symm.trans (nY hl)) (by decide),fun _=>I⟩
  ·
   rw[A7 hl]at I;have he:jN ls=0:=by
    rw[oY (by omega) (by simpa using U),hd,A7 hb]
   exact⟨fun _=>⟨I,by unfold gT;rw[B1 I,J];rfl⟩,fun hn=>absurd he hn⟩
 ·
  rw[A7 U]at J;have I:eT (m++[10])=2:=by unfold eT;rw[A7 hb,J]
  refine⟨fun he=>?_,fun _=>I⟩;exfalso;apply U;unfold jN at he;split at he
  · cases he
  ·
   split at he
   · rename_i l hf;have:=AS hf;exact absurd he (bP1 (by simpa using this))
   · rename_i hf;rw[CD]at hf;rw[G5];intro l hl;simpa using hf l hl
def lsT (rows:List aK)(i:Nat):List (List aK):=(rows.take i).map fun r=>(unL r).getD []
variable {i:Nat}{rows:List aK}
theorem vC (h:i<rows.length):lsT rows (i+1)=lsT rows i++[(unL rows[i]).getD []]:=by
 simp only[lsT,A5 h,C5,B8,F2]
theorem aE0 (h:i≤rows.length):(lsT rows i).length=i:=by
 simp only[lsT,A0,E1];omega
theorem aE1 (h:i<(aQ 32 r).length)(I:(unW (aQ 32 r)[i]).isSome=false):unL r=none:=
 lN (B5 h) (by simpa using I)
theorem aT3 (h:aI9 r (aQ 32 r).length):unL r=some (wsT r (aQ 32 r).length):=by
 unfold aI9 at h;rw[C6]at h;unfold unL;rw[vA [] h];simp only[wsT,C6]
theorem aT4 (h: ∀r∈rows.take rows.length,(unL r).isSome=true):rows.mapM unL=some (lsT rows rows.length):=by
 rw[C6]at h;rw[vA [] h];simp only[lsT,C6]
variable {n:Nat}
theorem bB3 (h: ∀r∈rows,r.length<n): ∀l∈lsT rows rows.length,l.length<n+1:=by
 intro l hl;simp only[lsT,C6,H0]at hl;obtain⟨r,I,rfl⟩:=hl;have J:=h r I;cases hu:unL r with
 |none=>simp
 |some ws=>
  have:=(rJ hu).2;have U:=dN 32 r;simp only[E9];omega
theorem tC : ∀(l:List aK) (a:List aK),Asc a→Asc (l.foldl uG a)∧ ∀w,w∈l.foldl uG a↔w∈a∨w∈l
 |[],a,h=>⟨h,fun w=>by simp⟩
 |x::l,a,h=>by
  obtain⟨J,I⟩:=tC l (uG a x) (cE8 h x);refine⟨J,fun w=>?_⟩;rw[AQ,I,cE7,E0];constructor
  ·
   rintro((h|h)|h)
   · exact .inl h
   · exact .inr (.inl h)
   · exact .inr (.inr h)
  ·
   rintro(h|h|h)
   · exact .inl (.inl h)
   · exact .inl (.inr h)
   · exact .inr h
theorem cH8 (l:List aK):Asc (bV4 l):=(tC l [] List.Pairwise.nil).1
theorem cH9 {l:List aK}{w:aK}:w∈bV4 l↔w∈l:=by
 have:=(tC l [] List.Pairwise.nil).2 w;simpa[bV4]using this
def cQ :List aK→List aK
 |a::b::l=>if a==b then cQ (b::l)else a::cQ (b::l)
 |l=>l
theorem xG : ∀{l:List aK} {w:aK},w∈cQ l↔w∈l
 |[],w=>by simp[cQ]
 |[a],w=>by simp[cQ]
 |a::b::l,w=>by
  have I:=xG (l:=b::l) (w:=w);simp only[cQ];split
  ·
   rename_i h;have:a=b:=by simpa using h
   subst this;rw[I];simp
  · rw[E0,I,E0 (b:=a)]
theorem aN2 : ∀{l:List aK},l.Pairwise (· ≤·)→Asc (cQ l)
 |[],_=>List.Pairwise.nil
 |[a],_=>by simp[cQ,Asc]
 |a::b::l,h=>by
  obtain⟨h1,h2⟩:=Q1.1 h;have ih:=aN2 h2;simp only[cQ];split
  · exact ih
  ·
   rename_i ab;refine Q1.2 ⟨fun w hw=>?_,ih⟩;rw[xG]at hw;have ad:a≤b:=h1 b (by simp);have U:a≠b:=by simpa using ab
   have I:=pZ ad U;rcases E0.1 hw with rfl|hw
   · exact I
   ·
    have aa:b≤w:=(Q1.1 h2).1 w hw;rcases Classical.em (b=w)with rfl|J
    · exact I
    · exact X2 I (pZ aa J)
theorem bK3 {l s:List aK}(hs:s.Pairwise (· ≤·))(hp: ∀w,w∈s↔w∈l):cQ s=bV4 l:=
 cS9 (aN2 hs) (cH8 l) fun w=>by rw[xG,cH9,hp]
section
variable {r:Rt}{role:aK}{a b:List Dig}{t:Int}
end
section
variable {α:Type}{p:α→Bool}{l:List α}
theorem aN3 {i:Nat}(hi:i<l.length)(h:p l[i]=false)(I: ∀x∈l.take i,p x=false): ∀x∈l.take (i+1),p x=false:=fun x hx=>by
 rw[A5 hi,D6,E5]at hx;rcases hx with hx|rfl
 · exact I x hx
 · exact h
end
theorem bB4 : ∀{a b:List UInt8} {i:Nat} (J:i<a.length) (I:i<b.length),a.take i=b.take i→a[i]≠b[i]→slt a b=decide (a[i]<b[i])
 |x::a,y::b,0,_,_,_,hne=>by
  simp only[O3]at hne⊢;have:(x==y)=false:=by simpa using hne
  simp[slt,Op.bytesLess,this]
 |x::a,y::b,i+1,J,I,h,hne=>by
  simp only[P8,F8,O2]at h hne⊢;obtain⟨rfl,h⟩:=h;have:=bB4 (by simpa using J) (by simpa using I) h hne;rw[←this];simp[slt,Op.bytesLess]
theorem bB5 : ∀a:List UInt8,slt a a=false
 |[]=>rfl
 |x::a=>by simpa[slt,Op.bytesLess]using bB5 a
theorem dE4 {a b:Dig}(hi:i<32)(h:a.1.take i=b.1.take i)(I:a.1[i]'(by rw[a.2];exact hi)≠b.1[i]'(by rw[b.2];exact hi)):dlt a b=decide (a.1[i]'(by rw[a.2];exact hi)<b.1[i]'(by rw[b.2];exact hi)):=
 bB4 _ _ h I
theorem cI0 {a b:Dig}(h:a.1.take 32=b.1.take 32):dlt a b=false:=by
 rw[C8 (by rw[a.2];exact E3 _),C8 (by rw[b.2];exact E3 _)]at h;unfold dlt;rw[h];exact bB5 _
theorem bK4 {d:Dig}(h:i<32):CV.getAt i 1 false (dg d)=some (u8 (d.1[i]'(by rw[d.2];exact h))):=dD7 (l:=d.1) (by rw[d.2];exact h)
theorem dB4 (a b:UInt8):((a.toNat:Int) !=(b.toNat:Int))=!(a==b):=by
 rw[K5];simp only[R9,AD,N1,J2];constructor
 · intro h e;exact h (by rw[e])
 · intro h e;exact h (P7.1 (by omega))
theorem dK0 (a b:UInt8):decide ((a.toNat:Int)<(b.toNat:Int))=decide (a<b):=by
 rw[K5];simp[UInt8.lt_iff_toNat_lt]
def alZ (c:UInt8):Bool:=(decide (97≤(c.toNat:Int))&&decide ((c.toNat:Int)≤122))||(decide (48≤(c.toNat:Int))&&decide ((c.toNat:Int)≤57))
def puZ (c:UInt8):Bool:=((c.toNat:Int)==46)||(((c.toNat:Int)==95)||((c.toNat:Int)==45))
def okc (i:Nat)(c:UInt8):Bool:=alZ c||(decide (0<(i:Int))&&puZ c)
theorem dK1 (c:UInt8):al c=alZ c:=by
 have h1:decide ((97:UInt8)≤c)=decide (97≤(c.toNat:Int)):=by rw[Bool.eq_iff_iff];simp only[C4,S8];show 97≤c.toNat↔_;omega
 have I:decide (c≤(122:UInt8))=decide ((c.toNat:Int)≤122):=by rw[Bool.eq_iff_iff];simp only[C4,S8];show c.toNat≤122↔_;omega
 have U:decide ((48:UInt8)≤c)=decide (48≤(c.toNat:Int)):=by rw[Bool.eq_iff_iff];simp only[C4,S8];show 48≤c.toNat↔_;omega
 have J:decide (c≤(57:UInt8))=decide ((c.toNat:Int)≤57):=by rw[Bool.eq_iff_iff];simp only[C4,S8];show c.toNat≤57↔_;omega
 grind[al,alZ]
theorem dN5 (c d:UInt8):(c==d)=((c.toNat:Int)==(d.toNat:Int)):=by
 rw[K5];simp only[I6];constructor
 · grind
 grind[UInt8.toNat_inj]
theorem dN6 (c:UInt8):nc c=(alZ c||puZ c):=by simp_all[nc,puZ,dK1,dN5]
theorem nZ :fL s=true↔(1≤s.length∧s.length≤64)∧ ∀i (h:i<s.length),okc i s[i]=true:=by
 cases s with
 |nil=>simp[fL]
 |cons c r=>
  simp only[fL,B3,C4,G5,dK1,dN6];constructor
  ·
   rintro⟨I,U,J⟩;refine⟨⟨by simp,I⟩,fun i hi=>?_⟩;cases i with
   |zero=>simp[okc,U]
   |succ i=>
    have:=J _ (B5 (by grind:i<r.length));simp only[O2];unfold okc;grind
  ·
   rintro⟨⟨_,I⟩,J⟩;refine⟨I,?_,fun x hx=>?_⟩
   · grind[okc]
   · obtain⟨i,hi,rfl⟩:=X5.1 hx;have:=J (i+1) (by grind);simp only[O2]at this;unfold okc at this;grind
theorem aN4 (h: ¬(1≤s.length∧s.length≤64)):fL s=false:=by grind[fL,absurd,nZ]
theorem aN5 (hi:i<s.length)(h:okc i s[i]=false):fL s=false:=by grind[fL,nZ]
theorem bX1 (hi:i<s.length)(h:okc i s[i]=true)(I: ∀j (_:j<i) (h:j<s.length),okc j s[j]=true): ∀j (_:j<i+1) (h:j<s.length),okc j s[j]=true:=fun j J h'=>by grind
def iQ (s:aK):Bool:=(s==[])||(decide (64<(s.length:Int))||(((gb s 0).toNat:Int)==46||(((gb s 0).toNat:Int)==95||((gb s 0).toNat:Int)==45)))
theorem bK5 (h:iQ s=true):fL s=false:=by
 cases s with
 |nil=>rfl
 |cons c r=>
  cases hn:fL (c::r)
  · rfl
  · obtain⟨⟨U,h2⟩,I⟩:=nZ.1 hn;have J:=I 0 (by simp);simp only[iQ,gb,M9,N7,C4,I6]at h;grind[okc,alZ,List.length_cons]
theorem bX2 (h:iQ s=false)(I: ∀j (h:j<s.length),(alZ s[j]||puZ s[j])=true):fL s=true:=by
 cases s with
 |nil=>simp[iQ]at h
 |cons c r=>
  simp only[iQ,gb,M9,M4,B7]at h;obtain⟨_,h1,h2,h3,J⟩:=h;refine nZ.2 ⟨⟨by simp,by grind⟩,fun i hi=>?_⟩;have:=I i hi;cases i with
  |zero=>
   simp_all[O3,puZ,E4,okc]
  |succ i=>
   have U:decide (0<((i+1:Nat):Int))=true:=by simp only[decide_eq_true_eq];omega
   simp_all[okc,B6]
variable {j:Nat}
theorem bK6 (I:j<s.length)(h:(alZ s[j]||puZ s[j])=false):fL s=false:=
 aN5 I (by grind[alZ,puZ,okc])
section
variable {α β:Type}
def bX3 (r:α→α→Bool):List α→Bool
 |a::b::l=>r a b&&bX3 r (b::l)
 |_=>true
theorem bB6 {r:α→α→Bool}: ∀{l:List α},bX3 r l=true↔ ∀i (h:i+1<l.length),r l[i] l[i+1]=true
 |[]=>by simp[bX3]
 |[a]=>by simp[bX3]
 |a::b::l=>by
  have I:=bB6 (r:=r) (l:=b::l);simp only[bX3,B3,I];constructor
  ·
   rintro⟨U,J⟩ i hi;cases i with
   |zero=>exact U
   |succ i=>exact J i (by simpa using hi)
  · intro h;exact⟨h 0 (by simp),fun i hi=>h (i+1) (by simpa using hi)⟩
def GoodTo (p:α→Bool)(r:α→α→Bool)(l:List α)(i:Nat):Prop:=(∀j (h:j<l.length),j<i→p l[j]=true)∧ ∀j (h:j+1<l.length),j+1<i→r l[j] l[j+1]=true
variable {p:α→Bool}{r:α→α→Bool}{l:List α}
theorem GoodTo.zero :GoodTo p r l 0:=⟨fun j _ h=>by omega,fun j _ h=>by omega⟩
theorem GoodTo.one (hi:0<l.length)(h:p l[0]=true):GoodTo p r l 1:=by
 refine⟨fun j h' I=>?_,fun j _ h=>by omega⟩;have:j=0:=by omega
 subst this;exact h
theorem GoodTo.succ {i:Nat}(hi:i+1<l.length)(h:p l[i+1]=true)(U:r l[i] l[i+1]=true)(J:GoodTo p r l (i+1)):GoodTo p r l (i+1+1):=by
 refine⟨fun j h' hj=>?_,fun j h' hj=>?_⟩
 ·
  rcases H4 j (i+1)with I|I
  · exact J.1 j h' I
  ·
   have:j=i+1:=by omega
   subst this;exact h
 ·
  rcases H4 (j+1) (i+1)with I|I
  · exact J.2 j h' I
  ·
   have:j=i:=by omega
   subst this;exact U
theorem GoodTo.all (h:GoodTo p r l l.length):(l.all p&&bX3 r l)=true:=by
 rw[B3,G5,bB6];refine⟨fun x hx=>?_,fun i hi=>h.2 i hi hi⟩;obtain⟨i,hi,rfl⟩:=X5.1 hx;exact h.1 i hi hi
end
theorem denilL_u8 (l:List UInt8):CV.denilL (l.map u8)=l.map u8:=bZ (f:=u8) (fun _=>rfl) l
theorem aT5 (d:Dig):(d.1.map u8).take 32=d.1.map u8:=C8 (by rw[A0,d.2];exact E3 _)
theorem oZ {s:aK}(h:(s==[])=false):(0:Int)<(s.length:Int):=by
 cases s with
 |nil=>cases h
 |cons x s=>rw[A8];omega
theorem bB7 {l:List Dig}:(∀v∈l.map dg,v.cells=32)↔True:=iff_true_intro fun v h=>by obtain⟨d,_,rfl⟩:=H0.1 h;exact dg_cells d
def kSz (k:Ky):Prop:=k.o.length<2^63∧k.rs.length<2^40∧ ∀w∈k.rs,w.length<2^63
def rSz (r:Rt):Prop:=(r.q.length<2^40∧ ∀q∈r.q,q.r.length<2^63)∧(r.k.length<2^40∧ ∀k∈r.k,kSz k)∧r.x.length<2^40
theorem cI1 (l:List UInt8):(us l).denil=us l:=by simp only[us,CV.denil];rw[bZ (f:=u8) (fun _=>rfl)]
variable {l:List UInt8}
theorem dE5 (h:l.length=n):CV.getAt 0 n true (us l)=some (us l):=by
 have:=us_cells l;simp only[us,CV.cells]at this;simp only[us,CV.getAt,this,h,I4,G4]
theorem cU3 (y:UInt8)(h:i<l.length)(I:l.length≠1):CV.setAt i 1 (.c (.int .u8 (y.toNat:Int))) (us l)=some (.agg (((l.set i y).map u8).map .c)):=dD8 y h I
@[simp] theorem dI3 (l:List W32)(i:Nat)(x:W32):CV.agg ((l.map w32).set i (w32 x))=ws (l.set i x):=by rw[←List.map_set];rfl
@[simp] theorem dI4 (l:List UInt8)(i:Nat)(x:UInt8):CV.agg ((l.map u8).set i (u8 x))=us (l.set i x):=by rw[←List.map_set];rfl
@[simp] theorem dN0 (b:List UInt8):wA b 0=wz 64:=rfl
@[simp] theorem dN1 (w:List W32):wB w 0=w:=rfl
def dN7 (s r:St)(j:Nat):List W32:=(s.l.zipWith (fun x y=>x+y) r.l).take j++s.l.drop j
@[simp] theorem dI5 (s r:St):dN7 s r 0=s.l:=rfl
section
variable {b:List UInt8}{j:Nat}(h0:64*j≤b.length)(h1:b.length<64*j+64)
include h0 h1
end
section
variable {b:List UInt8}{j:Nat}(h0:64*j≤b.length)(h1:b.length<64*j+64)
include h0 h1
end
@[simp] theorem dN2 (l:List UInt8):CV.agg (l.map u8)=us l:=rfl
def ob8 (s:St)(i:Nat):UInt8:=UInt8.ofNat ((gw s.l (i/4))>>>(24-8*(i%4))).toNat
def dN8 (s:St)(n:Nat):List UInt8:=itN (fun i l=>l.set i (ob8 s i)) n (uz 32)
@[simp] theorem dI6 (s:St):dN8 s 0=uz 32:=rfl
def dN9 (h:aI6):aK:=iV h.1
def kQ (d:Dig):aK:=[115,104,97,50,53,54,58]++iV d.1
theorem qM (d:Dig):(kQ d).length=71:=by rw[kQ,A3,kZ,d.2];rfl
theorem bX4 (l:List UInt8):jJ (l.map u8)=some l:=bytesC_map l
theorem tD (b:UInt8):jJ [CV.int .u8 b.toNat]=some [b]:=bytesC_map [b]
def fT (n:Int):aK:=Lib.itoa n
theorem cI2 {n:Int}(h: -9223372036854775808≤n∧n≤9223372036854775807):(fT n).length≤21:=Lib.itoa_length_le n h.1 h.2
theorem aN6 :fT 0=[48]:=by unfold fT Lib.itoa;rw[A7 (by omega)];simp[Lib.decDigits]
theorem aE2 {n:Int}(h:0≤n):fT n=Lib.decDigits n.natAbs:=by unfold fT Lib.itoa;rw[A7 (by omega)];congr 1;omega
theorem bB8 {n:Int}(h:n<0):fT n=45::Lib.decDigits n.natAbs:=by unfold fT Lib.itoa;rw[B1 h]
theorem cI3 {v:Nat}(h:v≠0):Lib.decDigits v=(if v/10=0 then []else Lib.decDigits (v/10))++[UInt8.ofNat (48+v%10)]:=by
 by_cases I:v<10
 · rw[Lib.decDigits,dif_pos I,B1 (by omega),show v%10=v by omega];rfl
 · rw[Lib.decDigits,dif_neg I,A7 (by omega)]
theorem aT6 {n:Int}(h:n<0)(I: -9223372036854775808≤n):IntKind.u64.wrap (-(IntKind.u64.wrap n))=(n.natAbs:Int):=by
 have e:IntKind.u64.wrap n=n+18446744073709551616:=by
  have:IntKind.u64.wrap n=n%18446744073709551616:=by simp[IntKind.wrap,IntKind.bits,IntKind.signed]
  rw[this];omega
 rw[e];have: ∀m:Int,IntKind.u64.wrap m=m%18446744073709551616:=fun m=>by simp[IntKind.wrap,IntKind.bits,IntKind.signed]
 rw[this];omega
theorem bP6 {n:Int}(h:0≤n)(I:n≤9223372036854775807):IntKind.u64.wrap n=(n.natAbs:Int):=by
 have:IntKind.u64.wrap n=n%18446744073709551616:=by simp[IntKind.wrap,IntKind.bits,IntKind.signed]
 rw[this];omega
theorem aE3 (v:Nat):IntKind.u8.wrap (IntKind.u64.wrap (48+Int.tmod (v:Int) 10))=((UInt8.ofNat (48+v%10)).toNat:Int):=by
 have J:Int.tmod (v:Int) 10=((v%10:Nat):Int):=rfl;have I:v%10<10:=Nat.mod_lt _ (by omega);rw[J];generalize v%10=r at I;rw[IntWalk.u64_in _ (by omega),K7 _ (by omega),V3,AG (by omega)];omega
theorem cU4 {v:Nat}(h:v<18446744073709551616):IntKind.u64.wrap (Int.tdiv (v:Int) 10)=((v/10:Nat):Int):=by
 rw[show Int.tdiv (v:Int) 10=((v/10:Nat):Int)from rfl,IntWalk.u64_in _ (by omega)]
theorem cI4 {u:Nat}(h:u<18446744073709551616):(Lib.decDigits u).length≤20:=by rw[Lib.decDigits_length];exact Lib.nDigits_le20 u h
inductive Av where
 |i (n:Int)
 |l (n:Int)
 |h (x:aI6)
 |d (x:Dig)
 |s (w:aK)
def Av.w :Av→aK
 | .i n=>fT n
 | .l n=>fT n
 | .h x=>dN9 x
 | .d x=>kQ x
 | .s w=>w
def Av.ok :Av→Prop
 | .i n=> -9223372036854775808≤n∧n≤9223372036854775807
 | .l n=> -9223372036854775808≤n∧n≤9223372036854775807
 |_=>True
def valL (c:UInt8):Nat:=if 48≤c.toNat∧c.toNat≤57 then c.toNat-48 else if 97≤c.toNat∧c.toNat≤102 then c.toNat-87 else 16
theorem bP7 (c:UInt8):valL c≤16:=by unfold valL;split<;>(try split)<;>omega
def bP8 :List UInt8:=[48,49,50,51,52,53,54,55,56,57,97,98,99,100,101,102]
set_option maxRecDepth 20000 in
theorem qN (c:UInt8):gE bP8 c=if valL c<16 then(valL c:Int)else-1:=by
 have h: ∀n:Fin 256,gE bP8 (UInt8.ofNat n.1)=if valL (UInt8.ofNat n.1)<16 then(valL (UInt8.ofNat n.1):Int)else-1:=by decide
 have:=h ⟨c.toNat,c.toNat_lt⟩;simpa only[CY]using this
def hX (s:aK)(i:Nat):UInt8:=s.getD (2*i) 0
def hY (s:aK)(i:Nat):UInt8:=s.getD (2*i+1) 0
def hB (s:aK)(i:Nat):UInt8:=UInt8.ofNat (16*valL (hX s i)+valL (hY s i))
def hOk (s:aK)(i:Nat):Bool:=decide (valL (hX s i)<16)&&decide (valL (hY s i)<16)
theorem cI5 (hx:valL (hX s i)<16)(I:valL (hY s i)<16):(hB s i).toNat=16*valL (hX s i)+valL (hY s i):=by
 unfold hB;rw[V3];omega
def dC (s:aK)(n:Nat):Option (List UInt8):=if s.length=2*n∧(List.range n).all (hOk s)=true then some ((List.range n).map (hB s))else none
def UhSt (s:aK)(n i:Nat)(l:List UInt8):Prop:=l.length=n∧i≤n∧l.take i=(List.range i).map (hB s)∧ ∀j,j<i→hOk s j=true
theorem UhSt.init (s:aK)(h:l.length=n):UhSt s n 0 l:=⟨h,I1 _,by simp,fun j I=>by omega⟩
theorem UhSt.next (h:UhSt s n i l)(hi:i<n)(hk:hOk s i=true):UhSt s n (i+1) (l.set i (hB s i)):=by
 obtain⟨J,h2,U,I⟩:=h;refine⟨by simpa using J,hi,?_,fun j hj=>?_⟩
 · rw[A5 (by rw[M5];omega),List.getElem_set_self,BR (E3 _),U,X9,C5];rfl
 ·
  rcases H4 j i with h'|h'
  · exact I j h'
  ·
   have:j=i:=by omega
   rw[this];exact hk
theorem UhSt.fin (h:UhSt s n n l)(hs:s.length=2*n):dC s n=some l:=by
 obtain⟨h1,h2,U,I⟩:=h;unfold dC;rw[B1 ⟨hs,by rw[G5];intro j J;exact I j (N5.1 J)⟩,←U,C8 (by omega)]
theorem UhSt.bad (_:UhSt s n i l)(hi:i<n)(I:hOk s i=false):dC s n=none:=by
 unfold dC;rw[A7];rintro⟨_,h⟩;have:=G5.1 h i (N5.2 hi);rw[I]at this;cases this
theorem tE (h:s.length≠2*n):dC s n=none:=by unfold dC;rw[A7 fun h'=>h h'.1]
theorem kT (h:dC s n=some l):l.length=n:=by
 unfold dC at h;split at h
 · cases h;simp
 · cases h
theorem cI6 (l:List UInt8):(l.map u8).all (fun v=>v.cells==1)=true:=by simp[G5,u8,CV.cells]
theorem xH (l:List UInt8):CV.cellsL (l.map u8)=l.length:=oR (fun _=>rfl) l
theorem bX5 (y:UInt8)(h:i<l.length):CV.setAtL i 1 (.c (.int .u8 (y.toNat:Int))) (l.map u8)=some (((l.set i y).map u8).map .c):=sZ (f:=u8) (fun _=>rfl) (fun _ _=>rfl) y l i h
def prefB (s p:aK):Bool:=decide (p.length≤s.length)&&(s.take p.length==p)
def dK2 (s:aK):Option aI6:=match h:dC s 16 with|some l=>some ⟨l,kT h⟩|none=>none
def shaW :aK:=[115,104,97,50,53,54,58]
def eZ (s:aK):Option Dig:=if prefB s shaW then match h:dC (s.drop 7) 32 with|some l=>some ⟨l,kT h⟩|none=>none else none
theorem xI (hp:prefB s shaW=true)(h:dC (s.drop 7) 32=some l)(hl:l.length=32):eZ s=some ⟨l,hl⟩:=by
 unfold eZ;rw[B1 hp];split
 · rename_i I h';rw[h]at h';cases h';rfl
 · rename_i h';rw[h]at h';cases h'
theorem oA (h:prefB s shaW=true→dC (s.drop 7) 32=none):eZ s=none:=by
 unfold eZ;split
 ·
  rename_i hp;split
  · rename_i I h';rw[h hp]at h';cases h'
  · rfl
 · rfl
theorem aN7 {e:Operand→HV}{K:HV→Prop}{n b:Nat}{d:TyD}:iU {size:=n,bytes:=b,d:=d,z:=zd} [] e K=K (.c zd):=by
 simp only[iU,zd,dg,hfill,hlift_some];rw[cS8]
def wd (l:List aK)(i:Nat):aK:=l.getD i []
def cI7 (l:List aK)(x:Rt):Option Rt:=
 if l.length=3 then match cU (wd l 2)with|some n=>some {x with q:=x.q++[⟨wd l 1,n⟩]}|none=>none else none
def dK3 (l:List aK)(x:Rt):Option Rt:=
 if l.length<6 then none else match cU (wd l 1),dK2 (wd l 2),cU (wd l 4),cU (wd l 5)with
  |some h,some r,some a,some b=>some {x with k:=x.k++[⟨⟨h,r⟩,wd l 3,l.drop 6,a,b⟩]}
  |_,_,_,_=>none
def dK4 (l:List aK)(x:Rt):Option Rt:=
 if l.length=3 then match eZ (wd l 1),cU (wd l 2)with|some d,some t=>some {x with x:=x.x++[⟨d,t⟩]}|_,_=>none else none
theorem tF (a b:aK): ∀p:List aK,cQ (p++[a,b])=if a==b then cQ (p++[a])else cQ (p++[a])++[b]
 |[]=>by
  simp only[J1,cQ];split
  · rename_i h;rw[eq_of_beq h]
  · rfl
 |[x]=>by
  have I:=tF a b [];simp only[J1]at I;simp only[J4,J1];have U:cQ (x::a::[b])=if x==a then cQ [a,b]else x::cQ [a,b]:=by rw[cQ]
  have J:cQ (x::a::[])=if x==a then cQ [a]else x::cQ [a]:=by rw[cQ]
  rw[U,J,I];by_cases h1:(x==a)=true<;>by_cases h2:(a==b)=true<;>simp[h1,h2]
 |x::y::p=>by
  have I:=tF a b (y::p);simp only[J4]at I⊢;have U:cQ (x::y::(p++[a,b]))=if x==y then cQ (y::(p++[a,b]))else x::cQ (y::(p++[a,b])):=by rw[cQ]
  have J:cQ (x::y::(p++[a]))=if x==y then cQ (y::(p++[a]))else x::cQ (y::(p++[a])):=by rw[cQ]
  rw[U,J,I];by_cases h1:(x==y)=true<;>by_cases h2:(a==b)=true<;>simp[h1,h2]
theorem tG {l:List aK}(U:1≤j)(h:j<l.length):cQ (l.take (j+1))=if l[j]==l[j-1]then cQ (l.take j)else cQ (l.take j)++[l[j]]:=by
 have I:l.take j=l.take (j-1)++[l[j-1]]:=by
  have:=A5 (show j-1<l.length by omega)
  rwa [show j-1+1=j by omega]at this
 rw[A5 h,I,H5];have:=tF l[j-1] l[j] (l.take (j-1));simp only[AW];rw[this];have J:(l[j-1]==l[j])=(l[j]==l[j-1]):=by rw[K5];simp only[I6];exact eq_comm
 rw[J]
theorem yT : ∀{l:List aK},l.length<2→cQ l=l
 |[],_=>rfl
 |[_],_=>rfl
 |_::_::_,h=>by simp at h;omega
variable {k:Nat}
theorem bK7 {l:List aK}(J:1≤k)(h:k<l.length)(I:(l[k]==l[k-1])=false)(U:cQ (l.take k)=l.take k):cQ (l.take (k+1))=l.take (k+1):=by
 rw[tG J h,I,U,A5 h];rfl
theorem bK8 {l:List aK}(I:1≤k)(h:k<l.length)(he:(l[k]==l[k-1])=true):cQ (l.take (k+1))=cQ (l.take k):=by
 rw[tG I h,he];rfl
theorem bX6 {l:List aK}(J:1≤k)(h:k<l.length)(I:(l[k]==l[k-1])=false):cQ (l.take (k+1))=cQ (l.take k)++[l[k]]:=by
 rw[tG J h,I];rfl
theorem dE6 (n:Nat):IntKind.u8.wrap (n:Int)=((UInt8.ofNat n).toNat:Int):=by
 rw[IntKind.wrap_u8,V3];omega
end Go.Pl
namespace Go.Hl
open Go Go.RowKit Go.Sort Go.Proofs
end Go.Hl
namespace Go.Pl
open Go Go.Hl
def rMid (r:Rt):Prop:=(r.q.length≤12∧ ∀q∈r.q,q.r.length≤300)∧(r.k.length≤32∧ ∀k∈r.k,k.o.length≤300∧k.rs.length≤30∧ ∀w∈k.rs,w.length≤300)∧r.x.length≤65
theorem rMid.sz {r:Rt}(h:rMid r):rSz r:=by
 obtain⟨⟨h1,J⟩,⟨h3,I⟩,h5⟩:=h;refine⟨⟨by omega,fun q U=>by have:=J q U;omega⟩,⟨by omega,fun k hk=>?_⟩,by omega⟩;obtain⟨k1,k2,k3⟩:=I k hk;exact⟨by omega,by omega,fun w hw=>by have:=k3 w hw;omega⟩
def aJ1 (j:Nat):aK:=([[113,117,111,116,97],[107,101,121],[114,101,118,111,107,101,100]]:List aK).getD j []
def aT7 (j:Nat)(l:List aK)(x:Rt):Option Rt:=if j=0 then cI7 l x else if j=1 then dK3 l x else dK4 l x
def aJ2 (j:Nat):List (List aK)→Rt→Option (List (List aK)×Rt)
 |[],x=>some ([],x)
 |l::ls,x=>if wd l 0=aJ1 j then match aT7 j l x with|some y=>aJ2 j ls y|none=>none else some (l::ls,x)
def rY :Nat→Nat→List (List aK)→Rt→Option (List (List aK)×Rt)
 |0,_,ls,x=>some (ls,x)
 |n+1,j,ls,x=>match aJ2 j ls x with|some (ls',y)=>rY n (j+1) ls' y|none=>none
section
variable {l0:List aK}{ls:List (List aK)}{x:Rt}
end
variable {x:Rt}{ls:List (List aK)}{j:Nat}
theorem cI8 {l:List aK}{y:Rt}(h:wd l 0=aJ1 j)(I:aT7 j l x=some y):aJ2 j (l::ls) x=aJ2 j ls y:=by
 rw[aJ2,B1 h,I]
theorem bX7 {l:List aK}(h:wd l 0=aJ1 j)(I:aT7 j l x=none):aJ2 j (l::ls) x=none:=by
 rw[aJ2,B1 h,I]
theorem bX8 {l:List aK}(h:wd l 0≠aJ1 j):aJ2 j (l::ls) x=some (l::ls,x):=by
 rw[aJ2,A7 h]
variable {n:Nat}
theorem cI9 {l:List aK}{y:Rt}(h:wd l 0=aJ1 j)(I:aT7 j l x=some y):rY (n+1) j (l::ls) x=rY (n+1) j ls y:=by grind[rY,cI8]
theorem bX9 {l:List aK}(h:wd l 0=aJ1 j)(I:aT7 j l x=none):rY (n+1) j (l::ls) x=none:=by grind[rY,bX7]
theorem bY0 {l:List aK}(h:wd l 0≠aJ1 j):rY (n+1) j (l::ls) x=rY n (j+1) (l::ls) x:=by
 simp only[rY,bX8 h]
theorem cJ0 :rY (n+1) j [] x=rY n (j+1) [] x:=by
 simp only[rY,aJ2]
def wOk (l:List aK):Prop:=l≠[]∧l.length≤120∧ ∀w∈l,w.length≤32768
variable {l:List aK}
theorem wOk.wd (h:wOk l)(i:Nat):(wd l i).length≤32768:=by
 unfold Pl.wd;rw[B4];rcases H4 i l.length with h'|h'
 · rw[A9 h'];exact h.2.2 _ (B5 h')
 grind
def rRead (m:Nat)(x:Rt):Prop:=x.q.length+x.k.length+x.x.length≤m∧(∀q∈x.q,q.r.length≤32768)∧ ∀k∈x.k,k.o.length≤32768∧k.rs.length≤120∧ ∀w∈k.rs,w.length≤32768
variable {m:Nat}
theorem bY1 {y:Rt}(hl:wOk l)(h:aT7 j l x=some y)(hx:rRead m x):rRead (m+1) y:=by
 obtain⟨h1,h2,U⟩:=hx;unfold aT7 at h;split at h
 ·
  unfold cI7 at h;split at h
  ·
   split at h
   ·
    cases h;refine⟨by grind,fun q J=>?_,U⟩;rcases D6.1 J with J|J
    · grind
    · simp only[E5]at J;subst J;exact hl.wd 1
   grind
  grind
 ·
  split at h
  ·
   unfold dK3 at h;split at h
   · cases h
   ·
    split at h
    ·
     cases h;refine⟨by grind,h2,fun k I=>?_⟩;rcases D6.1 I with I|I
     · exact U k I
     · simp only[E5]at I;subst I;exact⟨hl.wd 3,by show(l.drop 6).length≤120;rw[G8];have:=hl.2.1;omega,fun w hw=>hl.2.2 w (H8 hw)⟩
    grind
  ·
   unfold dK4 at h;split at h
   ·
    split at h
    · cases h;exact⟨by grind,h2,U⟩
    grind
   grind
theorem rRead.sz (h:rRead m x)(hm:m≤100000):rSz x:=by
 obtain⟨h1,h2,I⟩:=h;refine⟨⟨by omega,fun q hq=>by grind⟩,⟨by omega,fun k J=>?_⟩,by omega⟩;obtain⟨k1,U,k3⟩:=I k J;exact⟨by omega,by omega,fun w hw=>by grind⟩
def RtSt (ls0:List (List aK))(x0:Rt)(j:Nat)(rest:List (List aK))(x:Rt):Prop:=
 j≤3∧rY 3 0 ls0 x0=rY (3-j) j rest x∧(∀l∈rest,wOk l)∧rest.length≤ls0.length∧rRead (ls0.length-rest.length) x
section
variable {ls0 rest:List (List aK)}{x0 x:Rt}{j:Nat}{l:List aK}
theorem RtSt.init (h: ∀l∈ls0,wOk l)(hx:rRead 0 x0):RtSt ls0 x0 0 ls0 x0:=⟨by omega,rfl,h,E3 _,by grind⟩
theorem RtSt.hit {y:Rt}(h:RtSt ls0 x0 j (l::rest) x)(hj:j<3)(hw:wd l 0=aJ1 j)(I:aT7 j l x=some y):RtSt ls0 x0 j rest y:=by
 obtain⟨h1,h2,U,h4,J⟩:=h;obtain⟨n,hn⟩: ∃n,3-j=n+1:=⟨2-j,by omega⟩;simp only[A8]at h4 J;refine⟨h1,by rw[h2,hn,cI9 hw I],fun l hl=>U l (H2 _ hl),by omega,?_⟩;have:=bY1 (U l H9) I J;grind
theorem RtSt.fail (h:RtSt ls0 x0 j (l::rest) x)(J:j<3)(hw:wd l 0=aJ1 j)(I:aT7 j l x=none):rY 3 0 ls0 x0=none:=by
 obtain⟨n,hn⟩: ∃n,3-j=n+1:=⟨2-j,by omega⟩;rw[h.2.1,hn,bX9 hw I]
theorem RtSt.next (h:RtSt ls0 x0 j rest x)(hj:j<3)(hw: ∀l ls,rest=l::ls→wd l 0≠aJ1 j):RtSt ls0 x0 (j+1) rest x:=by
 obtain⟨h1,h2,h3,J,U⟩:=h;obtain⟨n,hn⟩: ∃n,3-j=n+1:=⟨2-j,by omega⟩;have I:3-(j+1)=n:=by omega
 refine⟨by omega,?_,h3,J,U⟩;rw[h2,hn,I];cases rest with
 |nil=>exact cJ0
 |cons l ls=>exact bY0 (hw l ls rfl)
theorem RtSt.fin (h:RtSt ls0 x0 3 rest x):rY 3 0 ls0 x0=some (rest,x):=by rw[h.2.1];rfl
end
variable {b:aK}
theorem zP : ∀l∈gT b,wOk l:=by
 intro l hl;unfold gT at hl;split at hl
 ·
  cases J:kF b with
  |none=>grind
  |some ls=>
   rw[J]at hl;simp only[E9]at hl;unfold kF at J;split at J
   · grind
   ·
    split at J
    ·
     have key: ∀{rs:List aK} {ls:List (List aK)},rs.mapM unR=some ls→ ∀l∈ls,okL l=true:=by
      intro rs;induction rs with
      |nil=>grind
      |cons r rs U=>
       intro ls h l hl;rw[K6]at h;cases I:unR r with
       |none=>grind
       |some a=>
        rw[I]at h;cases hm:rs.mapM unR with
        |none=>grind
        |some m=>
         rw[hm]at h;cases h;rcases E0.1 hl with rfl|hl
         ·
          unfold unR at I;split at I
          ·
           split at I
           · rename_i hk;cases I;exact hk
           · cases I
          · cases I
         · exact U hm l hl
     exact(eG l).1 (key J l hl)
    grind
 grind
theorem vD :(gT b).length≤1000:=by
 unfold gT;split
 · grind[eT,kF]
 · simp
theorem vE :zG=1099511627776:=rfl
theorem aE4 : ∀(a b:aK) (n m:Nat),gM a n=some m→gM (a++b) n=gM b m
 |[],b,n,m,h=>by simp only[gM,E8]at h;subst h;rfl
 |c::a,b,n,m,h=>by
  simp only[J4,gM]at h⊢;split at h
  · rename_i I;rw[B1 I];exact aE4 a b _ _ h
  · cases h
theorem bP9 {k:Nat}(h:k<10):mO (UInt8.ofNat (48+k))=true∧(UInt8.ofNat (48+k)).toNat-48=k:=by
 have e:(UInt8.ofNat (48+k)).toNat=48+k:=by simp;omega
 rw[mO,e];exact⟨by simp;omega,by omega⟩
theorem bK9 (u:Nat):gM (Lib.decDigits u) 0=some u:=by
 induction u using Nat.strongRecOn with
 |ind u ih=>
  rw[Lib.decDigits];split
  · rename_i h;obtain⟨J,I⟩:=bP9 h;simp only[gM,J,G4,I];simp
  · rw[aE4 _ _ 0 (u/10) (ih _ (by omega))];obtain⟨J,I⟩:=bP9 (k:=u%10) (by omega);simp only[gM,J,G4,I];congr 1;omega
theorem bQ0 : ∀(k u:Nat),u<10^(k+1)→(Lib.decDigits u).length≤k+1
 |0,u,h=>by rw[Lib.decDigits,dif_pos (by omega)];simp
 |k+1,u,h=>by
  rw[Lib.decDigits];split
  · simp
  · have:=bQ0 k (u/10) (by rw[Nat.pow_succ]at h;omega);simp only[A3,S7];omega
theorem cJ1 {u:Nat}(h:1≤u): ∃c l,Lib.decDigits u=c::l∧c≠48:=by
 induction u using Nat.strongRecOn with
 |ind u ih=>
  rw[Lib.decDigits];split
  · rename_i hu;refine⟨_,_,rfl,fun U=>?_⟩;have:=congrArg UInt8.toNat U;simp at this;omega
  · obtain⟨c,l,I,J⟩:=ih (u/10) (by omega) (by omega);exact⟨c,l++[UInt8.ofNat (48+u%10)],by rw[I];rfl,J⟩
theorem xJ {n:Int}(I:0≤n)(h1:n≤1099511627776):cU (fT n)=some n:=by
 rw[aE2 I];have U:=bK9 n.natAbs;have hl:=bQ0 12 n.natAbs (by omega);have hb:iA (Lib.decDigits n.natAbs)=false:=by
  unfold iA;by_cases hz:n.natAbs=0
  · rw[hz,Lib.decDigits_one (by omega)];simp
  ·
   obtain⟨c,l,J,h3⟩:=cJ1 (u:=n.natAbs) (by omega);rw[J]at hl⊢;have e:((c::l).getD 0 0==(48:UInt8))=false:=by simpa using h3
   rw[e,D7,E4,M4];exact⟨by simp,O8 (by omega)⟩
 rw[aT1 hb U (by omega)];congr 1;omega
theorem aE5 : ∀{k:Nat},k<16→valL (pG k)=k:=by
 have: ∀k:Fin 16,valL (pG k.1)=k.1:=by decide
 intro k h;exact this ⟨k,h⟩
theorem aN8 : ∀(bs:List UInt8) (i:Nat),(iV bs).getD (2*i) 0=(bs[i]?.map fun c=>pG (c.toNat/16)).getD 0∧(iV bs).getD (2*i+1) 0=(bs[i]?.map fun c=>pG (c.toNat%16)).getD 0
 |[],i=>by simp[iV]
 |c::bs,0=>by simp[iV,bJ9]
 |c::bs,i+1=>by
  have I:=aN8 bs i;have e:iV (c::bs)=pG (c.toNat/16)::pG (c.toNat%16)::iV bs:=rfl;rw[e,show 2*(i+1)=2*i+1+1 from by omega];simpa using I
theorem bL0 (bs:List UInt8):dC (iV bs) bs.length=some bs:=by
 have key: ∀i,(h:i<bs.length)→hX (iV bs) i=pG (bs[i].toNat/16)∧hY (iV bs) i=pG (bs[i].toNat%16):=fun i h=>by
  obtain⟨U,J⟩:=aN8 bs i;rw[A9 h]at U J;exact⟨U,J⟩
 have v: ∀i,(h:i<bs.length)→valL (hX (iV bs) i)=bs[i].toNat/16∧valL (hY (iV bs) i)=bs[i].toNat%16:=fun i h=>by
  have:=bs[i].toNat_lt;rw[(key i h).1,(key i h).2];exact⟨aE5 (by omega),aE5 (by omega)⟩
 have I:(List.range bs.length).all (hOk (iV bs))=true:=by
  rw[G5];intro i hi;have hi:=N5.1 hi;obtain⟨a,b⟩:=v i hi;have:=bs[i].toNat_lt;unfold hOk;rw[a,b];simp;omega
 unfold dC;rw[B1 ⟨kZ bs,I⟩];congr 1;refine List.ext_getElem (by simp) fun i U J=>?_;obtain⟨a,b⟩:=v i J;simp only[AL,CC,hB,a,b];have:=bs[i].toNat_lt;refine P7.1 ?_;rw[V3];omega
theorem vF (d:Dig):eZ (kQ d)=some d:=by
 obtain⟨l,hl⟩:=d;have:=bL0 l;rw[hl]at this;refine xI (l:=l) ?_ ?_ hl
 · simp[prefB,kQ,shaW,kZ]
 · simpa[kQ]using this
theorem bQ1 (h:jN ls=0):eT (jZ ls)=0∧gT (jZ ls)=ls:=by
 rw[uW h];unfold jN at h;split at h
 · cases h
 ·
  rename_i h1;split at h
  · rename_i l hl;have:=AS hl;simp only[N1]at this;exact absurd h (bP1 this)
  ·
   rename_i hn;split at h
   · cases h
   ·
    rename_i h2;have I: ∀l∈ls,okL l=true:=fun l hl=>by
     have:=CD.1 hn l hl;simpa using this
    have U:=bW9 I;have J:eT (dU ls)=0:=by unfold eT;rw[A7 h2,U];simp only;rw[A7 h1]
    exact⟨J,by unfold gT;rw[B1 J,U];rfl⟩
def vG (r:Pr):Bool:=fL r.a&&((bK0 r.b).isSome&&((bK0 r.c).isSome&&(inB r.g 0 zG&&eJ r.t)))
def pA :List Pr→Bool
 |[]=>true
 |r::l=>!(l.map Pr.a).contains r.a&&pA l
def cJ2 (p:Po):Bool:=fL p.n&&(inB p.v 1 zG&&(decide (p.r.length≤16)&&(p.r.all vG&&pA p.r)))
theorem yU (l:List Pr)(r:Pr):pA (l++[r])=(pA l&&!(l.map Pr.a).contains r.a):=by
 induction l with
 |nil=>simp[pA]
 |cons x l I=>
  simp only[J4,pA,I,C5,B8,F2,List.contains_append,List.contains_cons,CQ,E4];rw[show(x.a==r.a)=(r.a==x.a)from Bool.beq_comm];grind
def bY2 :aK:=[114,101,108,101,97,115,101,100]
def cJ3 :aK:=[99,104,97,105,110,101,100]
def bY3 :aK:=[97,112,112,114,111,118,101,100]
def cJ4 :aK:=[114,101,98,117,105,108,116]
def cU5 :aK:=[108,105,115,116,101,100]
def dE7 :aK:=[99,108,101,97,110]
def dE8 :aK:=[102,114,101,115,104]
def cJ5 :aK:=[115,101,116,116,108,101,100]
def dO0 :aK:=[97,108,108]
def dO1 :aK:=[97,110,121]
def cJ6 :aK:=[97,116,108,101,97,115,116]
def dE9 :aK:=[101,110,100]
def dK5 :aK:=[114,117,108,101]
def dF0 (w:List aK):Option Rq:=
 if w.length=2∧wd w 0=bY2 then(cU (wd w 1)).map (⟨1,·,0,[]⟩)
 else if w.length=2∧wd w 0=cJ3 then some ⟨2,0,0,wd w 1⟩
 else if w.length=2∧wd w 0=bY3 then(cU (wd w 1)).map (⟨3,·,0,[]⟩)
 else if w.length=3∧wd w 0=cJ4 then match cU (wd w 1),cU (wd w 2)with|some n,some m=>some ⟨4,n,m,[]⟩|_,_=>none
 else if w.length=2∧wd w 0=cU5 then(cU (wd w 1)).map (⟨5,·,0,[]⟩)
 else if w.length=2∧wd w 0=dE7 then(cU (wd w 1)).map (⟨6,·,0,[]⟩)
 else if w.length=2∧wd w 0=dE8 then(cU (wd w 1)).map (⟨7,·,0,[]⟩)
 else if w.length=1∧wd w 0=cJ5 then some ⟨8,0,0,[]⟩else none
def dF1 (w:List aK):Option Nd:=
 if w.length=1∧wd w 0=dO0 then some ⟨2,0,0,rq0⟩else if w.length=1∧wd w 0=dO1 then some ⟨3,0,0,rq0⟩
 else if w.length=2∧wd w 0=cJ6 then(cU (wd w 1)).map (⟨4,·,0,rq0⟩)else none
def cJ7 (w:List aK):Bool:=w.length==1&&wd w 0==dE9
mutual
def rdN :Nat→List (List aK)→Option (List Nd)×List (List aK)
 |0,ls=>(none,ls)
 |_+1,[]=>(none,[])
 |f+1,w::r=>match dF0 w with
  |some q=>(some [⟨1,0,0,q⟩],r)
  |none=>match dF1 w with
   |none=>(none,w::r)
   |some n=>match rdK f r with
    |(none,r')=>(none,r')
    |(some (ts,c),r')=>(some ({n with c:=c}::ts),r')
def rdK :Nat→List (List aK)→Option (List Nd×Int)×List (List aK)
 |0,ls=>(none,ls)
 |f+1,ls=>if cJ7 (ls.headD [])then(some ([],0),ls.tail)else match rdN f ls with
  |(none,r)=>(none,r)
  |(some t,r)=>match rdK f r with
   |(none,r')=>(none,r')
   |(some (ts,c),r')=>(some (t++ts,c+1),r')
end
def rdT (ls:List (List aK)):Option (List Nd)×List (List aK):=rdN (2*ls.length+2) ls
def rdR (ls:List (List aK)):Option Pr×List (List aK):=match ls with
 |[]=>(none,[])
 |w::r=>if w.length=5∧wd w 0=dK5 then match cU (wd w 4)with
   |none=>(none,w::r)
   |some g=>match rdT r with|(none,r')=>(none,r')|(some t,r')=>(some ⟨wd w 1,wd w 2,wd w 3,g,t⟩,r')
  else(none,w::r)
def cU6 :Nat→List (List aK)→List Pr→Option (List Pr)×List (List aK)
 |0,ls,_=>(none,ls)
 |f+1,ls,a=>if ls=[]then(some a,[])else match rdR ls with
  |(none,r)=>(none,r)
  |(some x,r)=>cU6 f r (a++[x])
theorem yV : ∀(t x r:List Nd) (m:Nat),skip m t=some r→skip m (t++x)=some (r++x)
 |t,x,r,0,h=>by grind[gW]
 |[],x,r,m+1,h=>by cases h
 |n::t,x,r,m+1,h=>by
  have h':skip (m+n.c.toNat) t=some r:=h;exact yV t x r _ h'
def wDer :aK:=[100,101,114,105,118,97,116,105,111,110]
def wOrg :aK:=[111,114,105,103,105,110]
def wDoc :aK:=[100,111,99]
def oB :aK:=[110,101,101,100]
def tH :aK:=[97,108,108]
def vH :aK:=[97,110,121]
def xK :aK:=[97,116,108,101,97,115,116]
def xL :aK:=[97,100,109,105,116]
def wordK (k:Int):aK:=if k=1 then oB else if k=2 then tH else if k=3 then vH else if k=4 then xK else if k=5 then xL else []
def iS (w:aK):Option Int:=if w=oB then some 1 else if w=tH then some 2 else if w=vH then some 3 else if w=xK then some 4 else if w=xL then some 5 else none
theorem pB {w:aK}{k:Int}:iS w=some k↔1≤k∧k≤5∧wordK k=w:=by
 unfold iS wordK;constructor
 · intro h;(repeat' split at h);all_goals first|(cases h;done)|(cases h;subst_vars;decide)
 ·
  rintro⟨U,J,I⟩;obtain h|h|h|h|h:k=1∨k=2∨k=3∨k=4∨k=5:=by omega
  all_goals subst h;subst I;decide
def fU (n:Int):Bool:=inB n 0 1099511627776
theorem eX (n:Int):fU n=true↔0≤n∧n≤1099511627776:=by simp[fU,inB]
def cP (x:Ln):Bool:=inB x.k 1 5&&fU x.n&&(if x.k=1 then x.f==[]else x.f.all fU&&x.d==[])
def firstL (x:Ln):List aK:=wordK x.k::fT x.n::x.f.map fT
def nH (d:Dig):List aK:=[wDoc,kQ d]
def eD (x:Ln):List (List aK):=firstL x::x.d.map nH
def lA (d:Dv):List (List aK):=[[wDer,d.q.n,d.q.i,kQ d.q.a,fT d.t,kQ d.p,fT d.r],[wOrg,kQ d.o.v,d.o.l,d.o.r]]
def fV (d:Dv):List (List aK):=lA d++d.l.flatMap eD
def jU (d:Dv):Bool:=fU d.t&&fU d.r&&d.l.all cP
def dvE (d:Dv):Int:=if jU d then jN (fV d)else 1
def dvO (d:Dv):aK:=if jU d then jZ (fV d)else []
variable {d:Dv}
theorem aT8 (h:dvE d=0):jU d=true∧jN (fV d)=0∧dvO d=jZ (fV d):=by
 unfold dvE at h;unfold dvO;split at h
 · rename_i hf;rw[B1 hf];exact⟨hf,h,rfl⟩
 · cases h
def og0 :Og:=⟨zdg,[],[]⟩
def qs0 :Qs:=⟨[],[],zdg⟩
def dv0 :Dv:=⟨qs0,0,zdg,0,og0,[]⟩
def fP (l:List aK):Option (List Int):=l.mapM cU
def fS (w:List aK):Option Ln:=
 match fP (w.drop 1)with
 |some (n::f)=>(iS (wd w 0)).bind fun k=>if k=1∧f≠[]then none else some ⟨k,n,[],f⟩
 |_=>none
def mD (x:Ln)(d:Dig):Ln:={x with d:=x.d++[d]}
def nI (ls:List Ln)(w:List aK):Option (List Ln):=
 match ls.getLast? with
 |some x=>if x.k=1∧w.length=2 then(eZ (wd w 1)).map fun d=>ls.dropLast++[mD x d]else none
 |none=>none
def dW (ls:List Ln)(w:List aK):Option (List Ln):=if wd w 0=wDoc then nI ls w else(fS w).map fun x=>ls++[x]
def wd' (ls:List (List aK))(i:Nat):List aK:=ls.getD i []
def iT (ls:List (List aK)):Option Dv:=
 if ls.length<2∨(wd' ls 0).length≠7∨wd (wd' ls 0) 0≠wDer∨(wd' ls 1).length≠4∨wd (wd' ls 1) 0≠wOrg then none
 else match eZ (wd (wd' ls 0) 3),eZ (wd (wd' ls 0) 5),eZ (wd (wd' ls 1) 1),cU (wd (wd' ls 0) 4),cU (wd (wd' ls 0) 6)with
  |some a,some p,some v,some t,some r=>some ⟨⟨wd (wd' ls 0) 1,wd (wd' ls 0) 2,a⟩,t,p,r,⟨v,wd (wd' ls 1) 2,wd (wd' ls 1) 3⟩,[]⟩
  |_,_,_,_,_=>none
def fZ (ls:List (List aK)):Option Dv:=(iT ls).bind fun d=>((ls.drop 2).foldlM dW []).map fun l=>{d with l:=l}
def gF (b:aK):Option Dv:=if eT b=0 then(fZ (gT b)).bind fun d=>if dvE d=0∧dvO d=b then some d else none else none
def ddE (b:aK):Int:=if eT b≠0 then eT b else if(gF b).isSome then 0 else 2
def ddO (b:aK):Dv:=(gF b).getD dv0
theorem aN9 : ∀{l:List Int},l.all fU=true→fP (l.map fT)=some l
 |[],_=>rfl
 |n::l,h=>by
  simp only[Q6,B3]at h;have J:=(eX n).1 h.1;have I:=aN9 h.2;unfold fP at I⊢;rw[B8,K6,xJ J.1 J.2,I];rfl
theorem bB9 {x:Ln}(h:cP x=true):fS (firstL x)=some {x with d:=[]}∧wd (firstL x) 0≠wDoc:=by
 simp only[cP,B3,inB,C4]at h;obtain⟨⟨⟨U,h2⟩,h3⟩,I⟩:=h;have J:iS (wordK x.k)=some x.k:=pB.2 ⟨U,h2,rfl⟩;have hn:((x.n::x.f).all fU)=true:=by
  rw[Q6,h3,B6];split at I
  · rw[I6]at I;rw[I];rfl
  · simp only[B3]at I;exact I.1
 have hm:=aN9 hn;constructor
 · have e:(firstL x).drop 1=(x.n::x.f).map fT:=rfl;unfold fS;rw[e,hm];show(iS (wordK x.k)).bind _=_;rw[J];simp only[J0];rw[A7 ?_];rintro⟨g1,g2⟩;rw[B1 g1,I6]at I;exact g2 I
 ·
  show wordK x.k≠wDoc;obtain h|h|h|h|h:x.k=1∨x.k=2∨x.k=3∨x.k=4∨x.k=5:=by omega
  all_goals rw[h];decide
theorem aO0 (ls:List Ln): ∀(I:List Dig) (x:Ln),x.k=1→(I.map nH).foldlM dW (ls++[x])=some (ls++[{x with d:=x.d++I}])
 |[],x,_=>by simp
 |d::I,x,hk=>by
  have e:dW (ls++[x]) (nH d)=some (ls++[mD x d]):=by
   unfold dW;rw[B1 (show wd (nH d) 0=wDoc from rfl)];unfold nI;rw[List.getLast?_concat];simp only[nH,A8,C0,hk];rw[B1 (by simp)];show(eZ (kQ d)).map _=_;rw[vF,BI];rfl
  rw[B8,P9,e];show(I.map nH).foldlM dW (ls++[mD x d])=_;rw[aO0 ls I (mD x d) hk];simp[mD]
theorem bC0 (ls:List Ln){x:Ln}(h:cP x=true):(eD x).foldlM dW ls=some (ls++[x]):=by
 obtain⟨h1,h2⟩:=bB9 h;have e:dW ls (firstL x)=some (ls++[{x with d:=[]}]):=by unfold dW;rw[A7 h2,h1];rfl
 rw[eD,P9,e];show(x.d.map nH).foldlM dW (ls++[{x with d:=[]}])=_;by_cases U:x.k=1
 · rw[aO0 ls x.d {x with d:=[]} U];simp
 ·
  have J:x.d=[]:=by
   simp only[cP,B3]at h;have I:=h.2;rw[A7 U]at I;simp only[B3,I6]at I;exact I.2
  rw[J];cases x;subst J;rfl
theorem aO1 : ∀{l:List Ln} (ls:List Ln),l.all cP=true→(l.flatMap eD).foldlM dW ls=some (ls++l)
 |[],ls,_=>by simp
 |x::l,ls,h=>by
  simp only[Q6,B3]at h;rw[G3,S2,bC0 ls h.1];show(l.flatMap eD).foldlM dW (ls++[x])=_;rw[aO1 _ h.2];simp
theorem cJ8 (h:jU d=true):fZ (fV d)=some d:=by
 simp only[jU,B3]at h;have I:=(eX _).1 h.1.1;have J:=(eX _).1 h.1.2;have U:iT (fV d)=some {d with l:=[]}:=by
  unfold iT;have e0:wd' (fV d) 0=[wDer,d.q.n,d.q.i,kQ d.q.a,fT d.t,kQ d.p,fT d.r]:=rfl;have e1:wd' (fV d) 1=[wOrg,kQ d.o.v,d.o.l,d.o.r]:=rfl;rw[e0,e1,A7]
  ·
   show(match eZ (kQ d.q.a),eZ (kQ d.p),eZ (kQ d.o.v),cU (fT d.t),cU (fT d.r)with
    |some a,some p,some v,some t,some r=>some (⟨⟨d.q.n,d.q.i,a⟩,t,p,r,⟨v,d.o.l,d.o.r⟩,[]⟩:Dv)
    |_,_,_,_,_=>none)=_
   rw[vF,vF,vF,xJ I.1 I.2,xJ J.1 J.2]
  · simp only[fV,lA,A3,A8,C0,wd,M9,AD,CR,N6];omega
 unfold fZ;rw[U,J0];have e2:(fV d).drop 2=d.l.flatMap eD:=rfl;rw[e2,aO1 [] h.2];simp
theorem bC1 (h:dvE d=0)(hb:dvO d=b):gF b=some d∧ddE b=0∧ddO b=d:=by
 obtain⟨h1,h2,U⟩:=aT8 h;obtain⟨J,e2⟩:=bQ1 h2;have I:b=jZ (fV d):=by rw[←hb,U]
 have e:gF b=some d:=by
  unfold gF;rw[I,B1 J,e2,cJ8 h1,J0,B1 ⟨h,U⟩]
 exact⟨e,by rw[ddE,e,I,J];rfl,by rw[ddO,e];rfl⟩
def kG (w:List aK):Option Ln:=
 match fP (w.drop 1)with
 |some (n::f)=>(iS (wd w 0)).map fun k=>⟨k,n,[],f⟩
 |_=>none
def jF (ls:List Ln)(w:List aK):Option (List Ln):=if wd w 0=wDoc then nI ls w else(kG w).map fun x=>ls++[x]
def headF (ls:List (List aK)):Dv:=⟨⟨wd (wd' ls 0) 1,wd (wd' ls 0) 2,(eZ (wd (wd' ls 0) 3)).getD zdg⟩,(cU (wd (wd' ls 0) 4)).getD 0,(eZ (wd (wd' ls 0) 5)).getD zdg,(cU (wd (wd' ls 0) 6)).getD 0,⟨(eZ (wd (wd' ls 1) 1)).getD zdg,wd (wd' ls 1) 2,wd (wd' ls 1) 3⟩,[]⟩
def vI (ls:List (List aK)):Option Dv:=if ls.length<2∨(wd' ls 0).length≠7∨(wd' ls 1).length≠4 then none else((ls.drop 2).foldlM jF []).map fun l=>{headF ls with l:=l}
variable {w:List aK}
theorem cU7 {x:Ln}(h:fS w=some x):kG w=some x:=by
 unfold fS at h;unfold kG;split at h
 ·
  cases I:iS (wd w 0)with
  |none=>rw[I]at h;cases h
  |some k=>
   rw[I]at h;simp only[J0]at h;split at h
   · cases h
   · simpa using h
 · cases h
variable {I:List Ln}
theorem cU8 {ls:List Ln}(h:dW ls w=some I):jF ls w=some I:=by
 unfold dW at h;unfold jF;split at h
 · rename_i hw;rw[B1 hw];exact h
 ·
  rename_i hw;rw[A7 hw];cases hx:fS w with
  |none=>rw[hx]at h;cases h
  |some x=>rw[hx]at h;rw[cU7 hx];exact h
theorem bQ2 : ∀{ws:List (List aK)} {ls I:List Ln},ws.foldlM dW ls=some I→ws.foldlM jF ls=some I
 |[],ls,I,h=>h
 |w::ws,ls,I,h=>by
  rw[P9]at h⊢;cases hx:dW ls w with
  |none=>rw[hx]at h;cases h
  |some x=>rw[hx]at h;rw[cU8 hx];exact bQ2 h
theorem cU9 (h:fZ ls=some d):vI ls=some d:=by
 unfold fZ at h;unfold vI;cases I:iT ls with
 |none=>rw[I]at h;cases h
 |some x=>
  rw[I,J0]at h;unfold iT at I;split at I
  · cases I
  ·
   rename_i hc;rw[A7 (by grind)];split at I
   ·
    rename_i h1 h2 h3 J U;cases I;cases hf:(ls.drop 2).foldlM dW []with
    |none=>rw[hf]at h;cases h
    |some l=>
     rw[hf]at h;rw[bQ2 hf];simp only[I2]at h⊢;rw[←h,headF,h1,h2,h3,J,U];rfl
   · cases I
def ddF (b:aK):Option Dv:=if eT b=0 then(vI (gT b)).bind fun d=>if dvE d=0∧dvO d=b then some d else none else none
theorem dF2 (b:aK):ddF b=gF b:=by
 cases h:gF b with
 |some d=>
  unfold gF at h;unfold ddF;split at h
  ·
   rename_i he;rw[B1 he];cases J:fZ (gT b)with
   |none=>rw[J]at h;cases h
   |some x=>rw[J]at h;rw[cU9 J];exact h
  · cases h
 |none=>
  cases I:ddF b with
  |none=>rfl
  |some d=>
   have:dvE d=0∧dvO d=b:=by
    unfold ddF at I;split at I
    ·
     cases J:vI (gT b)with
     |none=>rw[J]at I;cases I
     |some x=>
      rw[J,J0]at I;split at I
      · rename_i hx;cases I;exact hx
      · cases I
    · cases I
   rw[(bC1 this.1 this.2).1]at h;cases h
def RunD (f:List Ln→List aK→Option (List Ln))(ws:List (List aK))(i:Nat)(st:List Ln):Prop:=(ws.take i).foldlM f []=some st
variable {ws:List (List aK)}{f:List Ln→List aK→Option (List Ln)}
theorem RunD.init :RunD f ws 0 []:=rfl
variable {st:List Ln}{i:Nat}
theorem RunD.next (h:RunD f ws i st)(hi:i<ws.length)(hs:f st ws[i]=some I):RunD f ws (i+1) I:=by
 unfold RunD at h⊢;rw[A5 hi,S2,h];show [ws[i]].foldlM f st=_;rw[P9,hs];rfl
theorem RunD.bad (h:RunD f ws i st)(hi:i<ws.length)(hs:f st ws[i]=none):ws.foldlM f []=none:=by
 unfold RunD at h;rw[←List.take_append_drop i ws,S2,h,F5 hi];show(ws[i]::ws.drop (i+1)).foldlM f st=_;rw[P9,hs];rfl
theorem RunD.fin (h:RunD f ws ws.length st):ws.foldlM f []=some st:=by
 unfold RunD at h
 rwa [C6]at h
end Go.Pl
namespace Go.Proofs.YthedbjfipmkpiaaGreatDoor
open Go Go.Hl Go.Pl Go.RowKit Go.Shelf
def cV0 :Go.Shelf.Ren:=⟨fun|173=>81|246=>110|283=>135|284=>136|285=>137|286=>138|129=>121|317=>161|318=>162|319=>163|320=>164|337=>174|338=>175|n=>n,fun|2=>2|3=>3|9=>9|4=>4|171=>180|0=>0|53=>135|37=>52|5=>5|173=>182|212=>199|51=>168|20=>20|213=>200|46=>72|232=>43|233=>213|n=>n,fun|17=>1|18=>4|19=>5|n=>n⟩
theorem dF3 :Go.Proofs.LaysM.n173 Tryz.prog cV0:={
  mixed:=by kernel_rfl
  f129:=Tryz.func121.trans (congrArg some (by kernel_rfl))
  f173:=Tryz.func81.trans (congrArg some (by kernel_rfl))
  f246:=Tryz.func110.trans (congrArg some (by kernel_rfl))
  f283:=Tryz.func135.trans (congrArg some (by kernel_rfl))
  f284:=Tryz.func136.trans (congrArg some (by kernel_rfl))
  f285:=Tryz.func137.trans (congrArg some (by kernel_rfl))
  f286:=Tryz.func138.trans (congrArg some (by kernel_rfl))
  f317:=Tryz.func161.trans (congrArg some (by kernel_rfl))
  f318:=Tryz.func162.trans (congrArg some (by kernel_rfl))
  f319:=Tryz.func163.trans (congrArg some (by kernel_rfl))
  f320:=Tryz.func164.trans (congrArg some (by kernel_rfl))
  f337:=Tryz.func174.trans (congrArg some (by kernel_rfl))
  f338:=Tryz.func175.trans (congrArg some (by kernel_rfl))
  t0:=Tryz.underlying0
  a0:=Tryz.isAgg0
  z0:=Tryz.sizeOf0
  v0:=Tryz.zeroValue0
  t2:=Tryz.underlying2
  a2:=Tryz.isAgg2
  z2:=Tryz.sizeOf2
  v2:=Tryz.zeroValue2
  t3:=Tryz.underlying3
  a3:=Tryz.isAgg3
  z3:=Tryz.sizeOf3
  v3:=Tryz.zeroValue3
  t4:=Tryz.underlying4
  a4:=Tryz.isAgg4
  z4:=Tryz.sizeOf4
  v4:=Tryz.zeroValue4
  t5:=Tryz.underlying5
  a5:=Tryz.isAgg5
  z5:=Tryz.sizeOf5
  v5:=Tryz.zeroValue5
  t9:=Tryz.underlying9
  a9:=Tryz.isAgg9
  z9:=Tryz.sizeOf9
  v9:=Tryz.zeroValue9
  t20:=Tryz.underlying20
  a20:=Tryz.isAgg20
  z20:=Tryz.sizeOf20
  v20:=Tryz.zeroValue20
  t37:=Tryz.underlying52
  a37:=Tryz.isAgg52
  z37:=Tryz.sizeOf52
  v37:=Tryz.zeroValue52
  t46:=Tryz.underlying72
  a46:=Tryz.isAgg72
  z46:=Tryz.sizeOf72
  v46:=Tryz.zeroValue72
  t51:=Tryz.underlying168
  a51:=Tryz.isAgg168
  z51:=Tryz.sizeOf168
  v51:=Tryz.zeroValue168
  t53:=Tryz.underlying135
  a53:=Tryz.isAgg135
  z53:=Tryz.sizeOf135
  v53:=Tryz.zeroValue135
  t171:=Tryz.underlying180
  a171:=Tryz.isAgg180
  z171:=Tryz.sizeOf180
  v171:=Tryz.zeroValue180
  t173:=Tryz.underlying182
  a173:=Tryz.isAgg182
  z173:=Tryz.sizeOf182
  v173:=Tryz.zeroValue182
  t212:=Tryz.underlying199
  a212:=Tryz.isAgg199
  z212:=Tryz.sizeOf199
  v212:=Tryz.zeroValue199
  t213:=Tryz.underlying200
  a213:=Tryz.isAgg200
  z213:=Tryz.sizeOf200
  t232:=Tryz.underlying43
  a232:=Tryz.isAgg43
  z232:=Tryz.sizeOf43
  v232:=Tryz.zeroValue43
  t233:=Tryz.underlying213
  a233:=Tryz.isAgg213
  z233:=Tryz.sizeOf213
  v233:=Tryz.zeroValue213
  g17:=by kernel_rfl
  g18:=by kernel_rfl
  g19:=by kernel_rfl
  i0:=by kernel_rfl
  i2:=by kernel_rfl
  i3:=by kernel_rfl
  i4:=by kernel_rfl
  i5:=by kernel_rfl
  i9:=by kernel_rfl
  i20:=by kernel_rfl
  i37:=by kernel_rfl
  i46:=by kernel_rfl
  i51:=by kernel_rfl
  i53:=by kernel_rfl
  i171:=by kernel_rfl
  i173:=by kernel_rfl
  i212:=by kernel_rfl
  i232:=by kernel_rfl
  i233:=by kernel_rfl
  m17:=by kernel_rfl
  m18:=by kernel_rfl
  m19:=by kernel_rfl}
theorem aT9 :Tryz.prog.globalNamed "internal/strconv.uint64pow10" =some 1:=by kernel_rfl
def tabs :qC:=[(1,Lib.pow10Tab.map fun z=>Value.int .u64 z)]
theorem bY4 (n:Int)(h: -9223372036854775808≤n∧n≤9223372036854775807):qD Tryz.prog 81 tabs [.int .i64 n,.int .i64 10] (fun v=>v= .str (fT n)):=
  bJ5 (by kernel_rfl) aT9 (H9) (fun w hw=>Any.strconv_FormatInt_10 dF3 n h.1 h.2 w hw)
end Go.Proofs.YthedbjfipmkpiaaGreatDoor
