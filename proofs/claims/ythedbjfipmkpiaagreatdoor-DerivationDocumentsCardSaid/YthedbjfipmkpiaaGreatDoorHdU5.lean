/- Part of a proof: walks of functions of the program, by contracts, and the rules they use. By an AI agent. -/
import Derived.Test.YthedbjfipmkpiaaGreatDoorPl03
import Derived.Test.YthedbjfipmkpiaaGreatDoorPl31
import Derived.Lib.ItoaLen
import Derived.Test.YthedbjfipmkpiaaGreatDoorHdSb
import Derived.Sort.Grow
import Derived.Sort.EncStr
import Derived.Shelf.LaysM
import Derived.Shelf.Strconv.Itoa4
set_option linter.unusedSimpArgs false
set_option linter.unusedVariables false
set_option linter.defProp false
namespace Go.Pl
open Go Go.Hl
variable {l:List UInt8}{c:UInt8}
theorem aT8 (h:(bJ c l).length=1):bJ c l=[l]:=by
 by_cases hn:fS l c<0;all_goals grind[qR,iK,List.length_pos_iff,gM,List.length_cons]
def SplSt (l:aH)(c:UInt8)(i:Nat)(rest:aH)(a:List aH):Prop:=
 a.length=(bJ c l).length∧a.take i=(bJ c l).take i∧(bJ c l).drop i=bJ c rest∧i<(bJ c l).length∧rest.length≤l.length
section
variable {l rest:aH}{c:UInt8}{i k:Nat}{a:List aH}
theorem SplSt.init (l:aH)(c:UInt8):SplSt l c 0 l (List.replicate (bJ c l).length []):=
 ⟨by simp,by simp,rfl,List.length_pos_iff.2 (gM c l),Nat.le_refl _⟩
theorem SplSt.next (h:SplSt l c i rest a)(hk:fS rest c=(k:Int)):k<rest.length∧SplSt l c (i+1) (rest.drop (k+1)) (a.set i (rest.take k)):=by
 obtain⟨h1,h2,h3,h4,h5⟩:=h;obtain⟨k',e1,e2,e3⟩:=iK (l:=rest) (c:=c) (by omega);have:k'=k:=by omega
 subst this;rw[e3]at h3;have h6:=List.drop_eq_getElem_cons h4;rw[h6]at h3;have h7:=List.head_eq_of_cons_eq h3;have h8:=List.tail_eq_of_cons_eq h3;refine⟨e2,by grind,?_,h8,?_,by grind⟩
 · rw[List.take_succ_eq_append_getElem (by grind),List.take_succ_eq_append_getElem h4,List.getElem_set_self,List.take_set_of_le (Nat.le_refl _),h2,h7]
 grind[Nat.lt_or_ge,bJ,List.drop_eq_nil_of_le,absurd,gM]
theorem SplSt.last (h:SplSt l c i rest a)(hk:fS rest c<0):i+1=(bJ c l).length:=by
 obtain⟨h1,h2,h3,h4,h5⟩:=h;rw[qR hk]at h3;have:=congrArg List.length h3;grind
theorem SplSt.fin (h:SplSt l c i rest a)(hi:i+1=(bJ c l).length):a.set i rest=bJ c l:=by
 obtain⟨h1,h2,h3,h4,h5⟩:=h;have h6:(bJ c rest).length=1:=by rw[←h3,List.length_drop];omega
 rw[aT8 h6]at h3;have e1:a.set i rest=(a.set i rest).take (i+1):=(List.take_of_length_le (by grind)).symm;rw[e1,List.take_succ_eq_append_getElem (by grind),List.getElem_set_self,List.take_set_of_le (Nat.le_refl _),h2];grind[List.take_append_drop,bJ]
end
def pJ (c:UInt8):Bool:=decide (48≤c.toNat)&&decide (c.toNat≤57)
def eS :aH→Nat→Option Nat
 |[],n=>some n
 |c::l,n=>if pJ c then eS l (10*n+(c.toNat-48))else none
def iM (s:aH):Bool:=decide (s.length<1)||decide (13<s.length)||(decide (1<s.length)&&s.getD 0 0==48)
def dK (s:aH):Option Int:=if iM s then none else match eS s 0 with|some n=>if 1099511627776<n then none else some (n:Int)|none=>none
def DgSt (s:aH)(i n:Nat):Prop:=i≤s.length∧eS s 0=eS (s.drop i) n∧n<10^i
theorem DgSt.init (s:aH):DgSt s 0 0:=⟨Nat.zero_le _,rfl,by omega⟩
variable {i n:Nat}{s:aH}
theorem DgSt.next (h:DgSt s i n)(hi:i<s.length)(hd:pJ s[i]=true):DgSt s (i+1) (10*n+(s[i].toNat-48)):=by
 obtain⟨h1,h2,h3⟩:=h;refine⟨hi,?_,?_⟩
 · rw[h2,List.drop_eq_getElem_cons hi,eS,if_pos hd]
 · simp only[pJ,Bool.and_eq_true,decide_eq_true_eq]at hd;grind
theorem DgSt.bad (h:DgSt s i n)(hi:i<s.length)(hd:pJ s[i]=false):eS s 0=none:=by
 rw[h.2.1,List.drop_eq_getElem_cons hi,eS,if_neg (by grind)]
theorem DgSt.fin (h:DgSt s i n)(hi:i=s.length):eS s 0=some n:=by
 rw[h.2.1,hi,List.drop_length];rfl
theorem DgSt.lt (h:DgSt s i n)(hs:s.length≤13):n<10000000000000:=by
 have:10^i≤10^13:=Nat.pow_le_pow_right (by omega) (Nat.le_trans h.1 hs);have:=h.2.2;omega
theorem wQ (h:iM s=true):dK s=none:=by unfold dK;grind
theorem zO (h:eS s 0=none):dK s=none:=by grind[dK]
theorem bP5 (h:eS s 0=some n)(h1:1099511627776<n):dK s=none:=by simp_all[dK,if_pos]
theorem aY9 {n:Nat}(h0:iM s=false)(h:eS s 0=some n)(h1: ¬1099511627776<n):dK s=some (n:Int):=by simp_all[dK,if_neg]
theorem bP6 (c:UInt8):pJ c=(decide ((48:Int)≤(c.toNat:Int))&&decide ((c.toNat:Int)≤57)):=by
 unfold pJ;grind
theorem iD {n:Int}(h:dK s=some n):0≤n∧n≤1099511627776:=by grind[dK]
theorem tS (c:UInt8): ∀m:aH,bJ c (m++[c])=bJ c m++[[]]
 |[]=>by simp[bJ]
 |b::m=>by
  have ih:=tS c m;simp only[List.cons_append];rw[bJ,bJ];by_cases h:b=c
  · grind
  · rw[if_neg h,if_neg h,ih];grind[bJ,absurd,gM]
def qT (c:UInt8):List aH→aH
 |[]=>[]
 |w::l=>w++l.flatMap fun v=>c::v
theorem tT {c:UInt8}: ∀{w:aH},(∀b∈w,b≠c)→bJ c w=[w]
 |[],_=>rfl
 |b::w,h=>by
  rw[bJ,if_neg (h b List.mem_cons_self),tT fun x hx=>h x (List.mem_cons_of_mem _ hx)]
theorem wR {c:UInt8}{r:aH}: ∀{w:aH},(∀b∈w,b≠c)→bJ c (w++c::r)=w::bJ c r
 |[],_=>by simp only[List.nil_append];rw[bJ,if_pos rfl]
 |b::w,h=>by
  simp only[List.cons_append];rw[bJ,if_neg (h b List.mem_cons_self),wR fun x hx=>h x (List.mem_cons_of_mem _ hx)]
theorem nB {c:UInt8}: ∀{l:List aH},l≠[]→(∀w∈l,∀b∈w,b≠c)→bJ c (qT c l)=l
 |[],h,_=>absurd rfl h
 |[w],_,h=>by grind[qT,tT,List.mem_cons_self]
 |w::v::l,_,h=>by
  have ih:=nB (c:=c) (l:=v::l) (by simp) fun x hx=>h x (List.mem_cons_of_mem _ hx);grind[qT,wR,List.mem_cons_self]
set_option maxRecDepth 20000 in
theorem zP {n:Nat}(h:n<16):valH (pG n)=n:=by
 have key: ∀n:Fin 16,valH (pG n.1)=n.1:=by decide
 exact key ⟨n,h⟩
theorem aT9 (h:dV c=true):mE c=[c]:=by unfold mE;grind
theorem zQ : ∀w:aH,unB (dF w)=some w
 |[]=>rfl
 |c::w=>by
  have ih:=zQ w;have e:dF (c::w)=mE c++dF w:=by simp[dF]
  rw[e];by_cases hp:dV c=true
  · grind[aT9,zM]
  ·
   have hp:dV c=false:=by simpa using hp
   have hlt:=c.toNat_lt;have h1:valH (pG (c.toNat/16))=c.toNat/16:=zP (by omega);have h2:valH (pG (c.toNat%16))=c.toNat%16:=zP (by omega);have hb:byteH (pG (c.toNat/16)) (pG (c.toNat%16))=c:=by
    unfold byteH;rw[h1,h2,Nat.div_add_mod];exact UInt8.ofNat_toNat
   have ho:okH (pG (c.toNat/16)) (pG (c.toNat%16))=true:=by
    simp only[okH,hb,hp,h1,h2,Bool.and_eq_true,decide_eq_true_eq,Bool.not_false,and_true];omega
   grind[mE,pG,aY8]
variable {b:UInt8}
theorem zR (h:b∈mE c):b≠10∧b≠32∧b≠126:=by
 unfold mE at h;split at h
 · rename_i hp;simp only[List.mem_singleton]at h;subst h;refine⟨?_,?_,?_⟩<;>(rintro rfl;revert hp;decide)
 ·
  have key: ∀n:Nat,pG n≠10∧pG n≠32∧pG n≠126:=by
   intro n;unfold pG;rcases Nat.lt_or_ge n 16 with hn|hn
   ·
    have: ∀n:Fin 16,([48,49,50,51,52,53,54,55,56,57,65,66,67,68,69,70]:List UInt8).getD n.1 0≠10∧([48,49,50,51,52,53,54,55,56,57,65,66,67,68,69,70]:List UInt8).getD n.1 0≠32∧([48,49,50,51,52,53,54,55,56,57,65,66,67,68,69,70]:List UInt8).getD n.1 0≠126:=by decide
    exact this ⟨n,hn⟩
   · simp_all
  grind
theorem sO {w:aH}(h:b∈lS w):b≠10∧b≠32:=by
 unfold lS at h;split at h
 · grind
 · obtain⟨c,_,hc⟩:=List.mem_flatMap.1 h;grind[zR]
theorem bP7 (w:aH):unW (lS w)=some w:=by
 unfold lS;split
 · rename_i h;subst h;rfl
 ·
  rename_i h;have hne:dF w≠[]:=by
   intro he;have:=aL4 w;rw[he]at this;exact h (List.eq_nil_of_length_eq_zero (by grind))
  have h126:dF w≠[126]:=by
   intro he;have hm:(126:UInt8)∈dF w:=by rw[he];simp
   obtain⟨c,_,hc⟩:=List.mem_flatMap.1 hm;exact(zR hc).2.2 rfl
  simp_all[unW,if_neg,zQ]
theorem bF7 (l:List aH):iY l=qT 32 (l.map lS):=by
 cases l with
 |nil=>rfl
 |cons w l=>simp[iY,qT,List.flatMap_map]
theorem zS : ∀l:List aH,(l.map lS).mapM unW=some l
 |[]=>rfl
 |w::l=>by rw[List.map_cons,List.mapM_cons,bP7,zS l];rfl
theorem bP8 {l:List aH}(h:l≠[]):unL (iY l)=some l:=by
 unfold unL;rw[bF7,nB (by simp_all) (by
  intro w hw b hb;obtain⟨v,_,rfl⟩:=List.mem_map.1 hw;exact(sO hb).2),zS]
theorem bF8 {l:List aH}(h:b∈iY l):b≠10:=by
 cases l with
 |nil=>simp at h
 |cons w l=>
  simp only[iY,List.mem_append,List.mem_flatMap]at h;rcases h with h|⟨v,_,h⟩
  · exact(sO h).1
  · rcases List.mem_cons.1 h with rfl|h;all_goals grind[sO]
variable {ls:List (List aH)}
theorem bF9 (h:ls≠[]):iZ ls=qT 10 (ls.map iY)++[10]:=by
 cases ls with
 |nil=>grind
 |cons l ls=>
  have key: ∀(l:List aH) (ls:List (List aH)),iZ (l::ls)=qT 10 ((l::ls).map iY)++[10]:=by
   intro l ls;induction ls generalizing l with
   |nil=>simp[iZ,qT,aL5]
   |cons k ls ih=>
    grind[iZ,aL5,qT]
  grind
theorem bG0 (m:aH):iB (m++[10])=(bJ 10 m).mapM unR:=by simp_all[tS,iB,if_neg,if_pos,List.dropLast_concat]
theorem bG1 (h: ∀l∈ls,okL l=true):iB (iZ ls)=some ls:=by
 by_cases hne:ls=[]
 · subst hne;simp[iB]
 ·
  rw[bF9 hne,bG0,nB (by simpa using hne) (by
   intro w hw b hb;obtain⟨l,_,rfl⟩:=List.mem_map.1 hw;exact bF8 hb)]
  clear hne;induction ls with
  |nil=>rfl
  |cons l ls ih=>
   have hl:=h l List.mem_cons_self;have hr:unR (iY l)=some l:=by
    unfold unR;rw[bP8 ((kH l).1 hl).1];simp only[hl,if_true]
   rw[List.map_cons,List.mapM_cons,hr,ih fun x hx=>h x (List.mem_cons_of_mem _ hx)];rfl
theorem pK : ∀(l:List aH) (a:List aH),Asc a→Asc (l.foldl mD a)∧ ∀w,w∈l.foldl mD a↔w∈a∨w∈l
 |[],a,h=>⟨h,fun w=>by simp⟩
 |x::l,a,h=>by
  obtain⟨h1,h2⟩:=pK l (mD a x) (bM8 h x);refine⟨h1,fun w=>?_⟩;rw[List.foldl_cons,h2,bM7,List.mem_cons];constructor
  ·
   rintro((h|h)|h)
   · exact .inl h
   · exact .inr (.inl h)
   · exact .inr (.inr h)
  ·
   rintro(h|h|h)
   · exact .inl (.inl h)
   · exact .inl (.inr h)
   · exact .inr h
theorem bP9 (l:List aH):Asc (iV l):=(pK l [] List.Pairwise.nil).1
theorem bQ0 {l:List aH}{w:aH}:w∈iV l↔w∈l:=by
 have:=(pK l [] List.Pairwise.nil).2 w;simpa[iV]using this
def cH :List aH→List aH
 |a::b::l=>if a==b then cH (b::l)else a::cH (b::l)
 |l=>l
theorem sQ : ∀{l:List aH} {w:aH},w∈cH l↔w∈l
 |[],w=>by simp[cH]
 |[a],w=>by simp[cH]
 |a::b::l,w=>by
  have ih:=sQ (l:=b::l) (w:=w);simp only[cH];split
  ·
   rename_i h;have:a=b:=by simpa using h
   subst this;rw[ih];simp
  · rw[List.mem_cons,ih,List.mem_cons (b:=a)]
theorem zT : ∀{l:List aH},l.Pairwise (· ≤·)→Asc (cH l)
 |[],_=>List.Pairwise.nil
 |[a],_=>by simp[cH,Asc]
 |a::b::l,h=>by
  obtain⟨h1,h2⟩:=List.pairwise_cons.1 h;have ih:=zT h2;simp only[cH];split
  · exact ih
  ·
   rename_i hne;refine List.pairwise_cons.2 ⟨fun w hw=>?_,ih⟩;rw[sQ]at hw;have hab:a≤b:=h1 b (by simp);have hne':a≠b:=by simpa using hne
   have hlt:=mW hab hne';rcases List.mem_cons.1 hw with rfl|hw
   · exact hlt
   ·
    have hbw:b≤w:=(List.pairwise_cons.1 h2).1 w hw;rcases Classical.em (b=w)with rfl|hne2
    · exact hlt
    · exact List.lt_trans hlt (mW hbw hne2)
theorem aU0 {l s:List aH}(hs:s.Pairwise (· ≤·))(hp: ∀w,w∈s↔w∈l):cH s=iV l:=
 bY3 (zT hs) (bP9 l) fun w=>by rw[sQ,bQ0,hp]
section
variable {r:Rt}{role:aH}{a b:List Dig}{t:Int}
end
section
variable {α:Type}{p:α→Bool}{l:List α}
theorem zU {i:Nat}(hi:i<l.length)(h:p l[i]=false)(h0: ∀x∈l.take i,p x=false): ∀x∈l.take (i+1),p x=false:=fun x hx=>by
 rw[List.take_succ_eq_append_getElem hi,List.mem_append,List.mem_singleton]at hx;rcases hx with hx|rfl
 · exact h0 x hx
 · exact h
end
theorem aM1 : ∀{a b:List UInt8} {i:Nat} (ha:i<a.length) (hb:i<b.length),a.take i=b.take i→a[i]≠b[i]→slt a b=decide (a[i]<b[i])
 |x::a,y::b,0,_,_,_,hne=>by
  simp only[List.getElem_cons_zero]at hne⊢;have:(x==y)=false:=by simpa using hne
  simp[slt,Op.bytesLess,this]
 |x::a,y::b,i+1,ha,hb,h,hne=>by
  simp only[List.take_succ_cons,List.cons.injEq,List.getElem_cons_succ]at h hne⊢;obtain⟨rfl,h⟩:=h;have:=aM1 (by simpa using ha) (by simpa using hb) h hne;rw[←this];simp[slt,Op.bytesLess]
theorem aM2 : ∀a:List UInt8,slt a a=false
 |[]=>rfl
 |x::a=>by simpa[slt,Op.bytesLess]using aM2 a
theorem cH8 {a b:Dig}(hi:i<32)(h:a.1.take i=b.1.take i)(hne:a.1[i]'(by rw[a.2];exact hi)≠b.1[i]'(by rw[b.2];exact hi)):dlt a b=decide (a.1[i]'(by rw[a.2];exact hi)<b.1[i]'(by rw[b.2];exact hi)):=
 aM1 _ _ h hne
theorem bQ1 {a b:Dig}(h:a.1.take 32=b.1.take 32):dlt a b=false:=by
 rw[List.take_of_length_le (by rw[a.2];exact Nat.le_refl _),List.take_of_length_le (by rw[b.2];exact Nat.le_refl _)]at h;unfold dlt;rw[h];exact aM2 _
theorem bQ2 {d:Dig}(h:i<32):CV.getAt i 1 false (dg d)=some (u8 (d.1[i]'(by rw[d.2];exact h))):=cH4 (l:=d.1) (by rw[d.2];exact h)
theorem cF4 (a b:UInt8):((a.toNat:Int) !=(b.toNat:Int))=!(a==b):=by
 rw[Bool.eq_iff_iff];simp only[bne_iff_ne,ne_eq,Bool.not_eq_true',beq_eq_false_iff_ne];constructor
 · intro h e;exact h (by rw[e])
 · intro h e;exact h (UInt8.toNat_inj.1 (by omega))
theorem cN2 (a b:UInt8):decide ((a.toNat:Int)<(b.toNat:Int))=decide (a<b):=by
 rw[Bool.eq_iff_iff];simp[UInt8.lt_iff_toNat_lt]
def alZ (c:UInt8):Bool:=(decide (97≤(c.toNat:Int))&&decide ((c.toNat:Int)≤122))||(decide (48≤(c.toNat:Int))&&decide ((c.toNat:Int)≤57))
def puZ (c:UInt8):Bool:=((c.toNat:Int)==46)||(((c.toNat:Int)==95)||((c.toNat:Int)==45))
def okc (i:Nat)(c:UInt8):Bool:=alZ c||(decide (0<(i:Int))&&puZ c)
theorem cN3 (c:UInt8):al c=alZ c:=by
 have h1:decide ((97:UInt8)≤c)=decide (97≤(c.toNat:Int)):=by rw[Bool.eq_iff_iff];simp only[decide_eq_true_eq,UInt8.le_iff_toNat_le];show 97≤c.toNat↔_;omega
 have h2:decide (c≤(122:UInt8))=decide ((c.toNat:Int)≤122):=by rw[Bool.eq_iff_iff];simp only[decide_eq_true_eq,UInt8.le_iff_toNat_le];show c.toNat≤122↔_;omega
 have h3:decide ((48:UInt8)≤c)=decide (48≤(c.toNat:Int)):=by rw[Bool.eq_iff_iff];simp only[decide_eq_true_eq,UInt8.le_iff_toNat_le];show 48≤c.toNat↔_;omega
 have h4:decide (c≤(57:UInt8))=decide ((c.toNat:Int)≤57):=by rw[Bool.eq_iff_iff];simp only[decide_eq_true_eq,UInt8.le_iff_toNat_le];show c.toNat≤57↔_;omega
 grind[al,alZ]
theorem cQ2 (c d:UInt8):(c==d)=((c.toNat:Int)==(d.toNat:Int)):=by
 rw[Bool.eq_iff_iff];simp only[beq_iff_eq];constructor
 · grind
 grind[UInt8.toNat_inj]
theorem cQ3 (c:UInt8):nc c=(alZ c||puZ c):=by simp_all[nc,puZ,cN3,cQ2]
theorem sS :fV s=true↔(1≤s.length∧s.length≤64)∧ ∀i (h:i<s.length),okc i s[i]=true:=by
 cases s with
 |nil=>simp[fV]
 |cons c r=>
  simp only[fV,Bool.and_eq_true,decide_eq_true_eq,List.all_eq_true,cN3,cQ3];constructor
  ·
   rintro⟨h1,h2,h3⟩;refine⟨⟨by simp,h1⟩,fun i hi=>?_⟩;cases i with
   |zero=>simp[okc,h2]
   |succ i=>
    have:=h3 _ (List.getElem_mem (by grind:i<r.length));simp only[List.getElem_cons_succ];unfold okc;grind
  ·
   rintro⟨⟨_,h1⟩,h3⟩;refine⟨h1,?_,fun x hx=>?_⟩
   · grind[okc]
   · obtain⟨i,hi,rfl⟩:=List.mem_iff_getElem.1 hx;have:=h3 (i+1) (by grind);simp only[List.getElem_cons_succ]at this;unfold okc at this;grind
theorem zV (h: ¬(1≤s.length∧s.length≤64)):fV s=false:=by grind[fV,absurd,sS]
theorem bG2 (hi:i<s.length)(h:okc i s[i]=false):fV s=false:=by grind[fV,sS]
theorem bG3 (hi:i<s.length)(h:okc i s[i]=true)(h0: ∀j (_:j<i) (h:j<s.length),okc j s[j]=true): ∀j (_:j<i+1) (h:j<s.length),okc j s[j]=true:=fun j hj h'=>by grind
section
variable {α β:Type}
def bG4 (r:α→α→Bool):List α→Bool
 |a::b::l=>r a b&&bG4 r (b::l)
 |_=>true
theorem aM3 {r:α→α→Bool}: ∀{l:List α},bG4 r l=true↔ ∀i (h:i+1<l.length),r l[i] l[i+1]=true
 |[]=>by simp[bG4]
 |[a]=>by simp[bG4]
 |a::b::l=>by
  have ih:=aM3 (r:=r) (l:=b::l);simp only[bG4,Bool.and_eq_true,ih];constructor
  ·
   rintro⟨h1,h2⟩ i hi;cases i with
   |zero=>exact h1
   |succ i=>exact h2 i (by simpa using hi)
  · intro h;exact⟨h 0 (by simp),fun i hi=>h (i+1) (by simpa using hi)⟩
def GoodTo (p:α→Bool)(r:α→α→Bool)(l:List α)(i:Nat):Prop:=(∀j (h:j<l.length),j<i→p l[j]=true)∧ ∀j (h:j+1<l.length),j+1<i→r l[j] l[j+1]=true
variable {p:α→Bool}{r:α→α→Bool}{l:List α}
theorem GoodTo.zero :GoodTo p r l 0:=⟨fun j _ h=>by omega,fun j _ h=>by omega⟩
theorem GoodTo.one (hi:0<l.length)(h:p l[0]=true):GoodTo p r l 1:=by
 refine⟨fun j h' hj=>?_,fun j _ h=>by omega⟩;have:j=0:=by omega
 subst this;exact h
theorem GoodTo.succ {i:Nat}(hi:i+1<l.length)(h:p l[i+1]=true)(hr:r l[i] l[i+1]=true)(h0:GoodTo p r l (i+1)):GoodTo p r l (i+1+1):=by
 refine⟨fun j h' hj=>?_,fun j h' hj=>?_⟩
 ·
  rcases Nat.lt_or_ge j (i+1)with h1|h1
  · exact h0.1 j h' h1
  ·
   have:j=i+1:=by omega
   subst this;exact h
 ·
  rcases Nat.lt_or_ge (j+1) (i+1)with h1|h1
  · exact h0.2 j h' h1
  ·
   have:j=i:=by omega
   subst this;exact hr
theorem GoodTo.all (h:GoodTo p r l l.length):(l.all p&&bG4 r l)=true:=by
 rw[Bool.and_eq_true,List.all_eq_true,aM3];refine⟨fun x hx=>?_,fun i hi=>h.2 i hi hi⟩;obtain⟨i,hi,rfl⟩:=List.mem_iff_getElem.1 hx;exact h.1 i hi hi
end
theorem denilL_u8 (l:List UInt8):CV.denilL (l.map u8)=l.map u8:=bU (f:=u8) (fun _=>rfl) l
theorem aE9 (d:Dig):(d.1.map u8).take 32=d.1.map u8:=List.take_of_length_le (by rw[List.length_map,d.2];exact Nat.le_refl _)
theorem aM4 {l:List Dig}:(∀v∈l.map dg,v.cells=32)↔True:=iff_true_intro fun v h=>by obtain⟨d,_,rfl⟩:=List.mem_map.1 h;exact dg_cells d
def kSz (k:Ky):Prop:=k.o.length<2^63∧k.rs.length<2^40∧ ∀w∈k.rs,w.length<2^63
def rSz (r:Rt):Prop:=(r.q.length<2^40∧ ∀q∈r.q,q.r.length<2^63)∧(r.k.length<2^40∧ ∀k∈r.k,kSz k)∧r.x.length<2^40
theorem bQ3 (l:List UInt8):(us l).denil=us l:=by simp only[us,CV.denil];rw[bU (f:=u8) (fun _=>rfl)]
@[simp] theorem cL4 (l:List W32)(i:Nat)(x:W32):CV.agg ((l.map w32).set i (w32 x))=ws (l.set i x):=by rw[←List.map_set];rfl
@[simp] theorem cL5 (l:List UInt8)(i:Nat)(x:UInt8):CV.agg ((l.map u8).set i (u8 x))=us (l.set i x):=by rw[←List.map_set];rfl
@[simp] theorem cP6 (b:List UInt8):wA b 0=wz 64:=rfl
@[simp] theorem cP7 (w:List W32):wB w 0=w:=rfl
def cQ4 (s r:St)(j:Nat):List W32:=(s.l.zipWith (fun x y=>x+y) r.l).take j++s.l.drop j
@[simp] theorem cL6 (s r:St):cQ4 s r 0=s.l:=rfl
section
variable {b:List UInt8}{j:Nat}(h0:64*j≤b.length)(h1:b.length<64*j+64)
include h0 h1
end
section
variable {b:List UInt8}{j:Nat}(h0:64*j≤b.length)(h1:b.length<64*j+64)
include h0 h1
end
@[simp] theorem cP8 (l:List UInt8):CV.agg (l.map u8)=us l:=rfl
def ob8 (s:St)(i:Nat):UInt8:=UInt8.ofNat ((gw s.l (i/4))>>>(24-8*(i%4))).toNat
def cQ5 (s:St)(n:Nat):List UInt8:=itN (fun i l=>l.set i (ob8 s i)) n (uz 32)
@[simp] theorem cL7 (s:St):cQ5 s 0=uz 32:=rfl
def cQ6 (h:yG):aH:=iA h.1
def iN (d:Dig):aH:=[115,104,97,50,53,54,58]++iA d.1
theorem qU (d:Dig):(iN d).length=71:=by rw[iN,List.length_append,lB,d.2];rfl
def fT (n:Int):aH:=Lib.itoa n
theorem bQ4 {n:Int}(h: -9223372036854775808≤n∧n≤9223372036854775807):(fT n).length≤21:=Lib.itoa_length_le n h.1 h.2
theorem bG5 :fT 0=[48]:=by unfold fT Lib.itoa;rw[if_neg (by omega)];simp[Lib.decDigits]
theorem bQ5 {n:Int}(h:0≤n):fT n=Lib.decDigits n.natAbs:=by unfold fT Lib.itoa;rw[if_neg (by omega)];congr 1;omega
inductive Av where
 |i (n:Int)
 |l (n:Int)
 |h (x:yG)
 |d (x:Dig)
 |s (w:aH)
def Av.w :Av→aH
 | .i n=>fT n
 | .l n=>fT n
 | .h x=>cQ6 x
 | .d x=>iN x
 | .s w=>w
def Av.ok :Av→Prop
 | .i n=> -9223372036854775808≤n∧n≤9223372036854775807
 | .l n=> -9223372036854775808≤n∧n≤9223372036854775807
 |_=>True
def valL (c:UInt8):Nat:=if 48≤c.toNat∧c.toNat≤57 then c.toNat-48 else if 97≤c.toNat∧c.toNat≤102 then c.toNat-87 else 16
def aZ0 :List UInt8:=[48,49,50,51,52,53,54,55,56,57,97,98,99,100,101,102]
set_option maxRecDepth 20000 in
theorem nC (c:UInt8):fS aZ0 c=if valL c<16 then(valL c:Int)else-1:=by
 have h: ∀n:Fin 256,fS aZ0 (UInt8.ofNat n.1)=if valL (UInt8.ofNat n.1)<16 then(valL (UInt8.ofNat n.1):Int)else-1:=by decide
 have:=h ⟨c.toNat,c.toNat_lt⟩;simpa only[UInt8.ofNat_toNat]using this
def hX (s:aH)(i:Nat):UInt8:=s.getD (2*i) 0
def hY (s:aH)(i:Nat):UInt8:=s.getD (2*i+1) 0
def hB (s:aH)(i:Nat):UInt8:=UInt8.ofNat (16*valL (hX s i)+valL (hY s i))
def hOk (s:aH)(i:Nat):Bool:=decide (valL (hX s i)<16)&&decide (valL (hY s i)<16)
theorem cH9 (hx:valL (hX s i)<16)(hy:valL (hY s i)<16):(hB s i).toNat=16*valL (hX s i)+valL (hY s i):=by
 unfold hB;rw[UInt8.toNat_ofNat'];omega
def eT (s:aH)(n:Nat):Option (List UInt8):=if s.length=2*n∧(List.range n).all (hOk s)=true then some ((List.range n).map (hB s))else none
def UhSt (s:aH)(n i:Nat)(l:List UInt8):Prop:=l.length=n∧i≤n∧l.take i=(List.range i).map (hB s)∧ ∀j,j<i→hOk s j=true
theorem UhSt.init (s:aH)(h:l.length=n):UhSt s n 0 l:=⟨h,Nat.zero_le _,by simp,fun j hj=>by omega⟩
theorem UhSt.next (h:UhSt s n i l)(hi:i<n)(hk:hOk s i=true):UhSt s n (i+1) (l.set i (hB s i)):=by
 obtain⟨h1,h2,h3,h4⟩:=h;refine⟨by simpa using h1,hi,?_,fun j hj=>?_⟩
 · rw[List.take_succ_eq_append_getElem (by rw[List.length_set];omega),List.getElem_set_self,List.take_set_of_le (Nat.le_refl _),h3,List.range_succ,List.map_append];rfl
 ·
  rcases Nat.lt_or_ge j i with h'|h'
  · exact h4 j h'
  ·
   have:j=i:=by omega
   rw[this];exact hk
theorem UhSt.fin (h:UhSt s n n l)(hs:s.length=2*n):eT s n=some l:=by
 obtain⟨h1,h2,h3,h4⟩:=h;unfold eT;rw[if_pos ⟨hs,by rw[List.all_eq_true];intro j hj;exact h4 j (List.mem_range.1 hj)⟩,←h3,List.take_of_length_le (by omega)]
theorem UhSt.bad (_:UhSt s n i l)(hi:i<n)(hk:hOk s i=false):eT s n=none:=by
 unfold eT;rw[if_neg];rintro⟨_,h⟩;have:=List.all_eq_true.1 h i (List.mem_range.2 hi);rw[hk]at this;cases this
theorem aU1 (h:s.length≠2*n):eT s n=none:=by unfold eT;rw[if_neg fun h'=>h h'.1]
theorem oO (h:eT s n=some l):l.length=n:=by
 unfold eT at h;split at h
 · cases h;simp
 · cases h
theorem bQ6 (l:List UInt8):(l.map u8).all (fun v=>v.cells==1)=true:=by simp[List.all_eq_true,u8,CV.cells]
theorem sT (l:List UInt8):CV.cellsL (l.map u8)=l.length:=pD (fun _=>rfl) l
theorem bG6 (y:UInt8)(h:i<l.length):CV.setAtL i 1 (.c (.int .u8 (y.toNat:Int))) (l.map u8)=some (((l.set i y).map u8).map .c):=vS (f:=u8) (fun _=>rfl) (fun _ _=>rfl) y l i h
def iL (s p:aH):Bool:=decide (p.length≤s.length)&&(s.take p.length==p)
def cN4 (s:aH):Option yG:=match h:eT s 16 with|some l=>some ⟨l,oO h⟩|none=>none
def shaW :aH:=[115,104,97,50,53,54,58]
def fZ (s:aH):Option Dig:=if iL s shaW then match h:eT (s.drop 7) 32 with|some l=>some ⟨l,oO h⟩|none=>none else none
theorem zW (hp:iL s shaW=true)(h:eT (s.drop 7) 32=some l)(hl:l.length=32):fZ s=some ⟨l,hl⟩:=by
 unfold fZ;rw[if_pos hp];split
 · rename_i l' h';rw[h]at h';cases h';rfl
 · rename_i h';rw[h]at h';cases h'
theorem zX (h:iL s shaW=true→eT (s.drop 7) 32=none):fZ s=none:=by
 unfold fZ;split
 ·
  rename_i hp;split
  · rename_i l' h';rw[h hp]at h';cases h'
  · rfl
 · rfl
theorem zY {e:Operand→HV}{K:HV→Prop}{b:Nat}{d:TyD}:fX {size:=n,bytes:=b,d:=d,z:=zd} [] e K=K (.c zd):=by
 simp only[fX,zd,dg,hfill,hlift_some];rw[bY2]
def wd (l:List aH)(i:Nat):aH:=l.getD i []
def bQ7 (l:List aH)(x:Rt):Option Rt:=
 if l.length=3 then match dK (wd l 2)with|some n=>some {x with q:=x.q++[⟨wd l 1,n⟩]}|none=>none else none
def cN5 (l:List aH)(x:Rt):Option Rt:=
 if l.length<6 then none else match dK (wd l 1),cN4 (wd l 2),dK (wd l 4),dK (wd l 5)with
  |some h,some r,some a,some b=>some {x with k:=x.k++[⟨⟨h,r⟩,wd l 3,l.drop 6,a,b⟩]}
  |_,_,_,_=>none
def cN6 (l:List aH)(x:Rt):Option Rt:=
 if l.length=3 then match fZ (wd l 1),dK (wd l 2)with|some d,some t=>some {x with x:=x.x++[⟨d,t⟩]}|_,_=>none else none
theorem pL (a b:aH): ∀p:List aH,cH (p++[a,b])=if a==b then cH (p++[a])else cH (p++[a])++[b]
 |[]=>by
  simp only[List.nil_append,cH];split
  · rename_i h;rw[eq_of_beq h]
  · rfl
 |[x]=>by
  have ih:=pL a b [];simp only[List.nil_append]at ih;simp only[List.cons_append,List.nil_append];have e1:cH (x::a::[b])=if x==a then cH [a,b]else x::cH [a,b]:=by rw[cH]
  have e2:cH (x::a::[])=if x==a then cH [a]else x::cH [a]:=by rw[cH]
  rw[e1,e2,ih];by_cases h1:(x==a)=true<;>by_cases h2:(a==b)=true<;>simp[h1,h2]
 |x::y::p=>by
  have ih:=pL a b (y::p);simp only[List.cons_append]at ih⊢;have e1:cH (x::y::(p++[a,b]))=if x==y then cH (y::(p++[a,b]))else x::cH (y::(p++[a,b])):=by rw[cH]
  have e2:cH (x::y::(p++[a]))=if x==y then cH (y::(p++[a]))else x::cH (y::(p++[a])):=by rw[cH]
  rw[e1,e2,ih];by_cases h1:(x==y)=true<;>by_cases h2:(a==b)=true<;>simp[h1,h2]
theorem pM {l:List aH}{j:Nat}(h0:1≤j)(h:j<l.length):cH (l.take (j+1))=if l[j]==l[j-1]then cH (l.take j)else cH (l.take j)++[l[j]]:=by
 have e1:l.take j=l.take (j-1)++[l[j-1]]:=by
  have:=List.take_succ_eq_append_getElem (show j-1<l.length by omega)
  rwa [show j-1+1=j by omega]at this
 rw[List.take_succ_eq_append_getElem h,e1,List.append_assoc];have:=pL l[j-1] l[j] (l.take (j-1));simp only[List.singleton_append];rw[this];have e2:(l[j-1]==l[j])=(l[j]==l[j-1]):=by rw[Bool.eq_iff_iff];simp only[beq_iff_eq];exact eq_comm
 rw[e2]
theorem tU : ∀{l:List aH},l.length<2→cH l=l
 |[],_=>rfl
 |[_],_=>rfl
 |_::_::_,h=>by simp at h;omega
variable {k:Nat}
theorem aU2 {l:List aH}(h0:1≤k)(h:k<l.length)(hne:(l[k]==l[k-1])=false)(hd:cH (l.take k)=l.take k):cH (l.take (k+1))=l.take (k+1):=by
 rw[pM h0 h,hne,hd,List.take_succ_eq_append_getElem h];rfl
theorem aU3 {l:List aH}(h0:1≤k)(h:k<l.length)(he:(l[k]==l[k-1])=true):cH (l.take (k+1))=cH (l.take k):=by
 rw[pM h0 h,he];rfl
theorem bG7 {l:List aH}(h0:1≤k)(h:k<l.length)(hne:(l[k]==l[k-1])=false):cH (l.take (k+1))=cH (l.take k)++[l[k]]:=by
 rw[pM h0 h,hne];rfl
theorem setW_snoc (l:List aH)(w:aH):iV (l++[w])=mD (iV l) w:=by unfold iV;rw[List.foldl_append];rfl
end Go.Pl
namespace Go.Hl
open Go Go.RowKit Go.Sort Go.Proofs
end Go.Hl
namespace Go.Pl
open Go Go.Hl
def rMid (r:Rt):Prop:=(r.q.length≤12∧ ∀q∈r.q,q.r.length≤300)∧(r.k.length≤32∧ ∀k∈r.k,k.o.length≤300∧k.rs.length≤30∧ ∀w∈k.rs,w.length≤300)∧r.x.length≤65
theorem rMid.sz {r:Rt}(h:rMid r):rSz r:=by
 obtain⟨⟨h1,h2⟩,⟨h3,h4⟩,h5⟩:=h;refine⟨⟨by omega,fun q hq=>by have:=h2 q hq;omega⟩,⟨by omega,fun k hk=>?_⟩,by omega⟩;obtain⟨k1,k2,k3⟩:=h4 k hk;exact⟨by omega,by omega,fun w hw=>by have:=k3 w hw;omega⟩
def yI (j:Nat):aH:=([[113,117,111,116,97],[107,101,121],[114,101,118,111,107,101,100]]:List aH).getD j []
def aF0 (j:Nat)(l:List aH)(x:Rt):Option Rt:=if j=0 then bQ7 l x else if j=1 then cN5 l x else cN6 l x
def yJ (j:Nat):List (List aH)→Rt→Option (List (List aH)×Rt)
 |[],x=>some ([],x)
 |l::ls,x=>if wd l 0=yI j then match aF0 j l x with|some y=>yJ j ls y|none=>none else some (l::ls,x)
def oG :Nat→Nat→List (List aH)→Rt→Option (List (List aH)×Rt)
 |0,_,ls,x=>some (ls,x)
 |n+1,j,ls,x=>match yJ j ls x with|some (ls',y)=>oG n (j+1) ls' y|none=>none
section
variable {l0:List aH}{ls:List (List aH)}{x:Rt}
end
variable {x:Rt}{ls:List (List aH)}{j:Nat}
theorem bQ8 {l:List aH}{y:Rt}(h:wd l 0=yI j)(hy:aF0 j l x=some y):yJ j (l::ls) x=yJ j ls y:=by
 rw[yJ,if_pos h,hy]
theorem bG8 {l:List aH}(h:wd l 0=yI j)(hy:aF0 j l x=none):yJ j (l::ls) x=none:=by
 rw[yJ,if_pos h,hy]
theorem bG9 {l:List aH}(h:wd l 0≠yI j):yJ j (l::ls) x=some (l::ls,x):=by
 rw[yJ,if_neg h]
variable {n:Nat}
theorem bQ9 {l:List aH}{y:Rt}(h:wd l 0=yI j)(hy:aF0 j l x=some y):oG (n+1) j (l::ls) x=oG (n+1) j ls y:=by grind[oG,bQ8]
theorem bH0 {l:List aH}(h:wd l 0=yI j)(hy:aF0 j l x=none):oG (n+1) j (l::ls) x=none:=by grind[oG,bG8]
theorem bH1 {l:List aH}(h:wd l 0≠yI j):oG (n+1) j (l::ls) x=oG n (j+1) (l::ls) x:=by
 simp only[oG,bG9 h]
theorem bR0 :oG (n+1) j [] x=oG n (j+1) [] x:=by
 simp only[oG,yJ]
def wOk (l:List aH):Prop:=l≠[]∧l.length≤120∧ ∀w∈l,w.length≤32768
variable {l:List aH}
theorem wOk.wd (h:wOk l)(i:Nat):(wd l i).length≤32768:=by
 unfold Pl.wd;rw[List.getD_eq_getElem?_getD];rcases Nat.lt_or_ge i l.length with h'|h'
 · rw[List.getElem?_eq_getElem h'];exact h.2.2 _ (List.getElem_mem h')
 grind
def rRead (m:Nat)(x:Rt):Prop:=x.q.length+x.k.length+x.x.length≤m∧(∀q∈x.q,q.r.length≤32768)∧ ∀k∈x.k,k.o.length≤32768∧k.rs.length≤120∧ ∀w∈k.rs,w.length≤32768
variable {m:Nat}
theorem bH2 {y:Rt}(hl:wOk l)(h:aF0 j l x=some y)(hx:rRead m x):rRead (m+1) y:=by
 obtain⟨h1,h2,h3⟩:=hx;unfold aF0 at h;split at h
 ·
  unfold bQ7 at h;split at h
  ·
   split at h
   ·
    cases h;refine⟨by grind,fun q hq=>?_,h3⟩;rcases List.mem_append.1 hq with hq|hq
    · grind
    · simp only[List.mem_singleton]at hq;subst hq;exact hl.wd 1
   grind
  grind
 ·
  split at h
  ·
   unfold cN5 at h;split at h
   · cases h
   ·
    split at h
    ·
     cases h;refine⟨by grind,h2,fun k hk=>?_⟩;rcases List.mem_append.1 hk with hk|hk
     · exact h3 k hk
     · simp only[List.mem_singleton]at hk;subst hk;exact⟨hl.wd 3,by show(l.drop 6).length≤120;rw[List.length_drop];have:=hl.2.1;omega,fun w hw=>hl.2.2 w (List.mem_of_mem_drop hw)⟩
    grind
  ·
   unfold cN6 at h;split at h
   ·
    split at h
    · cases h;exact⟨by grind,h2,h3⟩
    grind
   grind
theorem rRead.sz (h:rRead m x)(hm:m≤100000):rSz x:=by
 obtain⟨h1,h2,h3⟩:=h;refine⟨⟨by omega,fun q hq=>by grind⟩,⟨by omega,fun k hk=>?_⟩,by omega⟩;obtain⟨k1,k2,k3⟩:=h3 k hk;exact⟨by omega,by omega,fun w hw=>by grind⟩
def RtSt (ls0:List (List aH))(x0:Rt)(j:Nat)(rest:List (List aH))(x:Rt):Prop:=
 j≤3∧oG 3 0 ls0 x0=oG (3-j) j rest x∧(∀l∈rest,wOk l)∧rest.length≤ls0.length∧rRead (ls0.length-rest.length) x
section
variable {ls0 rest:List (List aH)}{x0 x:Rt}{j:Nat}{l:List aH}
theorem RtSt.init (h: ∀l∈ls0,wOk l)(hx:rRead 0 x0):RtSt ls0 x0 0 ls0 x0:=⟨by omega,rfl,h,Nat.le_refl _,by grind⟩
theorem RtSt.hit {y:Rt}(h:RtSt ls0 x0 j (l::rest) x)(hj:j<3)(hw:wd l 0=yI j)(hy:aF0 j l x=some y):RtSt ls0 x0 j rest y:=by
 obtain⟨h1,h2,h3,h4,h5⟩:=h;obtain⟨n,hn⟩: ∃n,3-j=n+1:=⟨2-j,by omega⟩;simp only[List.length_cons]at h4 h5;refine⟨h1,by rw[h2,hn,bQ9 hw hy],fun l hl=>h3 l (List.mem_cons_of_mem _ hl),by omega,?_⟩;have:=bH2 (h3 l List.mem_cons_self) hy h5;grind
theorem RtSt.fail (h:RtSt ls0 x0 j (l::rest) x)(hj:j<3)(hw:wd l 0=yI j)(hy:aF0 j l x=none):oG 3 0 ls0 x0=none:=by
 obtain⟨n,hn⟩: ∃n,3-j=n+1:=⟨2-j,by omega⟩;rw[h.2.1,hn,bH0 hw hy]
theorem RtSt.next (h:RtSt ls0 x0 j rest x)(hj:j<3)(hw: ∀l ls,rest=l::ls→wd l 0≠yI j):RtSt ls0 x0 (j+1) rest x:=by
 obtain⟨h1,h2,h3,h4,h5⟩:=h;obtain⟨n,hn⟩: ∃n,3-j=n+1:=⟨2-j,by omega⟩;have hn2:3-(j+1)=n:=by omega
 refine⟨by omega,?_,h3,h4,h5⟩;rw[h2,hn,hn2];cases rest with
 |nil=>exact bR0
 |cons l ls=>exact bH1 (hw l ls rfl)
theorem RtSt.fin (h:RtSt ls0 x0 3 rest x):oG 3 0 ls0 x0=some (rest,x):=by rw[h.2.1];rfl
end
variable {b:aH}
theorem bZ9 : ∀l∈lT b,wOk l:=by
 intro l hl;unfold lT at hl;split at hl
 ·
  cases hv:iB b with
  |none=>grind
  |some ls=>
   rw[hv]at hl;simp only[Option.getD_some]at hl;unfold iB at hv;split at hv
   · grind
   ·
    split at hv
    ·
     have key: ∀{rs:List aH} {ls:List (List aH)},rs.mapM unR=some ls→ ∀l∈ls,okL l=true:=by
      intro rs;induction rs with
      |nil=>grind
      |cons r rs ih=>
       intro ls h l hl;rw[List.mapM_cons]at h;cases hr:unR r with
       |none=>grind
       |some a=>
        rw[hr]at h;cases hm:rs.mapM unR with
        |none=>grind
        |some m=>
         rw[hm]at h;cases h;rcases List.mem_cons.1 hl with rfl|hl
         ·
          unfold unR at hr;split at hr
          ·
           split at hr
           · rename_i hk;cases hr;exact hk
           · cases hr
          · cases hr
         · exact ih hm l hl
     exact(kH l).1 (key hv l hl)
    grind
 grind
theorem bR1 :(lT b).length≤1000:=by
 unfold lT;split
 · grind[jY,iB]
 · simp
theorem qV :aK3=1099511627776:=rfl
theorem wS : ∀(a b:aH) (n m:Nat),eS a n=some m→eS (a++b) n=eS b m
 |[],b,n,m,h=>by simp only[eS,Option.some.injEq]at h;subst h;rfl
 |c::a,b,n,m,h=>by
  simp only[List.cons_append,eS]at h⊢;split at h
  · rename_i hc;rw[if_pos hc];exact wS a b _ _ h
  · cases h
theorem aZ1 {k:Nat}(h:k<10):pJ (UInt8.ofNat (48+k))=true∧(UInt8.ofNat (48+k)).toNat-48=k:=by
 have e:(UInt8.ofNat (48+k)).toNat=48+k:=by simp;omega
 rw[pJ,e];exact⟨by simp;omega,by omega⟩
theorem aU4 (u:Nat):eS (Lib.decDigits u) 0=some u:=by
 induction u using Nat.strongRecOn with
 |ind u ih=>
  rw[Lib.decDigits];split
  · rename_i h;obtain⟨h1,h2⟩:=aZ1 h;simp only[eS,h1,if_true,h2];simp
  · rw[wS _ _ 0 (u/10) (ih _ (by omega))];obtain⟨h1,h2⟩:=aZ1 (k:=u%10) (by omega);simp only[eS,h1,if_true,h2];congr 1;omega
theorem aZ2 : ∀(k u:Nat),u<10^(k+1)→(Lib.decDigits u).length≤k+1
 |0,u,h=>by rw[Lib.decDigits,dif_pos (by omega)];simp
 |k+1,u,h=>by
  rw[Lib.decDigits];split
  · simp
  · have:=aZ2 k (u/10) (by rw[Nat.pow_succ]at h;omega);simp only[List.length_append,List.length_singleton];omega
theorem bR2 {u:Nat}(h:1≤u): ∃c l,Lib.decDigits u=c::l∧c≠48:=by
 induction u using Nat.strongRecOn with
 |ind u ih=>
  rw[Lib.decDigits];split
  · rename_i hu;refine⟨_,_,rfl,fun hc=>?_⟩;have:=congrArg UInt8.toNat hc;simp at this;omega
  · obtain⟨c,l,h1,h2⟩:=ih (u/10) (by omega) (by omega);exact⟨c,l++[UInt8.ofNat (48+u%10)],by rw[h1];rfl,h2⟩
theorem sU {n:Int}(h0:0≤n)(h1:n≤1099511627776):dK (fT n)=some n:=by
 rw[bQ5 h0];have hd:=aU4 n.natAbs;have hl:=aZ2 12 n.natAbs (by omega);have hb:iM (Lib.decDigits n.natAbs)=false:=by
  unfold iM;by_cases hz:n.natAbs=0
  · rw[hz,Lib.decDigits_one (by omega)];simp
  ·
   obtain⟨c,l,h2,h3⟩:=bR2 (u:=n.natAbs) (by omega);rw[h2]at hl⊢;have e:((c::l).getD 0 0==(48:UInt8))=false:=by simpa using h3
   rw[e,Bool.and_false,Bool.or_false,Bool.or_eq_false_iff];exact⟨by simp,decide_eq_false (by omega)⟩
 rw[aY9 hb hd (by omega)];congr 1;omega
theorem wT : ∀{k:Nat},k<16→valL (mA k)=k:=by
 have: ∀k:Fin 16,valL (mA k.1)=k.1:=by decide
 intro k h;exact this ⟨k,h⟩
theorem zZ : ∀(bs:List UInt8) (i:Nat),(iA bs).getD (2*i) 0=(bs[i]?.map fun c=>mA (c.toNat/16)).getD 0∧(iA bs).getD (2*i+1) 0=(bs[i]?.map fun c=>mA (c.toNat%16)).getD 0
 |[],i=>by simp[iA]
 |c::bs,0=>by simp[iA,bO9]
 |c::bs,i+1=>by
  have ih:=zZ bs i;have e:iA (c::bs)=mA (c.toNat/16)::mA (c.toNat%16)::iA bs:=rfl;rw[e,show 2*(i+1)=2*i+1+1 from by omega];simpa using ih
theorem aU5 (bs:List UInt8):eT (iA bs) bs.length=some bs:=by
 have key: ∀i,(h:i<bs.length)→hX (iA bs) i=mA (bs[i].toNat/16)∧hY (iA bs) i=mA (bs[i].toNat%16):=fun i h=>by
  obtain⟨h1,h2⟩:=zZ bs i;rw[List.getElem?_eq_getElem h]at h1 h2;exact⟨h1,h2⟩
 have v: ∀i,(h:i<bs.length)→valL (hX (iA bs) i)=bs[i].toNat/16∧valL (hY (iA bs) i)=bs[i].toNat%16:=fun i h=>by
  have:=bs[i].toNat_lt;rw[(key i h).1,(key i h).2];exact⟨wT (by omega),wT (by omega)⟩
 have hall:(List.range bs.length).all (hOk (iA bs))=true:=by
  rw[List.all_eq_true];intro i hi;have hi:=List.mem_range.1 hi;obtain⟨a,b⟩:=v i hi;have:=bs[i].toNat_lt;unfold hOk;rw[a,b];simp;omega
 unfold eT;rw[if_pos ⟨lB bs,hall⟩];congr 1;refine List.ext_getElem (by simp) fun i h1 h2=>?_;obtain⟨a,b⟩:=v i h2;simp only[List.getElem_map,List.getElem_range,hB,a,b];have:=bs[i].toNat_lt;refine UInt8.toNat_inj.1 ?_;rw[UInt8.toNat_ofNat'];omega
theorem qW (d:Dig):fZ (iN d)=some d:=by
 obtain⟨l,hl⟩:=d;have:=aU5 l;rw[hl]at this;refine zW (l:=l) ?_ ?_ hl
 · simp[iL,iN,shaW,lB]
 · simpa[iN]using this
theorem cA0 (h:pH ls=0):jY (uJ ls)=0∧lT (uJ ls)=ls:=by
 rw[aY4 h];unfold pH at h;split at h
 · cases h
 ·
  rename_i h1;split at h
  · rename_i l hl;have:=List.find?_some hl;simp only[Bool.not_eq_true']at this;exact absurd h (bZ3 this)
  ·
   rename_i hn;split at h
   · cases h
   ·
    rename_i h2;have hok: ∀l∈ls,okL l=true:=fun l hl=>by
     have:=List.find?_eq_none.1 hn l hl;simpa using this
    have hv:=bG1 hok;have hE:jY (iZ ls)=0:=by unfold jY;rw[if_neg h2,hv];simp only;rw[if_neg h1]
    exact⟨hE,by unfold lT;rw[if_pos hE,hv];rfl⟩
def qX (r:Pr):Bool:=fV r.a&&((aT7 r.b).isSome&&((aT7 r.c).isSome&&(inB r.g 0 aK3&&dZ r.t)))
def lU :List Pr→Bool
 |[]=>true
 |r::l=>!(l.map Pr.a).contains r.a&&lU l
def bR3 (p:Po):Bool:=fV p.n&&(inB p.v 1 aK3&&(decide (p.r.length≤16)&&(p.r.all qX&&lU p.r)))
theorem tV (l:List Pr)(r:Pr):lU (l++[r])=(lU l&&!(l.map Pr.a).contains r.a):=by
 induction l with
 |nil=>simp[lU]
 |cons x l ih=>
  simp only[List.cons_append,lU,ih,List.map_append,List.map_cons,List.map_nil,List.contains_append,List.contains_cons,List.contains_nil,Bool.or_false];rw[show(x.a==r.a)=(r.a==x.a)from Bool.beq_comm];grind
def bH3 :aH:=[114,101,108,101,97,115,101,100]
def bR4 :aH:=[99,104,97,105,110,101,100]
def bH4 :aH:=[97,112,112,114,111,118,101,100]
def bR5 :aH:=[114,101,98,117,105,108,116]
def cA1 :aH:=[108,105,115,116,101,100]
def cI0 :aH:=[99,108,101,97,110]
def cI1 :aH:=[102,114,101,115,104]
def bR6 :aH:=[115,101,116,116,108,101,100]
def cQ7 :aH:=[97,108,108]
def cQ8 :aH:=[97,110,121]
def bR7 :aH:=[97,116,108,101,97,115,116]
def cI2 :aH:=[101,110,100]
def cN7 :aH:=[114,117,108,101]
def cI3 (w:List aH):Option Rq:=
 if w.length=2∧wd w 0=bH3 then(dK (wd w 1)).map (⟨1,·,0,[]⟩)
 else if w.length=2∧wd w 0=bR4 then some ⟨2,0,0,wd w 1⟩
 else if w.length=2∧wd w 0=bH4 then(dK (wd w 1)).map (⟨3,·,0,[]⟩)
 else if w.length=3∧wd w 0=bR5 then match dK (wd w 1),dK (wd w 2)with|some n,some m=>some ⟨4,n,m,[]⟩|_,_=>none
 else if w.length=2∧wd w 0=cA1 then(dK (wd w 1)).map (⟨5,·,0,[]⟩)
 else if w.length=2∧wd w 0=cI0 then(dK (wd w 1)).map (⟨6,·,0,[]⟩)
 else if w.length=2∧wd w 0=cI1 then(dK (wd w 1)).map (⟨7,·,0,[]⟩)
 else if w.length=1∧wd w 0=bR6 then some ⟨8,0,0,[]⟩else none
def cI4 (w:List aH):Option Nd:=
 if w.length=1∧wd w 0=cQ7 then some ⟨2,0,0,rq0⟩else if w.length=1∧wd w 0=cQ8 then some ⟨3,0,0,rq0⟩
 else if w.length=2∧wd w 0=bR7 then(dK (wd w 1)).map (⟨4,·,0,rq0⟩)else none
def bR8 (w:List aH):Bool:=w.length==1&&wd w 0==cI2
mutual
def rdN :Nat→List (List aH)→Option (List Nd)×List (List aH)
 |0,ls=>(none,ls)
 |_+1,[]=>(none,[])
 |f+1,w::r=>match cI3 w with
  |some q=>(some [⟨1,0,0,q⟩],r)
  |none=>match cI4 w with
   |none=>(none,w::r)
   |some n=>match rdK f r with
    |(none,r')=>(none,r')
    |(some (ts,c),r')=>(some ({n with c:=c}::ts),r')
def rdK :Nat→List (List aH)→Option (List Nd×Int)×List (List aH)
 |0,ls=>(none,ls)
 |f+1,ls=>if bR8 (ls.headD [])then(some ([],0),ls.tail)else match rdN f ls with
  |(none,r)=>(none,r)
  |(some t,r)=>match rdK f r with
   |(none,r')=>(none,r')
   |(some (ts,c),r')=>(some (t++ts,c+1),r')
end
def rdT (ls:List (List aH)):Option (List Nd)×List (List aH):=rdN (2*ls.length+2) ls
def rdR (ls:List (List aH)):Option Pr×List (List aH):=match ls with
 |[]=>(none,[])
 |w::r=>if w.length=5∧wd w 0=cN7 then match dK (wd w 4)with
   |none=>(none,w::r)
   |some g=>match rdT r with|(none,r')=>(none,r')|(some t,r')=>(some ⟨wd w 1,wd w 2,wd w 3,g,t⟩,r')
  else(none,w::r)
def cA2 :Nat→List (List aH)→List Pr→Option (List Pr)×List (List aH)
 |0,ls,_=>(none,ls)
 |f+1,ls,a=>if ls=[]then(some a,[])else match rdR ls with
  |(none,r)=>(none,r)
  |(some x,r)=>cA2 f r (a++[x])
theorem tW : ∀(t x r:List Nd) (m:Nat),skip m t=some r→skip m (t++x)=some (r++x)
 |t,x,r,0,h=>by grind[fA]
 |[],x,r,m+1,h=>by cases h
 |n::t,x,r,m+1,h=>by
  have h':skip (m+n.c.toNat) t=some r:=h;exact tW t x r _ h'
def wDer :aH:=[100,101,114,105,118,97,116,105,111,110]
def wOrg :aH:=[111,114,105,103,105,110]
def oH :aH:=[100,111,99]
def qY :aH:=[110,101,101,100]
def aU6 :aH:=[97,108,108]
def bH5 :aH:=[97,110,121]
def bR9 :aH:=[97,116,108,101,97,115,116]
def bS0 :aH:=[97,100,109,105,116]
def wordK (k:Int):aH:=if k=1 then qY else if k=2 then aU6 else if k=3 then bH5 else if k=4 then bR9 else if k=5 then bS0 else []
def lC (w:aH):Option Int:=if w=qY then some 1 else if w=aU6 then some 2 else if w=bH5 then some 3 else if w=bR9 then some 4 else if w=bS0 then some 5 else none
theorem wU {w:aH}{k:Int}:lC w=some k↔1≤k∧k≤5∧wordK k=w:=by
 unfold lC wordK;constructor
 · intro h;(repeat' split at h);all_goals first|(cases h;done)|(cases h;subst_vars;decide)
 ·
  rintro⟨h1,h2,h3⟩;obtain h|h|h|h|h:k=1∨k=2∨k=3∨k=4∨k=5:=by omega
  all_goals subst h;subst h3;decide
def iE (n:Int):Bool:=inB n 0 1099511627776
theorem jQ (n:Int):iE n=true↔0≤n∧n≤1099511627776:=by simp[iE,inB]
def fN (x:Ln):Bool:=inB x.k 1 5&&iE x.n&&(if x.k=1 then x.f==[]else x.f.all iE&&x.d==[])
def firstL (x:Ln):List aH:=wordK x.k::fT x.n::x.f.map fT
def mF (d:Dig):List aH:=[oH,iN d]
def fD (x:Ln):List (List aH):=firstL x::x.d.map mF
def mB (d:Dv):List (List aH):=[[wDer,d.q.n,d.q.i,iN d.q.a,fT d.t,iN d.p,fT d.r],[wOrg,iN d.o.v,d.o.l,d.o.r]]
def iO (d:Dv):List (List aH):=mB d++d.l.flatMap fD
def nD (d:Dv):Bool:=iE d.t&&iE d.r&&d.l.all fN
def dvE (d:Dv):Int:=if nD d then pH (iO d)else 1
def dvO (d:Dv):aH:=if nD d then uJ (iO d)else []
variable {d:Dv}
theorem bS1 (h:dvE d=0):nD d=true∧pH (iO d)=0∧dvO d=uJ (iO d):=by
 unfold dvE at h;unfold dvO;split at h
 · rename_i hf;rw[if_pos hf];exact⟨hf,h,rfl⟩
 · cases h
def og0 :Og:=⟨zdg,[],[]⟩
def qs0 :Qs:=⟨[],[],zdg⟩
def dv0 :Dv:=⟨qs0,0,zdg,0,og0,[]⟩
def eQ (l:List aH):Option (List Int):=l.mapM dK
def eY (w:List aH):Option Ln:=
 match eQ (w.drop 1)with
 |some (n::f)=>(lC (wd w 0)).bind fun k=>if k=1∧f≠[]then none else some ⟨k,n,[],f⟩
 |_=>none
def uK (x:Ln)(d:Dig):Ln:={x with d:=x.d++[d]}
def bH6 (ls:List Ln)(w:List aH):Option (List Ln):=
 match ls.getLast? with
 |some x=>if x.k=1∧w.length=2 then(fZ (wd w 1)).map fun d=>ls.dropLast++[uK x d]else none
 |none=>none
def eD (ls:List Ln)(w:List aH):Option (List Ln):=if wd w 0=oH then bH6 ls w else(eY w).map fun x=>ls++[x]
def wd' (ls:List (List aH))(i:Nat):List aH:=ls.getD i []
def gN (ls:List (List aH)):Option Dv:=
 if ls.length<2∨(wd' ls 0).length≠7∨wd (wd' ls 0) 0≠wDer∨(wd' ls 1).length≠4∨wd (wd' ls 1) 0≠wOrg then none
 else match fZ (wd (wd' ls 0) 3),fZ (wd (wd' ls 0) 5),fZ (wd (wd' ls 1) 1),dK (wd (wd' ls 0) 4),dK (wd (wd' ls 0) 6)with
  |some a,some p,some v,some t,some r=>some ⟨⟨wd (wd' ls 0) 1,wd (wd' ls 0) 2,a⟩,t,p,r,⟨v,wd (wd' ls 1) 2,wd (wd' ls 1) 3⟩,[]⟩
  |_,_,_,_,_=>none
def gE (ls:List (List aH)):Option Dv:=(gN ls).bind fun d=>((ls.drop 2).foldlM eD []).map fun l=>{d with l:=l}
def sV (b:aH):Option Dv:=if jY b=0 then(gE (lT b)).bind fun d=>if dvE d=0∧dvO d=b then some d else none else none
def ddE (b:aH):Int:=if jY b≠0 then jY b else if(sV b).isSome then 0 else 2
def ddO (b:aH):Dv:=(sV b).getD dv0
theorem aA0 : ∀{l:List Int},l.all iE=true→eQ (l.map fT)=some l
 |[],_=>rfl
 |n::l,h=>by
  simp only[List.all_cons,Bool.and_eq_true]at h;have h1:=(jQ n).1 h.1;have h2:=aA0 h.2;unfold eQ at h2⊢;rw[List.map_cons,List.mapM_cons,sU h1.1 h1.2,h2];rfl
theorem aM5 {x:Ln}(h:fN x=true):eY (firstL x)=some {x with d:=[]}∧wd (firstL x) 0≠oH:=by
 simp only[fN,Bool.and_eq_true,inB,decide_eq_true_eq]at h;obtain⟨⟨⟨h1,h2⟩,h3⟩,h4⟩:=h;have hk:lC (wordK x.k)=some x.k:=wU.2 ⟨h1,h2,rfl⟩;have hn:((x.n::x.f).all iE)=true:=by
  rw[List.all_cons,h3,Bool.true_and];split at h4
  · rw[beq_iff_eq]at h4;rw[h4];rfl
  · simp only[Bool.and_eq_true]at h4;exact h4.1
 have hm:=aA0 hn;constructor
 · have e:(firstL x).drop 1=(x.n::x.f).map fT:=rfl;unfold eY;rw[e,hm];show(lC (wordK x.k)).bind _=_;rw[hk];simp only[Option.bind_some];rw[if_neg ?_];rintro⟨g1,g2⟩;rw[if_pos g1,beq_iff_eq]at h4;exact g2 h4
 ·
  show wordK x.k≠oH;obtain h|h|h|h|h:x.k=1∨x.k=2∨x.k=3∨x.k=4∨x.k=5:=by omega
  all_goals rw[h];decide
theorem aA1 (ls:List Ln): ∀(ds:List Dig) (x:Ln),x.k=1→(ds.map mF).foldlM eD (ls++[x])=some (ls++[{x with d:=x.d++ds}])
 |[],x,_=>by simp
 |d::ds,x,hk=>by
  have e:eD (ls++[x]) (mF d)=some (ls++[uK x d]):=by
   unfold eD;rw[if_pos (show wd (mF d) 0=oH from rfl)];unfold bH6;rw[List.getLast?_concat];simp only[mF,List.length_cons,List.length_nil,hk];rw[if_pos (by simp)];show(fZ (iN d)).map _=_;rw[qW,List.dropLast_concat];rfl
  rw[List.map_cons,List.foldlM_cons,e];show(ds.map mF).foldlM eD (ls++[uK x d])=_;rw[aA1 ls ds (uK x d) hk];simp[uK]
theorem aM6 (ls:List Ln){x:Ln}(h:fN x=true):(fD x).foldlM eD ls=some (ls++[x]):=by
 obtain⟨h1,h2⟩:=aM5 h;have e:eD ls (firstL x)=some (ls++[{x with d:=[]}]):=by unfold eD;rw[if_neg h2,h1];rfl
 rw[fD,List.foldlM_cons,e];show(x.d.map mF).foldlM eD (ls++[{x with d:=[]}])=_;by_cases hk:x.k=1
 · rw[aA1 ls x.d {x with d:=[]} hk];simp
 ·
  have hd:x.d=[]:=by
   simp only[fN,Bool.and_eq_true]at h;have h4:=h.2;rw[if_neg hk]at h4;simp only[Bool.and_eq_true,beq_iff_eq]at h4;exact h4.2
  rw[hd];cases x;subst hd;rfl
theorem aA2 : ∀{l:List Ln} (ls:List Ln),l.all fN=true→(l.flatMap fD).foldlM eD ls=some (ls++l)
 |[],ls,_=>by simp
 |x::l,ls,h=>by
  simp only[List.all_cons,Bool.and_eq_true]at h;rw[List.flatMap_cons,List.foldlM_append,aM6 ls h.1];show(l.flatMap fD).foldlM eD (ls++[x])=_;rw[aA2 _ h.2];simp
theorem bS2 (h:nD d=true):gE (iO d)=some d:=by
 simp only[nD,Bool.and_eq_true]at h;have h1:=(jQ _).1 h.1.1;have h2:=(jQ _).1 h.1.2;have hh:gN (iO d)=some {d with l:=[]}:=by
  unfold gN;have e0:wd' (iO d) 0=[wDer,d.q.n,d.q.i,iN d.q.a,fT d.t,iN d.p,fT d.r]:=rfl;have e1:wd' (iO d) 1=[wOrg,iN d.o.v,d.o.l,d.o.r]:=rfl;rw[e0,e1,if_neg]
  ·
   show(match fZ (iN d.q.a),fZ (iN d.p),fZ (iN d.o.v),dK (fT d.t),dK (fT d.r)with
    |some a,some p,some v,some t,some r=>some (⟨⟨d.q.n,d.q.i,a⟩,t,p,r,⟨v,d.o.l,d.o.r⟩,[]⟩:Dv)
    |_,_,_,_,_=>none)=_
   rw[qW,qW,qW,sU h1.1 h1.2,sU h2.1 h2.2]
  · simp only[iO,mB,List.length_append,List.length_cons,List.length_nil,wd,List.getD_cons_zero,ne_eq,not_true_eq_false,or_false];omega
 unfold gE;rw[hh,Option.bind_some];have e2:(iO d).drop 2=d.l.flatMap fD:=rfl;rw[e2,aA2 [] h.2];simp
theorem bS3 (h:dvE d=0)(hb:dvO d=b):sV b=some d∧ddE b=0∧ddO b=d:=by
 obtain⟨h1,h2,h3⟩:=bS1 h;obtain⟨e1,e2⟩:=cA0 h2;have hb2:b=uJ (iO d):=by rw[←hb,h3]
 have e:sV b=some d:=by
  unfold sV;rw[hb2,if_pos e1,e2,bS2 h1,Option.bind_some,if_pos ⟨h,h3⟩]
 exact⟨e,by rw[ddE,e,hb2,e1];rfl,by rw[ddO,e];rfl⟩
def RunD (f:List Ln→List aH→Option (List Ln))(ws:List (List aH))(i:Nat)(st:List Ln):Prop:=(ws.take i).foldlM f []=some st
variable {ws:List (List aH)}{f:List Ln→List aH→Option (List Ln)}
theorem RunD.init :RunD f ws 0 []:=rfl
variable {st:List Ln}{i:Nat}
theorem RunD.next {st':List Ln}(h:RunD f ws i st)(hi:i<ws.length)(hs:f st ws[i]=some st'):RunD f ws (i+1) st':=by
 unfold RunD at h⊢;rw[List.take_succ_eq_append_getElem hi,List.foldlM_append,h];show [ws[i]].foldlM f st=_;rw[List.foldlM_cons,hs];rfl
theorem RunD.bad (h:RunD f ws i st)(hi:i<ws.length)(hs:f st ws[i]=none):ws.foldlM f []=none:=by
 unfold RunD at h;rw[←List.take_append_drop i ws,List.foldlM_append,h,List.drop_eq_getElem_cons hi];show(ws[i]::ws.drop (i+1)).foldlM f st=_;rw[List.foldlM_cons,hs];rfl
theorem RunD.fin (h:RunD f ws ws.length st):ws.foldlM f []=some st:=by
 unfold RunD at h
 rwa [List.take_length]at h
end Go.Pl
namespace Go.Proofs.YthedbjfipmkpiaaGreatDoor
open Go Go.Hl Go.Pl Go.RowKit Go.Shelf
set_option maxRecDepth 100000
def cA3 :Go.Shelf.Ren:=⟨fun|173=>81|246=>110|283=>135|284=>136|285=>137|286=>138|129=>121|317=>161|318=>162|319=>163|320=>164|337=>174|338=>175|n=>n,fun|2=>2|3=>3|9=>9|4=>4|171=>180|0=>0|53=>135|37=>52|5=>5|173=>182|212=>199|51=>168|20=>20|213=>200|46=>72|232=>43|233=>213|n=>n,fun|17=>1|18=>4|19=>5|n=>n⟩
theorem cI5 :Go.Proofs.LaysM.n173 Tryz.prog cA3:={
  mixed:=by kernel_rfl
  f129:=Tryz.func121.trans (congrArg some (by kernel_rfl))
  f173:=Tryz.func81.trans (congrArg some (by kernel_rfl))
  f246:=Tryz.func110.trans (congrArg some (by kernel_rfl))
  f283:=Tryz.func135.trans (congrArg some (by kernel_rfl))
  f284:=Tryz.func136.trans (congrArg some (by kernel_rfl))
  f285:=Tryz.func137.trans (congrArg some (by kernel_rfl))
  f286:=Tryz.func138.trans (congrArg some (by kernel_rfl))
  f317:=Tryz.func161.trans (congrArg some (by kernel_rfl))
  f318:=Tryz.func162.trans (congrArg some (by kernel_rfl))
  f319:=Tryz.func163.trans (congrArg some (by kernel_rfl))
  f320:=Tryz.func164.trans (congrArg some (by kernel_rfl))
  f337:=Tryz.func174.trans (congrArg some (by kernel_rfl))
  f338:=Tryz.func175.trans (congrArg some (by kernel_rfl))
  t0:=Tryz.underlying0
  a0:=Tryz.isAgg0
  z0:=Tryz.sizeOf0
  v0:=Tryz.zeroValue0
  t2:=Tryz.underlying2
  a2:=Tryz.isAgg2
  z2:=Tryz.sizeOf2
  v2:=Tryz.zeroValue2
  t3:=Tryz.underlying3
  a3:=Tryz.isAgg3
  z3:=Tryz.sizeOf3
  v3:=Tryz.zeroValue3
  t4:=Tryz.underlying4
  a4:=Tryz.isAgg4
  z4:=Tryz.sizeOf4
  v4:=Tryz.zeroValue4
  t5:=Tryz.underlying5
  a5:=Tryz.isAgg5
  z5:=Tryz.sizeOf5
  v5:=Tryz.zeroValue5
  t9:=Tryz.underlying9
  a9:=Tryz.isAgg9
  z9:=Tryz.sizeOf9
  v9:=Tryz.zeroValue9
  t20:=Tryz.underlying20
  a20:=Tryz.isAgg20
  z20:=Tryz.sizeOf20
  v20:=Tryz.zeroValue20
  t37:=Tryz.underlying52
  a37:=Tryz.isAgg52
  z37:=Tryz.sizeOf52
  v37:=Tryz.zeroValue52
  t46:=Tryz.underlying72
  a46:=Tryz.isAgg72
  z46:=Tryz.sizeOf72
  v46:=Tryz.zeroValue72
  t51:=Tryz.underlying168
  a51:=Tryz.isAgg168
  z51:=Tryz.sizeOf168
  v51:=Tryz.zeroValue168
  t53:=Tryz.underlying135
  a53:=Tryz.isAgg135
  z53:=Tryz.sizeOf135
  v53:=Tryz.zeroValue135
  t171:=Tryz.underlying180
  a171:=Tryz.isAgg180
  z171:=Tryz.sizeOf180
  v171:=Tryz.zeroValue180
  t173:=Tryz.underlying182
  a173:=Tryz.isAgg182
  z173:=Tryz.sizeOf182
  v173:=Tryz.zeroValue182
  t212:=Tryz.underlying199
  a212:=Tryz.isAgg199
  z212:=Tryz.sizeOf199
  v212:=Tryz.zeroValue199
  t213:=Tryz.underlying200
  a213:=Tryz.isAgg200
  z213:=Tryz.sizeOf200
  t232:=Tryz.underlying43
  a232:=Tryz.isAgg43
  z232:=Tryz.sizeOf43
  v232:=Tryz.zeroValue43
  t233:=Tryz.underlying213
  a233:=Tryz.isAgg213
  z233:=Tryz.sizeOf213
  v233:=Tryz.zeroValue213
  g17:=by kernel_rfl
  g18:=by kernel_rfl
  g19:=by kernel_rfl
  i0:=by kernel_rfl
  i2:=by kernel_rfl
  i3:=by kernel_rfl
  i4:=by kernel_rfl
  i5:=by kernel_rfl
  i9:=by kernel_rfl
  i20:=by kernel_rfl
  i37:=by kernel_rfl
  i46:=by kernel_rfl
  i51:=by kernel_rfl
  i53:=by kernel_rfl
  i171:=by kernel_rfl
  i173:=by kernel_rfl
  i212:=by kernel_rfl
  i232:=by kernel_rfl
  i233:=by kernel_rfl
  m17:=by kernel_rfl
  m18:=by kernel_rfl
  m19:=by kernel_rfl}
theorem aF1 :Tryz.prog.globalNamed "internal/strconv.uint64pow10" =some 1:=by kernel_rfl
def tabs :mY:=[(1,Lib.pow10Tab.map fun z=>Value.int .u64 z)]
theorem bH7 (n:Int)(h: -9223372036854775808≤n∧n≤9223372036854775807):mZ Tryz.prog 81 tabs [.int .i64 n,.int .i64 10] (fun v=>v= .str (fT n)):=
  aT5 (by kernel_rfl) aF1 (List.mem_cons_self) (fun w hw=>Any.strconv_FormatInt_10 cI5 n h.1 h.2 w hw)
end Go.Proofs.YthedbjfipmkpiaaGreatDoor
namespace Go.Proofs.YthedbjfipmkpiaaGreatDoor
open Go Go.Hl Go.Pl
set_option maxRecDepth 10000
set_option maxHeartbeats 2000000
theorem bS4 (n:Int)(hn: -9223372036854775808≤n∧n≤9223372036854775807):mZ Tryz.prog 46 tabs [.int .i64 n] (fun v=>v= .str (fT n)):=by
 refine bD (args:=[.c (.int .i64 n)]) Tryz.func46 rfl (by kernel_rfl) (fR tabs [.int .i64 n]) (Nat.le_of_ble_eq_true rfl) ?_;refine aE fun K hK=>aD (by kernel_rfl) ?_;simp (maxSteps:=4000000) only[↓sP,sA,tyS,simprocAttr];repeat refine AI ?_
 refine hK _ _ _ ?_;clear hK K;refine aE fun K hK=>aD (by kernel_rfl) ?_;simp only[sR,simprocAttr];refine aC (g:=none) rfl rfl fun K' hK'=>?_;simp (maxSteps:=4000000) only[sH,↓sP,sA,tyS,simprocAttr];repeat refine AI ?_
 refine hK' _ _ ?_;clear hK' K';refine aC (g:=none) rfl rfl fun K' hK'=>?_;simp (maxSteps:=4000000) only[sH,↓sP,sA,tyS,simprocAttr];refine jO (args:=[_,_]) 0 (bH7 n hn) (gD _ 0) (by simp) ⟨rfl,rfl,rfl,rfl⟩ ?_;rintro u rfl;repeat refine AI ?_
 refine hK' _ _ ?_;clear hK' K';refine aC (g:=none) rfl rfl fun K' hK'=>?_;simp (maxSteps:=4000000) only[sH,↓sP,sA,tyS,simprocAttr];repeat refine AI ?_
 refine hK' _ _ ?_;clear hK' K';simp only[sE,↓reduceIte,simprocAttr];repeat refine AI ?_
 refine hK _ _ _ ?_;clear hK K;refine aJ ?_;simp (maxSteps:=4000000) only[aT,Tryz.results46,aR,aS,aQ,↓sP,sA,tyS,simprocAttr];exact lR [] (.str _) rfl (gD _ 0) (by simp) rfl
end Go.Proofs.YthedbjfipmkpiaaGreatDoor
